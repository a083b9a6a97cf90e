/-
 PROVED: Plain lemmas on numbers and lists, of what the printed functions answer. No condition beside those of each lemma.
-/
import Derived.Test.YtjnkpocfmpbpoaaFLem4
import Derived.Test.YtjnkpocfmpbpoaaFx7
import Derived.Test.YtjnkpocfmpbpoaaFx8
import Derived.Test.YtjnkpocfmpbpoaaFx9
import Derived.Test.YtjnkpocfmpbpoaaFx10
import Derived.Test.YtjnkpocfmpbpoaaFx11
import Derived.Test.YtjnkpocfmpbpoaaFx12
namespace Go.Proofs.Ytjnkpocfmpbpoaa.F
open Go.RowKit Go.Proofs.YtjnkpocfmpbpoaaW.PrintWords Go.Proofs.YtjnkpocfmpbpoaaW.PrintLast Go.Proofs.YtjnkpocfmpbpoaaW.PrintMore Go.Proofs.Ytjnkpocfmpbpoaa.Ho
set_option linter.unusedVariables false
set_option linter.unusedSimpArgs false
/-! ### who may go on -/
abbrev Cl := S98
def chgW (h : List Cl) (w : Wr) : Bool := if (getB h w.f0).2 = 0 then (getB h w.f0).1 != w.f1 else true
theorem changed_f (a b c : Int) (w : List Wr) (t : List S80) (h : List Cl) : filter_changed.f a b c w t h = some (w.any (chgW h)) := by
 unfold filter_changed.f any_at_filter_changed_1.f
 rw [anyF_T (f := fun x : Wr => filter_changed_1.f x.f0 x.f1 h) (p := chgW h) w (fun x _ => by
  unfold filter_changed_1.f chgW
  rw [Get_f, Option.bind_some]
  split <;> rfl)]
 rfl
def tellB (t : List S80) (h : List Cl) : Bool := if (evalB t h []).2 = 0 then (evalB t h []).1 != 0 else false
theorem holds_f (k : Nat) (a b c : Int) (w : List Wr) (t : List S80) (h : List Cl) (hk : 20 ≤ k) : filter_holds.f k a b c w t h = some (tellB t h) := by
 unfold filter_holds.f tellB
 rw [Eval_f k t h [] hk, Option.bind_some]
 split <;> rfl
def goB (s : Sp) (h : List Cl) : Bool := if s.f1 = 1 then true else if s.f1 = 2 then s.f3.any (chgW h) else tellB s.f4 h
def mayF (s : Sp) (h : List Cl) : Bool := maySp s && (RightB h && goB s h)
theorem maySp_mode {s : Sp} (h : maySp s = true) : s.f1 = 1 ∨ s.f1 = 2 ∨ s.f1 = 3 := by
 unfold maySp at h
 simp only [Bool.and_eq_true] at h
 obtain ⟨_, _, _, h⟩ := h
 by_cases e3 : s.f1 = 3
 · exact .inr (.inr e3)
 · rw [if_neg e3] at h
   by_cases e1 : s.f1 = 1
   · exact .inl e1
   · rw [if_neg e1] at h
     by_cases e2 : s.f1 = 2
     · exact .inr (.inl e2)
     · rw [if_neg e2] at h; exact absurd h (by decide)
theorem rightS_one (s : Sp) : rightS [s] = maySp s := by
 unfold rightS
 rw [Bool.eq_iff_iff, decide_eq_true_eq]
 exact ⟨fun h => h.1 s (by simp), fun h => ⟨fun x hx => by rw [List.mem_singleton.1 hx]; exact h, List.pairwise_singleton _ _⟩⟩
abbrev Few1 (s : Sp) : Prop := s.f3.length ≤ 40 ∧ s.f4.length ≤ 20
theorem May_f (k : Nat) (s : Sp) (h : List Cl) (hs : Few1 s) (hk : 1400 < k) : filter_May.f k s.f0 s.f1 s.f2 s.f3 s.f4 h = some (mayF s h) := by
 unfold filter_May.f mayF
 rw [show (⟨s.f0, s.f1, s.f2, s.f3, s.f4⟩ : Sp) = s from rfl, RightF_f k [s] ⟨by simp, fun x hx => by rw [List.mem_singleton.1 hx]; exact hs⟩ (by omega), Option.bind_some, rightS_one, Right_f, Option.bind_some]
 by_cases hm : maySp s = true
 · rw [if_pos hm, hm, Bool.true_and]
   by_cases hr : RightB h = true
   · rw [if_pos hr, hr, Bool.true_and]
     unfold goB
     by_cases e1 : s.f1 = 1
     · rw [if_pos e1, if_pos e1]; rfl
     · rw [if_neg e1, if_neg e1]
       by_cases e2 : s.f1 = 2
       · rw [if_pos e2, if_pos e2, changed_f]; rfl
       · have e3 : s.f1 = 3 := by rcases maySp_mode hm with e | e | e <;> first | exact e | exact absurd e e1 | exact absurd e e2
         rw [if_neg e2, if_neg e2, if_pos e3, holds_f k _ _ _ _ _ _ (by omega)]; rfl
   · rw [if_neg hr, Bool.eq_false_iff.2 hr]; rfl
 · rw [if_neg hm, Bool.eq_false_iff.2 hm]; rfl
def wakes (w : List Wr) (h : List Cl) (s : Sp) : Bool := isOf (w.map fun x => x.f0) s && mayF s h
def wokenB (l : List Sp) (h : List Cl) (w : List Wr) : List Int := if rightS l = true then (l.filter (wakes w h)).map fun s => s.f0 else []
def wakeL (l : List Sp) (h : List Cl) (w : List Wr) : List Sp := if rightS l = true then l.filter (fun s => !(wakes w h s)) else l
theorem Woken_l1 (l L : List Sp) (h : List Cl) (hF : FewS l) (hR : RS l) (hL : ∀ x ∈ L, x ∈ l) (hm : L.length ≤ 30) (d : Nat) : ∀ (k i : Nat), i ≤ L.length → L.length - i = d → d + 1500 < k →
 filter_Woken.l1 k l h (((L.take i).filter fun s => mayF s h).map fun s => s.f0) (L.map fun s => s.f0) (L.length : Int) (i : Int) = some ((L.filter fun s => mayF s h).map fun s => s.f0) := by
 induction d with
 | zero =>
  intro k i hi hd hk
  obtain ⟨k, rfl⟩ : ∃ m, k = m + 1 := ⟨k - 1, by omega⟩
  simp only [filter_Woken.l1]
  rw [if_neg (by omega), List.take_of_length_le (by omega)]
 | succ d ih =>
  intro k i hi hd hk
  obtain ⟨k, rfl⟩ : ∃ m, k = m + 1 := ⟨k - 1, by omega⟩
  have next := ih k (i + 1) (by omega) (by omega) (by omega)
  have hmem := getD_in L z26 i (by omega)
  rw [take_snG L z26 i (by omega), List.filter_append, List.map_append] at next
  have hrd : rd (L.map fun s => s.f0) (i : Int) = (L.getD i z26).f0 := by
   show (L.map fun s => s.f0).getD i 0 = _
   rw [List.getD_eq_getElem?_getD, List.getElem?_map, List.getD_eq_getElem?_getD, List.getElem?_eq_getElem (by omega)]; rfl
  simp only [filter_Woken.l1]
  rw [if_pos (by omega), if_pos (by omega), if_pos (by rw [List.length_map]; omega), hrd, wrN (by omega)]
  generalize L.getD i z26 = s at *
  have hs := hL s hmem
  obtain ⟨j, hj, rfl⟩ := mem_idx hs
  rw [Find_f k l hF hR j hj (by omega), Option.bind_some, May_f k _ h (hF.2 _ hs) (by omega), Option.bind_some]
  by_cases g : mayF (l.getD j z26) h = true
  · rw [if_pos g, if_pos (by
     rw [List.length_map]
     refine Nat.lt_of_le_of_lt (List.length_filter_le _ _) ?_
     rw [List.length_take]; omega)]
    rw [List.filter_cons, if_pos g] at next
    exact next
  · rw [if_neg g]
    rw [List.filter_cons, if_neg g, List.filter_nil, List.map_nil, List.append_nil] at next
    exact next
theorem Woken_l0 (l : List Sp) (h : List Cl) (w : List Wr) (hF : FewS l) (hm : w.length ≤ 100) (d : Nat) : ∀ (k i : Nat), i ≤ w.length → w.length - i = d → d + 1600 < k →
 filter_Woken.l0 k l h ((w.take i).map fun x => x.f0) w (w.length : Int) (i : Int) = some (wokenB l h w) := by
 induction d with
 | zero =>
  intro k i hi hd hk
  obtain ⟨k, rfl⟩ : ∃ m, k = m + 1 := ⟨k - 1, by omega⟩
  simp only [filter_Woken.l0]
  rw [if_neg (by omega), List.take_of_length_le (by omega)]
  unfold wokenB
  by_cases hr : rightS l = true
  · have hR := (rightS_iff l).1 hr
    rw [Of_f k l _ hF hR (by rw [List.length_map]; omega) (by omega), Option.bind_some, if_pos hr]
    have hlf := List.length_filter_le (isOf (w.map fun x => x.f0)) l
    have hl := hF.1
    have := Woken_l1 l (l.filter (isOf (w.map fun x => x.f0))) h hF hR (fun x hx => (List.mem_filter.1 hx).1) (by omega) _ k 0 (by omega) rfl (by omega)
    rw [List.filter_filter, show ((0 : Nat) : Int) = 0 from rfl] at this
    rw [List.length_map]
    refine Eq.trans this ?_
    congr 2
    apply List.filter_congr
    intro x _
    unfold wakes
    rw [Bool.and_comm]
  · rw [Of_no k l _ hF hr (by omega), Option.bind_some, if_neg hr]
    obtain ⟨k, rfl⟩ : ∃ m, k = m + 1 := ⟨k - 1, by omega⟩
    simp only [filter_Woken.l1]
    rw [if_neg (by simp)]
 | succ d ih =>
  intro k i hi hd hk
  obtain ⟨k, rfl⟩ : ∃ m, k = m + 1 := ⟨k - 1, by omega⟩
  have next := ih k (i + 1) (by omega) (by omega) (by omega)
  rw [take_snG w z62 i (by omega), List.map_append] at next
  simp only [filter_Woken.l0]
  rw [if_pos (by omega), if_pos (by omega), if_pos (by omega), if_pos (by rw [List.length_map, List.length_take]; omega), wrN (by omega), show rd_T62 w (i : Int) = w.getD i z62 from rfl]
  exact next
theorem Woken_f (k : Nat) (l : List Sp) (h : List Cl) (w : List Wr) (hF : FewS l) (hm : w.length ≤ 100) (hk : 1800 < k) : filter_Woken.f k l h w = some (wokenB l h w) := by
 unfold filter_Woken.f
 exact Woken_l0 l h w hF hm w.length k 0 (by omega) (by omega) (by omega)
theorem dropL_all (l : List Sp) : ∀ (ws : List Int) (x : List Sp), (∀ w ∈ ws, ∃ s ∈ x, s.f0 = w) → ws.Nodup → dropL l x ws = (x.filter (fun s => !(ws.contains s.f0)), 0)
 | [], x, _, _ => by
  simp only [dropL]
  congr 1
  symm
  rw [List.filter_eq_self]
  intro s _
  simp
 | w :: ws, x, hin, hn => by
  rw [List.nodup_cons] at hn
  simp only [dropL]
  rw [if_pos (by
   obtain ⟨s, hs, e⟩ := hin w (by simp)
   exact List.any_eq_true.2 ⟨s, hs, by simpa using e⟩)]
  rw [dropL_all l ws _ (fun v hv => by
   obtain ⟨s, hs, e⟩ := hin v (by simp [hv])
   refine ⟨s, List.mem_filter.2 ⟨hs, ?_⟩, e⟩
   have : s.f0 ≠ w := fun g => hn.1 (by rw [← g, e]; exact hv)
   simpa using this) hn.2, List.filter_filter]
  congr 1
  apply List.filter_congr
  intro s _
  rw [List.contains_cons]
  cases h1 : ws.contains s.f0 <;> cases h2 : (s.f0 == w) <;> simp_all
theorem uniq {l : List Sp} (h : l.Pairwise Lt) {a b : Sp} (ha : a ∈ l) (hb : b ∈ l) (e : a.f0 = b.f0) : a = b := by
 obtain ⟨i, hi, rfl⟩ := mem_idx ha
 obtain ⟨j, hj, rfl⟩ := mem_idx hb
 rcases Nat.lt_trichotomy i j with q | q | q
 · have := lt_at h i j q hj; omega
 · rw [q]
 · have := lt_at h j i q hi; omega
theorem who_in {l : List Sp} (h : l.Pairwise Lt) (p : Sp → Bool) {s : Sp} (hs : s ∈ l) : ((l.filter p).map fun s => s.f0).contains s.f0 = p s := by
 rw [Bool.eq_iff_iff, List.contains_iff_mem]
 constructor
 · intro g
   obtain ⟨t, ht, e⟩ := List.mem_map.1 g
   have := uniq h ((List.mem_filter.1 ht).1) hs e
   rw [← this]
   exact (List.mem_filter.1 ht).2
 · intro g
   exact List.mem_map.2 ⟨s, List.mem_filter.2 ⟨hs, g⟩, rfl⟩
theorem who_nodup {l : List Sp} (h : l.Pairwise Lt) (p : Sp → Bool) : ((l.filter p).map fun s => s.f0).Nodup := by
 unfold List.Nodup
 rw [List.pairwise_map]
 refine (h.sublist List.filter_sublist).imp fun g => ?_
 intro e
 have : _ < _ := g
 omega
theorem Wake_f (k : Nat) (l : List Sp) (h : List Cl) (w : List Wr) (hF : FewS l) (hm : w.length ≤ 100) (hk : 1800 < k) : filter_Wake.f k l h w = some (wakeL l h w, wokenB l h w) := by
 have hl := hF.1
 unfold filter_Wake.f
 rw [Woken_f k l h w hF hm hk, Option.bind_some]
 unfold wokenB wakeL
 by_cases hr : rightS l = true
 · have hR := (rightS_iff l).1 hr
   rw [if_pos hr, if_pos hr]
   have hlf := List.length_filter_le (wakes w h) l
   rw [Drop_f k l hF hR _ (by rw [List.length_map]; omega) (by omega), dropL_all l _ l (fun v hv => by
    obtain ⟨t, ht, e⟩ := List.mem_map.1 hv
    exact ⟨t, (List.mem_filter.1 ht).1, e⟩) (who_nodup hR.2 _)]
   simp only [Option.bind_some]
   congr 2
   apply List.filter_congr
   intro s hs
   rw [who_in hR.2 _ hs]
 · rw [if_neg hr, if_neg hr]
   unfold sleep_Drop.f
   rw [CloneS_f l (by omega), Option.bind_some, RightF_f _ l hF (by omega), Option.bind_some, if_neg hr]
   rfl
theorem awake16 (k : Nat) (hk : 2100 ≤ k) : handshakerlaw16_awake.f k = some true :=
 at_rounds (g := handshakerlaw16_awake.f) handshakerlaw16_awake.mono (Nat.le_trans (by decide : 80 ≤ 2100) hk) (by decide +kernel)
end Go.Proofs.Ytjnkpocfmpbpoaa.F
