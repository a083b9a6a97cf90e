/-
 PROVED: one of Other or Holds, who lies down, is woken at just the first write behind which they may go on; ahead of it they never may; for all sleepers, heaps and writes. Condition: each argument is of its kind; nothing else.
-/
import Derived.Test.YtjnkpocfmpbpoaaFLem6
import Derived.Test.YtjnkpocfmpbpoaaFx12
import Derived.Test.YtjnkpocfmpbpoaaFx22
namespace Go.Proofs.Ytjnkpocfmpbpoaa.F
open Go.RowKit Go.Proofs.YtjnkpocfmpbpoaaW.PrintWords Go.Proofs.YtjnkpocfmpbpoaaW.PrintLast Go.Proofs.YtjnkpocfmpbpoaaW.PrintMore Go.Proofs.Ytjnkpocfmpbpoaa.Ho
set_option linter.unusedVariables false
set_option linter.unusedSimpArgs false
/-! ### who lies down -/
theorem Lie_f (k : Nat) (l : List Sp) (s : Sp) (h : List Cl) (hl : FewS l) (hs : Few1 s) (hk : 1500 < k) :
 ∃ r e, filter_Lie.f k l s.f0 s.f1 s.f2 s.f3 s.f4 h = some (r, e) ∧ ((e ≠ 0 ∧ r = l ∧ (RightB h = true → RS l → maySp s = true → e = 9)) ∨ (e = 0 ∧ RightB h = true ∧ RS l ∧ maySp s = true ∧ (∀ x ∈ l, x.f0 ≠ s.f0) ∧ (∃ c, Cut l s.f0 c ∧ r = l.take c ++ [s] ++ l.drop c) ∧ (s.f1 = 1 ∨ mayF s h = false))) := by
 obtain ⟨r, e, hA, hcase⟩ := Add_f k l s hl hs.1 (by omega)
 unfold filter_Lie.f
 rw [hA, Option.bind_some, Right_f, Option.bind_some]
 dsimp only
 by_cases hr : RightB h = true
 · rw [if_pos hr]
   rcases hcase with ⟨he, hrl, h9⟩ | ⟨he, hR, hM, hno, hc⟩
   · rw [if_neg he]
     exact ⟨l, e, rfl, .inl ⟨he, rfl, fun _ a b => (h9 a b).1⟩⟩
   · rw [if_pos he]
     by_cases h1 : s.f1 = 1
     · rw [if_pos h1]
       exact ⟨r, 0, rfl, .inr ⟨rfl, hr, hR, hM, hno, hc, .inl h1⟩⟩
     · rw [if_neg h1, May_f k s h hs (by omega), Option.bind_some]
       by_cases hm : mayF s h = true
       · rw [if_pos hm]
         exact ⟨l, 9, rfl, .inl ⟨by decide, rfl, fun _ _ _ => rfl⟩⟩
       · rw [if_neg hm]
         exact ⟨r, 0, rfl, .inr ⟨rfl, hr, hR, hM, hno, hc, .inr (Bool.eq_false_iff.2 hm)⟩⟩
 · rw [if_neg hr]
   exact ⟨l, 1, rfl, .inl ⟨by decide, rfl, fun a => absurd a hr⟩⟩
theorem runT_congr {h h' : List S98} {regs regs' : List Int} : ∀ (t : List S80) (p : List Int), (∀ o ∈ t, takes o.f0 = 0 → leafB o h regs = leafB o h' regs') → runT h regs t p = runT h' regs' t p
 | [], p, _ => rfl
 | o :: os, p, he => by
  have e : stepB h regs o p = stepB h' regs' o p := by
   unfold stepB
   split
   · rename_i h0; rw [he o (by simp) h0]
   · rfl
   · rfl
   · rfl
  simp only [runT, e]
  split
  · exact runT_congr os _ (fun x hx => he x (by simp [hx]))
  · rfl
theorem evalB_congr {t : List S80} {h h' : List S98} {regs regs' : List Int} (hr : RightB h = RightB h') (hl : checkB t = 0 → RightB h = true → ∀ o ∈ t, takes o.f0 = 0 → leafB o h regs = leafB o h' regs') : evalB t h regs = evalB t h' regs' := by
 unfold evalB
 by_cases h1 : checkB t = 0
 · rw [if_pos h1, if_pos h1, ← hr]
   by_cases h2 : RightB h = true
   · rw [if_pos h2, if_pos h2, runT_congr t [] (hl h1 h2)]
   · rw [if_neg h2, if_neg h2]
 · rw [if_neg h1, if_neg h1]
/-- What stands where nothing is taken is a number, a cell or a register. -/
theorem may_leaf {o : S80} (hm : mayB o.f0 o.f1 = true) (ht : takes o.f0 = 0) : o.f0 = 1 ∨ (o.f0 = 2 ∧ 0 ≤ o.f1 ∧ o.f1 < 64) ∨ (o.f0 = 3 ∧ 0 ≤ o.f1 ∧ o.f1 < 8) := by
 unfold mayB at hm
 split at hm
 · exact .inl (by assumption)
 · split at hm
   · exact .inr (.inl ⟨by assumption, by simpa using hm⟩)
   · split at hm
     · exact .inr (.inr ⟨by assumption, by simpa using hm⟩)
     · rw [ht] at hm; simp at hm
theorem mem_comp (l : List Int) (x : Int) (h : x ∈ l) : x ∈ Go.Lib.compact l := by
 have key : ∀ i : Nat, i < l.length → ∃ j, j ≤ i ∧ Go.Lib.keeps l.toArray j = true ∧ l.toArray[j]! = l.toArray[i]! := by
  intro i
  induction i with
  | zero => intro _; exact ⟨0, by omega, by simp [Go.Lib.keeps], rfl⟩
  | succ i ih =>
   intro hi
   by_cases e : l.toArray[i + 1]! = l.toArray[i]!
   · obtain ⟨j, h1, h2, h3⟩ := ih (by omega)
     exact ⟨j, by omega, h2, h3.trans e.symm⟩
   · exact ⟨i + 1, by omega, by unfold Go.Lib.keeps; exact decide_eq_true (.inr (by simpa using e)), rfl⟩
 obtain ⟨i, hi, rfl⟩ := List.mem_iff_getElem.1 h
 obtain ⟨j, h1, h2, h3⟩ := key i hi
 unfold Go.Lib.compact Go.Lib.compactUpTo
 refine List.mem_map.2 ⟨j, List.mem_filter.2 ⟨List.mem_range.2 (by omega), h2⟩, ?_⟩
 rw [h3]
 simp [getElem!_pos, hi]
theorem mem_cells {t : List S80} (hc : checkB t = 0) {o : S80} (ho : o ∈ t) (h2 : o.f0 = 2) : o.f1 ∈ cellsB t := by
 unfold cellsB
 rw [if_pos hc]
 refine mem_comp _ _ (List.mem_mergeSort.2 ?_)
 exact List.mem_map.2 ⟨o, List.mem_filter.2 ⟨ho, by simp [h2]⟩, rfl⟩
/-! ### one alone, behind each write -/
theorem getB_put1 {g : List Cl} {x : Wr} (he : (putB g [x]).2 = 0) (c : Int) (hc : c ≠ x.f0) : getB (putB g [x]).1 c = getB g c := by
 obtain ⟨hr, e⟩ := putB_cond he
 have hr2 := putB_right (l := [x]) hr
 have ht := there_put (h := g) (l := [x]) c
 unfold getB
 rw [if_pos hr2, if_pos hr, ht]
 by_cases h : there g c = true
 · obtain ⟨h0, h1, _⟩ := there_rng h
   rw [if_pos h, if_pos h]
   rw [e] at he ⊢
   simp only [putL] at he ⊢
   by_cases hx : there g x.f0 = true
   · rw [if_pos hx] at he ⊢
     obtain ⟨x0, x1, _⟩ := there_rng hx
     rw [getD_set _ _ _ _ (by omega), if_neg (by omega)]
   · rw [if_neg hx] at he
     exact absurd he (by show ¬ ((3 : Int) = 0); decide)
 · rw [if_neg h, if_neg h]
theorem may_named {t : List S80} {g g' : List Cl} (hr : RightB g = RightB g') (hc : ∀ c ∈ cellsB t, getB g c = getB g' c) (hn : (t.any fun o => o.f0 == 3) = false) : evalB t g [] = evalB t g' [] := by
 refine evalB_congr hr fun hk _ o ho ht => ?_
 unfold leafB
 rcases may_leaf ((checkB_ok hk).2.2.1 o ho) ht with h1 | ⟨h2, h3, h4⟩ | ⟨h2, h3, h4⟩
 · rw [if_pos h1, if_pos h1]
 · rw [h2]
   exact hc _ (mem_cells hk ho h2)
 · rw [h2]; rfl
theorem mode3 {s : Sp} (hs : maySp s = true) (h3 : s.f1 = 3) : (s.f4.any fun o => o.f0 == 3) = false ∧ (s.f3.map fun x => x.f0) = cellsB s.f4 := by
 unfold maySp at hs
 simp only [Bool.and_eq_true] at hs
 obtain ⟨_, _, _, h⟩ := hs
 rw [if_pos h3] at h
 split at h
 · split at h
   · exact absurd h (by decide)
   · exact ⟨Bool.eq_false_iff.2 ‹_›, of_decide_eq_true h⟩
 · exact absurd h (by decide)
theorem go_same {s : Sp} (hs : maySp s = true) (h1 : s.f1 ≠ 1) {g g' : List Cl} (hr : RightB g = RightB g') (hc : ∀ w ∈ s.f3, getB g w.f0 = getB g' w.f0) : goB s g = goB s g' := by
 unfold goB
 rw [if_neg h1, if_neg h1]
 by_cases h2 : s.f1 = 2
 · rw [if_pos h2, if_pos h2, Bool.eq_iff_iff, List.any_eq_true, List.any_eq_true]
   constructor
   · rintro ⟨w, hw, h⟩
     exact ⟨w, hw, by unfold chgW at h ⊢; rwa [← hc w hw]⟩
   · rintro ⟨w, hw, h⟩
     exact ⟨w, hw, by unfold chgW at h ⊢; rwa [hc w hw]⟩
 · rw [if_neg h2, if_neg h2]
   have h3 : s.f1 = 3 := by rcases maySp_mode hs with e | e | e <;> first | exact e | exact absurd e h1 | exact absurd e h2
   obtain ⟨a, b⟩ := mode3 hs h3
   unfold tellB
   rw [may_named (t := s.f4) hr (fun c hcm => by
    rw [← b] at hcm
    obtain ⟨w, hw, rfl⟩ := List.mem_map.1 hcm
    exact hc w hw) a]
theorem next_may {s : Sp} (hs : maySp s = true) (h1 : s.f1 ≠ 1) {g : List Cl} (hg : RightB g = true) {x : Wr} (he : (putB g [x]).2 = 0) (hm : mayF s g = false) (ho : isOf [x.f0] s = false) : mayF s (putB g [x]).1 = false := by
 have hr2 := putB_right (l := [x]) hg
 unfold mayF at hm ⊢
 rw [hs, hg, Bool.true_and, Bool.true_and] at hm
 rw [hs, hr2, Bool.true_and, Bool.true_and, ← hm]
 refine go_same hs h1 (by rw [hg, hr2]) fun w hw => getB_put1 he _ fun e => ?_
 rw [Bool.eq_false_iff] at ho
 apply ho
 unfold isOf
 exact List.any_eq_true.2 ⟨w, hw, by rw [e]; simp⟩
theorem wake_one {s : Sp} (hs : maySp s = true) (g : List Cl) (u : List Wr) : wakeL [s] g u = (if wakes u g s = true then [] else [s]) ∧ wokenB [s] g u = if wakes u g s = true then [s.f0] else [] := by
 unfold wokenB wakeL
 rw [rightS_one, if_pos hs, if_pos hs, List.filter_cons, List.filter_nil, List.filter_cons, List.filter_nil]
 by_cases q : wakes u g s = true
 · rw [if_pos q, if_pos q, if_pos q, if_neg (by rw [q]; decide)]; exact ⟨rfl, rfl⟩
 · rw [if_neg q, if_neg q, if_neg q, if_pos (by rw [Bool.eq_false_iff.2 q]; rfl)]; exact ⟨rfl, rfl⟩
theorem Lasts_l0 (s : Sp) (hs : maySp s = true) (h1 : s.f1 ≠ 1) (hF : Few1 s) (w : List Wr) (hw : w.length ≤ 40) (d : Nat) : ∀ (k i : Nat) (g : List Cl), i ≤ w.length → w.length - i = d → 2 * d + 2500 < k → RightB g = true → mayF s g = false →
 handshakerlaw16_FilterLasts.l0 k [s] g w (w.length : Int) (i : Int) s.f0 s.f1 s.f2 s.f3 s.f4 = some true := by
 have hFS : FewS [s] := ⟨by simp, fun x hx => by rw [List.mem_singleton.1 hx]; exact hF⟩
 induction d with
 | zero =>
  intro k i g hi hd hk hg hm
  obtain ⟨k, rfl⟩ : ∃ m, k = m + 1 := ⟨k - 1, by omega⟩
  simp only [handshakerlaw16_FilterLasts.l0]
  rw [if_neg (by omega), awake16 k (by omega)]; rfl
 | succ d ih =>
  intro k i g hi hd hk hg hm
  obtain ⟨k, rfl⟩ : ∃ m, k = m + 1 := ⟨k - 1, by omega⟩
  simp only [handshakerlaw16_FilterLasts.l0]
  rw [if_pos (by omega), if_pos (by omega), if_pos (by omega), show rd_T62 w (i : Int) = w.getD i z62 from rfl, wrN (by omega)]
  generalize w.getD i z62 = x
  rw [show (⟨x.f0, x.f1⟩ : Wr) = x from rfl, Put_f k g [x] (by simp) (by simp; omega), Option.bind_some]
  by_cases he : (putB g [x]).2 = 0
  · have hr2 := putB_right (l := [x]) hg
    rw [if_pos he, Wake_f k [s] _ [x] hFS (by simp) (by omega), Option.bind_some, May_f k s _ hF (by omega), Option.bind_some]
    obtain ⟨e1, e2⟩ := wake_one hs (putB g [x]).1 [x]
    dsimp only
    have hwk : wakes [x] (putB g [x]).1 s = (isOf [x.f0] s && mayF s (putB g [x]).1) := rfl
    cases hm2 : mayF s (putB g [x]).1 with
    | true =>
     have ho : isOf [x.f0] s = true := by
      cases ho : isOf [x.f0] s with
      | true => rfl
      | false => rw [next_may hs h1 hg he hm ho] at hm2; exact absurd hm2 (by decide)
     rw [hm2, ho] at hwk
     have f1 : wakeL [s] (putB g [x]).1 [x] = [] := by rw [e1, hwk]; rfl
     have f2 : wokenB [s] (putB g [x]).1 [x] = [s.f0] := by rw [e2, hwk]; rfl
     have hz : (wrap64 ((([] : List Sp).length : Int) + (([s.f0] : List Int).length : Int)) != 1) = false := by simp only [List.length_cons, List.length_nil, show ((0 : Nat) : Int) + ((0 + 1 : Nat) : Int) = 1 from rfl, show ((0 + 1 : Nat) : Int) + ((0 : Nat) : Int) = 1 from rfl]; rw [show wrap64 1 = 1 by unfold wrap64; omega]; rfl
     obtain ⟨k, rfl⟩ : ∃ m, k = m + 1 := ⟨k - 1, by omega⟩
     rw [f1, f2, if_pos rfl, if_pos (show (([s.f0] : List Int).length : Int) = 1 from rfl), hz]
     simp only [handshakerlaw16_FilterLasts.j2]
     rw [if_neg (by decide), if_pos (show (([s.f0] : List Int).length : Int) = 1 from rfl), if_pos (show 0 < (([s.f0] : List Int).length : Int) from Int.one_pos), if_pos (show rd [s.f0] 0 = s.f0 from rfl), awake16 k (by omega)]; rfl
    | false =>
     rw [hm2, Bool.and_false] at hwk
     have f1 : wakeL [s] (putB g [x]).1 [x] = [s] := by rw [e1, hwk]; rfl
     have f2 : wokenB [s] (putB g [x]).1 [x] = [] := by rw [e2, hwk]; rfl
     have hz : (wrap64 ((([s] : List Sp).length : Int) + (([] : List Int).length : Int)) != 1) = false := by simp only [List.length_cons, List.length_nil, show ((0 : Nat) : Int) + ((0 + 1 : Nat) : Int) = 1 from rfl, show ((0 + 1 : Nat) : Int) + ((0 : Nat) : Int) = 1 from rfl]; rw [show wrap64 1 = 1 by unfold wrap64; omega]; rfl
     obtain ⟨k, rfl⟩ : ∃ m, k = m + 1 := ⟨k - 1, by omega⟩
     rw [f1, f2, if_neg (by decide), if_neg (by decide), hz]
     simp only [handshakerlaw16_FilterLasts.j2]
     rw [if_neg (by decide), if_neg (by decide), wrN (by omega)]
     exact ih k (i + 1) _ (by omega) (by omega) (by omega) hr2 hm2
  · rw [if_neg he]
    exact ih k (i + 1) g (by omega) (by omega) (by omega) hg hm
theorem FilterLasts : handshakerlaw16_FilterLasts.Pure := by
 intro s h w
 intros
 refine ⟨6000, ?_⟩
 generalize hK : 6000 = K
 unfold handshakerlaw16_FilterLasts.f
 obtain ⟨c, hc, hc'⟩ := Small15_f K [s] (by simp) (by simp; omega)
 rw [show ([(⟨s.f0, s.f1, s.f2, s.f3, s.f4⟩ : Sp)] : List Sp) = [s] from rfl, hc, Option.bind_some]
 obtain ⟨K, rfl⟩ : ∃ m, K = m + 1 := ⟨K - 1, by omega⟩
 have aw : handshakerlaw16_FilterLasts.j0 (K + 1) h w true s.f0 s.f1 s.f2 s.f3 s.f4 = some true := by
  simp only [handshakerlaw16_FilterLasts.j0]
  rw [if_pos trivial, awake16 K (by omega)]; rfl
 by_cases h1 : c < 0
 · rw [if_pos h1]; exact aw
 rw [if_neg h1]
 by_cases h2 : (h.length : Int) > 64
 · rw [if_pos h2]; exact aw
 rw [if_neg h2]
 by_cases h3 : (w.length : Int) > 40
 · rw [if_pos h3]; exact aw
 rw [if_neg h3]
 by_cases h4 : s.f1 = 1
 · rw [show (s.f1 == 1) = true by simpa using h4]; exact aw
 rw [show (s.f1 == 1) = false by simpa using h4]
 have q2 : Few1 s := (hc'.resolve_left h1).2.2 s (by simp)
 have hF : FewS [] := ⟨by simp, fun x hx => absurd hx (by simp)⟩
 simp only [handshakerlaw16_FilterLasts.j0]
 obtain ⟨r, e, hA, hcase⟩ := Lie_f K [] s h hF q2 (by omega)
 rw [if_neg (by decide), hA, Option.bind_some]
 dsimp only
 rcases hcase with ⟨he, hr, _⟩ | ⟨he, hH, hR, hM, hno, ⟨i, hCut, hr⟩, hmode⟩
 · rw [if_neg he, hr, if_pos (show ((([] : List Sp).length : Int) = 0) from rfl), awake16 K (by omega)]; rfl
 · have hr1 : r = [s] := by rw [hr]; simp
   rw [if_pos he, May_f K s h q2 (by omega), Option.bind_some, hmode.resolve_left h4, if_neg (by decide), hr1]
   exact Lasts_l0 s hM h4 q2 w (by omega) w.length K 0 h (by omega) (by omega) (by omega) hH (hmode.resolve_left h4)
end Go.Proofs.Ytjnkpocfmpbpoaa.F
namespace Go.Proofs.Ytjnkpocfmpbpoaa.Pure
theorem FilterLasts : Go.Proofs.Ytjnkpocfmpbpoaa.F.handshakerlaw16_FilterLasts.Pure := Go.Proofs.Ytjnkpocfmpbpoaa.F.FilterLasts
end Go.Proofs.Ytjnkpocfmpbpoaa.Pure
