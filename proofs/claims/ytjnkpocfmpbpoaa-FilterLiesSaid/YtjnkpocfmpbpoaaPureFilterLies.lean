/-
 PROVED: who lies down is asleep, and nobody else is changed; of Other and Holds they may not go on then; who sleeps does not lie down again; for all lists, sleepers and heaps. Condition: each argument is of its kind; nothing else.
-/
import Derived.Test.YtjnkpocfmpbpoaaFLem8
import Derived.Test.YtjnkpocfmpbpoaaFx12
import Derived.Test.YtjnkpocfmpbpoaaFx17
import Derived.Test.YtjnkpocfmpbpoaaFx18
import Derived.Test.YtjnkpocfmpbpoaaFx19
import Derived.Test.YtjnkpocfmpbpoaaFx21
namespace Go.Proofs.Ytjnkpocfmpbpoaa.F
open Go.RowKit Go.Proofs.YtjnkpocfmpbpoaaW.PrintWords Go.Proofs.YtjnkpocfmpbpoaaW.PrintLast Go.Proofs.YtjnkpocfmpbpoaaW.PrintMore Go.Proofs.Ytjnkpocfmpbpoaa.Ho
set_option linter.unusedVariables false
set_option linter.unusedSimpArgs false
/-! ### the document's sleepers, and one's own list -/
abbrev TOp := S80
abbrev ROp := S117
abbrev RSp := S39
def refO (o : TOp) : ROp := ⟨o.f0, o.f1⟩
def refSp (s : Sp) : RSp := ⟨s.f0, s.f1, s.f2, s.f3, s.f4.map refO⟩
theorem TRef_l (t : List TOp) (hm : t.length < 4398046511104) (d : Nat) : ∀ (k i : Nat), i ≤ t.length → t.length - i = d → d < k → handshakerlaw07_Ref.l0 k ((t.take i).map refO) t (t.length : Int) (i : Int) = some (t.map refO) := by
 induction d with
 | zero =>
  intro k i hi hd hk
  obtain ⟨k, rfl⟩ : ∃ m, k = m + 1 := ⟨k - 1, by omega⟩
  simp only [handshakerlaw07_Ref.l0]
  rw [if_neg (by omega), List.take_of_length_le (by omega)]
 | succ d ih =>
  intro k i hi hd hk
  obtain ⟨k, rfl⟩ : ∃ m, k = m + 1 := ⟨k - 1, by omega⟩
  have next := ih k (i + 1) (by omega) (by omega) (by omega)
  rw [take_snG t z80 i (by omega), List.map_append] at next
  simp only [handshakerlaw07_Ref.l0]
  rw [if_pos (by omega), if_pos (by omega), if_pos (by omega), if_pos (by rw [List.length_map, List.length_take]; omega), wrN (by omega), show rd_T80 t (i : Int) = t.getD i z80 from rfl]
  exact next
theorem SRef_f (k : Nat) (s : Sp) (hm : s.f4.length ≤ 1000) (hk : 1000 < k) : handshakerlaw15_Ref.f k s.f0 s.f1 s.f2 s.f3 s.f4 = some (s.f0, s.f1, s.f2, s.f3, s.f4.map refO) := by
 unfold handshakerlaw15_Ref.f handshakerlaw07_Ref.f
 have := TRef_l s.f4 (by omega) s.f4.length k 0 (by omega) (by omega) (by omega)
 have e : handshakerlaw07_Ref.l0 k ([] : List ROp) s.f4 (s.f4.length : Int) 0 = some (s.f4.map refO) := this
 rw [e]; rfl
theorem SRefs_l (l : List Sp) (hm : l.length < 1073741824) (ha : ∀ x ∈ l, x.f4.length ≤ 1000) (d : Nat) : ∀ (k i : Nat), i ≤ l.length → l.length - i = d → d + 1001 < k → handshakerlaw15_Refs.l0 k ((l.take i).map refSp) l (l.length : Int) (i : Int) = some (l.map refSp) := by
 induction d with
 | zero =>
  intro k i hi hd hk
  obtain ⟨k, rfl⟩ : ∃ m, k = m + 1 := ⟨k - 1, by omega⟩
  simp only [handshakerlaw15_Refs.l0]
  rw [if_neg (by omega), List.take_of_length_le (by omega)]
 | succ d ih =>
  intro k i hi hd hk
  obtain ⟨k, rfl⟩ : ∃ m, k = m + 1 := ⟨k - 1, by omega⟩
  have next := ih k (i + 1) (by omega) (by omega) (by omega)
  rw [take_snG l z26 i (by omega), List.map_append] at next
  have hmem := ha _ (getD_in l z26 i (by omega))
  simp only [handshakerlaw15_Refs.l0]
  rw [if_pos (by omega), if_pos (by omega), if_pos (by omega), show rd_T26 l (i : Int) = l.getD i z26 from rfl, SRef_f k _ hmem (by omega), Option.bind_some, if_pos (by rw [List.length_map, List.length_take]; omega), wrN (by omega)]
  exact next
theorem SRefs_f (k : Nat) (l : List Sp) (hm : l.length < 1073741824) (ha : ∀ x ∈ l, x.f4.length ≤ 1000) (hk : l.length + 1001 < k) : handshakerlaw15_Refs.f k l = some (l.map refSp) := by
 unfold handshakerlaw15_Refs.f
 exact SRefs_l l hm ha l.length k 0 (by omega) (by omega) (by omega)
theorem TSame_l (t : List ROp) (hm : t.length < 4398046511104) (d : Nat) : ∀ (k i : Nat), i ≤ t.length → t.length - i = d → d < k → handshakerref07_Same.l0 k t t (i : Int) = some true := by
 induction d with
 | zero =>
  intro k i hi hd hk
  obtain ⟨k, rfl⟩ : ∃ m, k = m + 1 := ⟨k - 1, by omega⟩
  simp only [handshakerref07_Same.l0]
  rw [if_neg (by omega)]
 | succ d ih =>
  intro k i hi hd hk
  obtain ⟨k, rfl⟩ : ∃ m, k = m + 1 := ⟨k - 1, by omega⟩
  simp only [handshakerref07_Same.l0]
  rw [if_pos (by omega), if_pos (by omega), if_pos (by omega), if_neg (by simp), wrN (by omega)]
  exact ih k (i + 1) (by omega) (by omega) (by omega)
theorem One2_l (a b c : Int) (w : List Wr) (t : List ROp) (hm : w.length < 4398046511104) (d : Nat) : ∀ (k i : Nat), i ≤ w.length → w.length - i = d → d < k → handshakerref15_One2.l0 k (i : Int) a b c w t a b c w t = some true := by
 induction d with
 | zero =>
  intro k i hi hd hk
  obtain ⟨k, rfl⟩ : ∃ m, k = m + 1 := ⟨k - 1, by omega⟩
  simp only [handshakerref15_One2.l0]
  rw [if_neg (by omega)]
 | succ d ih =>
  intro k i hi hd hk
  obtain ⟨k, rfl⟩ : ∃ m, k = m + 1 := ⟨k - 1, by omega⟩
  simp only [handshakerref15_One2.l0]
  rw [if_pos (by omega), if_pos (by omega), if_pos (by omega), if_neg (by simp), wrN (by omega)]
  exact ih k (i + 1) (by omega) (by omega) (by omega)
theorem One2_f (k : Nat) (a b c : Int) (w : List Wr) (t : List ROp) (hw : w.length ≤ 1000) (ht : t.length ≤ 1000) (hk : 1001 < k) : handshakerref15_One2.f k a b c w t a b c w t = some true := by
 obtain ⟨k, rfl⟩ : ∃ m, k = m + 1 := ⟨k - 1, by omega⟩
 unfold handshakerref15_One2.f handshakerref07_Same.f
 have h1 := TSame_l t (by omega) t.length (k + 1) 0 (by omega) (by omega) (by omega)
 rw [show ((0 : Nat) : Int) = 0 from rfl] at h1
 rw [if_pos rfl, h1, Option.bind_some, if_pos rfl, if_pos rfl, if_pos rfl, if_pos rfl, bne_self_eq_false]
 simp only [handshakerref15_One2.j0]
 rw [if_neg (by decide)]
 exact One2_l a b c w t (by omega) w.length k 0 (by omega) (by omega) (by omega)
theorem Same15_l (x : List RSp) (hm : x.length < 1073741824) (ha : ∀ s ∈ x, s.f3.length ≤ 1000 ∧ s.f4.length ≤ 1000) (d : Nat) : ∀ (k i : Nat), i ≤ x.length → x.length - i = d → d + 1002 < k → handshakerref15_Same.l0 k x x (i : Int) = some true := by
 induction d with
 | zero =>
  intro k i hi hd hk
  obtain ⟨k, rfl⟩ : ∃ m, k = m + 1 := ⟨k - 1, by omega⟩
  simp only [handshakerref15_Same.l0]
  rw [if_neg (by omega)]
 | succ d ih =>
  intro k i hi hd hk
  obtain ⟨k, rfl⟩ : ∃ m, k = m + 1 := ⟨k - 1, by omega⟩
  have hmem := ha _ (getD_in x z39 i (by omega))
  simp only [handshakerref15_Same.l0]
  rw [if_pos (by omega), if_pos (by omega), if_pos (by omega), show rd_T39 x (i : Int) = x.getD i z39 from rfl, One2_f k _ _ _ _ _ hmem.1 hmem.2 (by omega), Option.bind_some, if_pos rfl, wrN (by omega)]
  exact ih k (i + 1) (by omega) (by omega) (by omega)
theorem SameS_f (k : Nat) (l : List Sp) (h : FewS l) (hk : 1100 < k) : handshakerref15_Same.f k (l.map refSp) (l.map refSp) = some true := by
 unfold handshakerref15_Same.f
 rw [if_pos rfl]
 have hl := h.1
 have := Same15_l (l.map refSp) (by rw [List.length_map]; omega) (fun s hs => by
  obtain ⟨x, hx, rfl⟩ := List.mem_map.1 hs
  have := h.2 x hx
  show x.f3.length ≤ 1000 ∧ (x.f4.map refO).length ≤ 1000
  rw [List.length_map]; omega) (l.map refSp).length k 0 (by omega) (by omega) (by rw [List.length_map]; omega)
 exact this
theorem RefsF_f (k : Nat) (l : List Sp) (h : FewS l) (hk : 1100 < k) : handshakerlaw15_Refs.f k l = some (l.map refSp) :=
 SRefs_f k l (by have := h.1; omega) (fun x hx => by have := (h.2 x hx).2; omega) (by have := h.1; omega)
/-! ### who lies down -/
theorem Lie_f (k : Nat) (l : List Sp) (s : Sp) (h : List Cl) (hl : FewS l) (hs : Few1 s) (hk : 1500 < k) :
 ∃ r e, filter_Lie.f k l s.f0 s.f1 s.f2 s.f3 s.f4 h = some (r, e) ∧ ((e ≠ 0 ∧ r = l ∧ (RightB h = true → RS l → maySp s = true → e = 9)) ∨ (e = 0 ∧ RightB h = true ∧ RS l ∧ maySp s = true ∧ (∀ x ∈ l, x.f0 ≠ s.f0) ∧ (∃ c, Cut l s.f0 c ∧ r = l.take c ++ [s] ++ l.drop c) ∧ (s.f1 = 1 ∨ mayF s h = false))) := by
 obtain ⟨r, e, hA, hcase⟩ := Add_f k l s hl hs.1 (by omega)
 unfold filter_Lie.f
 rw [hA, Option.bind_some, Right_f, Option.bind_some]
 dsimp only
 by_cases hr : RightB h = true
 · rw [if_pos hr]
   rcases hcase with ⟨he, hrl, h9⟩ | ⟨he, hR, hM, hno, hc⟩
   · rw [if_neg he]
     exact ⟨l, e, rfl, .inl ⟨he, rfl, fun _ a b => (h9 a b).1⟩⟩
   · rw [if_pos he]
     by_cases h1 : s.f1 = 1
     · rw [if_pos h1]
       exact ⟨r, 0, rfl, .inr ⟨rfl, hr, hR, hM, hno, hc, .inl h1⟩⟩
     · rw [if_neg h1, May_f k s h hs (by omega), Option.bind_some]
       by_cases hm : mayF s h = true
       · rw [if_pos hm]
         exact ⟨l, 9, rfl, .inl ⟨by decide, rfl, fun _ _ _ => rfl⟩⟩
       · rw [if_neg hm]
         exact ⟨r, 0, rfl, .inr ⟨rfl, hr, hR, hM, hno, hc, .inr (Bool.eq_false_iff.2 hm)⟩⟩
 · rw [if_neg hr]
   exact ⟨l, 1, rfl, .inl ⟨by decide, rfl, fun a => absurd a hr⟩⟩
theorem ins_at {l : List Sp} {s : Sp} {c : Nat} (hc : c ≤ l.length) : c < (l.take c ++ [s] ++ l.drop c).length ∧ (l.take c ++ [s] ++ l.drop c).getD c z26 = s := by
 have h : (l.take c).length = c := by rw [List.length_take]; omega
 refine ⟨by simp; omega, ?_⟩
 rw [List.getD_eq_getElem?_getD, List.append_assoc, List.getElem?_append_right (by omega), h, Nat.sub_self]; rfl
theorem ins_mem {l : List Sp} {s : Sp} {c : Nat} (x : Sp) : x ∈ l.take c ++ [s] ++ l.drop c ↔ x = s ∨ x ∈ l := by
 rw [List.mem_append, List.mem_append, List.mem_singleton]
 constructor
 · rintro ((h | h) | h)
   · exact .inr (List.mem_of_mem_take h)
   · exact .inl h
   · exact .inr (List.mem_of_mem_drop h)
 · rintro (h | h)
   · exact .inl (.inr h)
   · rw [← List.take_append_drop c l] at h
     rcases List.mem_append.1 h with h | h
     · exact .inl (.inl h)
     · exact .inr h
theorem ins_filter {l : List Sp} {s : Sp} {c : Nat} (hno : ∀ x ∈ l, x.f0 ≠ s.f0) : ((l.take c ++ [s] ++ l.drop c).filter fun x => x.f0 != s.f0) = l := by
 rw [List.filter_append, List.filter_append, List.filter_cons, if_neg (by simp), List.filter_nil, List.append_nil]
 have e1 : ((l.take c).filter fun x => x.f0 != s.f0) = l.take c := by
  rw [List.filter_eq_self]; intro x hx; simpa using hno x (List.mem_of_mem_take hx)
 have e2 : ((l.drop c).filter fun x => x.f0 != s.f0) = l.drop c := by
  rw [List.filter_eq_self]; intro x hx; simpa using hno x (List.mem_of_mem_drop hx)
 rw [e1, e2, List.take_append_drop]
theorem FilterLies : handshakerlaw16_FilterLies.Pure := by
 intro l s h hl hs
 intros
 refine ⟨l.length + 3004, ?_⟩
 generalize hK : l.length + 3004 = K
 unfold handshakerlaw16_FilterLies.f
 obtain ⟨b, hb, hb'⟩ := Small15_f K l (by omega) (by omega)
 obtain ⟨c, hc, hc'⟩ := Small15_f K [s] (by simp) (by simp; omega)
 rw [hb, Option.bind_some]
 obtain ⟨K, rfl⟩ : ∃ m, K = m + 1 := ⟨K - 1, by omega⟩
 have aw : handshakerlaw16_FilterLies.j0 (K + 1) l h true s.f0 s.f1 s.f2 s.f3 s.f4 = some true := by
  simp only [handshakerlaw16_FilterLies.j0]
  rw [if_pos trivial, awake16 K (by omega)]; rfl
 by_cases h1 : b < 0
 · rw [if_pos h1]; exact aw
 rw [if_neg h1, show ([(⟨s.f0, s.f1, s.f2, s.f3, s.f4⟩ : Sp)] : List Sp) = [s] from rfl, hc, Option.bind_some]
 by_cases h2 : c < 0
 · rw [if_pos h2]; exact aw
 rw [if_neg h2]
 by_cases h3 : (h.length : Int) > 80
 · rw [decide_eq_true h3]; exact aw
 rw [decide_eq_false h3]
 have q1 := (hb'.resolve_left h1).2
 have q2 : Few1 s := (hc'.resolve_left h2).2.2 s (by simp)
 have hF : FewS l := ⟨by omega, q1.2⟩
 simp only [handshakerlaw16_FilterLies.j0]
 obtain ⟨r, e, hA, hcase⟩ := Lie_f K l s h hF q2 (by omega)
 rw [if_neg (by decide), hA, Option.bind_some]
 dsimp only
 rcases hcase with ⟨he, hr, _⟩ | ⟨he, hH, hR, hM, hno, ⟨i, hCut, hr⟩, hmode⟩
 · subst hr
   rw [if_neg he, RefsF_f K r hF (by omega), Option.bind_some, Option.bind_some, SameS_f K r hF (by omega), Option.bind_some, if_pos rfl, awake16 K (by omega)]; rfl
 · obtain ⟨hi1, hi2⟩ := ins_at (l := l) (s := s) hCut.1
   have hRa := ins_right hR hM hCut hno
   have hmem : s ∈ r := by rw [hr]; exact (ins_mem s).2 (.inl rfl)
   have hFa : FewS r := by
    rw [hr]
    refine ⟨by simp; omega, fun x hx => ?_⟩
    rcases (ins_mem x).1 hx with h | h
    · rw [h]; exact q2
    · exact q1.2 x h
   have hfil := ins_filter (c := i) hno
   rw [← hr] at hRa hfil
   have hany : (r.any fun x => x.f0 == s.f0) = true := List.any_eq_true.2 ⟨s, hmem, by simp⟩
   obtain ⟨r2, e2, hA2, hcase2⟩ := Lie_f K r s h hFa q2 (by omega)
   have he2 : e2 = 9 := by
    rcases hcase2 with ⟨_, _, g⟩ | ⟨_, _, _, _, g, _⟩
    · exact g hH hRa hM
    · exact absurd rfl (g s hmem)
   have hd1 := Drop_f K r hFa hRa [s.f0] (by simp) (by omega)
   simp only [dropL] at hd1
   rw [if_pos hany, hfil] at hd1
   rw [if_pos he, hA2, Option.bind_some, hd1, Option.bind_some]
   dsimp only
   rw [if_pos he2, if_pos rfl, RefsF_f K l hF (by omega), Option.bind_some, Option.bind_some, SameS_f K l hF (by omega), Option.bind_some, if_pos rfl]
   by_cases m1 : s.f1 = 1
   · rw [if_pos m1, awake16 K (by omega)]; rfl
   · rw [if_neg m1, May_f K s h q2 (by omega), Option.bind_some, hmode.resolve_left m1, if_neg (by decide), awake16 K (by omega)]; rfl
end Go.Proofs.Ytjnkpocfmpbpoaa.F
namespace Go.Proofs.Ytjnkpocfmpbpoaa.Pure
theorem FilterLies : Go.Proofs.Ytjnkpocfmpbpoaa.F.handshakerlaw16_FilterLies.Pure := Go.Proofs.Ytjnkpocfmpbpoaa.F.FilterLies
end Go.Proofs.Ytjnkpocfmpbpoaa.Pure
