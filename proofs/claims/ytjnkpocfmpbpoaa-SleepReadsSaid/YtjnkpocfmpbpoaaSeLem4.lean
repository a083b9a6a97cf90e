/-
 PROVED: Plain lemmas on numbers and lists, of what the printed functions answer. No condition beside those of each lemma.
-/
import Derived.Test.YtjnkpocfmpbpoaaSeLem3
import Derived.Test.YtjnkpocfmpbpoaaSex6
import Derived.Test.YtjnkpocfmpbpoaaSex7
namespace Go.Proofs.Ytjnkpocfmpbpoaa.Se
open Go.RowKit Go.Proofs.YtjnkpocfmpbpoaaW.PrintWords Go.Proofs.YtjnkpocfmpbpoaaW.PrintLast Go.Proofs.YtjnkpocfmpbpoaaW.PrintMore Go.Proofs.Ytjnkpocfmpbpoaa.Ho
set_option linter.unusedVariables false
set_option linter.unusedSimpArgs false
theorem CloneS_f (l : List Sp) (hl : l.length < 1073741824) : slices_Clone.f l = some l := by
 unfold slices_Clone.f
 simp only [Option.bind_some, List.length_nil, Nat.zero_add, List.nil_append]
 rw [if_pos (by omega)]
theorem cut_in {l : List Sp} (h : l.Pairwise Lt) {w : Int} {c i : Nat} (hc : Cut l w c) (hi : i < l.length) (e : (l.getD i z26).f0 = w) : c = i := by
 obtain ⟨h1, h2, h3⟩ := hc
 rcases Nat.lt_trichotomy c i with q | q | q
 · have := h3 c (Nat.le_refl _) (by omega)
   have := lt_at h c i q hi
   omega
 · exact q
 · have := h2 i q; omega
theorem mem_idx {l : List Sp} {x : Sp} (hx : x ∈ l) : ∃ i, i < l.length ∧ l.getD i z26 = x := by
 obtain ⟨i, hi, rfl⟩ := List.mem_iff_getElem.1 hx
 exact ⟨i, hi, by rw [List.getD_eq_getElem?_getD, List.getElem?_eq_getElem hi]; rfl⟩
theorem place_no (k : Nat) {l : List Sp} {w : Int} (hm : l.length < 1073741824) (h : l.Pairwise Lt) (hk : l.length + 1 < k) (hno : ∀ x ∈ l, x.f0 ≠ w) : ∃ c, Cut l w c ∧ sleep_place.f k l w = some ((c : Int), false) := by
 obtain ⟨c, hc, e⟩ := place_f k l w hm h hk
 refine ⟨c, hc, ?_⟩
 rw [e, decide_eq_false]
 intro g
 exact hno _ (getD_in l z26 c g.1) g.2
theorem place_yes (k : Nat) {l : List Sp} {i : Nat} (hm : l.length < 1073741824) (h : l.Pairwise Lt) (hk : l.length + 1 < k) (hi : i < l.length) : sleep_place.f k l (l.getD i z26).f0 = some ((i : Int), true) := by
 obtain ⟨c, hc, e⟩ := place_f k l (l.getD i z26).f0 hm h hk
 have := cut_in h hc hi rfl
 subst this
 rw [e, decide_eq_true ⟨hi, rfl⟩]
theorem Add_f (k : Nat) (l : List Sp) (s : Sp) (hl : FewS l) (hs : s.f3.length ≤ 40) (hk : 1400 < k) :
 ∃ r e, sleep_Add.f k l s.f0 s.f1 s.f2 s.f3 s.f4 = some (r, e) ∧ ((e ≠ 0 ∧ r = l ∧ (RS l → maySp s = true → e = 9 ∧ ∃ x ∈ l, x.f0 = s.f0)) ∨ (e = 0 ∧ RS l ∧ maySp s = true ∧ (∀ x ∈ l, x.f0 ≠ s.f0) ∧ ∃ c, Cut l s.f0 c ∧ r = l.take c ++ [s] ++ l.drop c)) := by
 obtain ⟨k, rfl⟩ : ∃ m, k = m + 1 := ⟨k - 1, by omega⟩
 have hlen := hl.1
 unfold sleep_Add.f
 rw [RightF_f _ l hl (by omega), Option.bind_some]
 have bad : sleep_Add.j0 (k + 1) l true s.f0 s.f1 s.f2 s.f3 s.f4 = some (l, 1) := by
  simp only [sleep_Add.j0]; rw [if_pos trivial]
 by_cases hr : rightS l = true
 · have hR := (rightS_iff l).1 hr
   rw [if_pos hr, maySp_f _ s (by omega) (by omega), Option.bind_some]
   by_cases hm : maySp s = true
   · rw [show (!maySp s) = false by rw [hm]; rfl]
     simp only [sleep_Add.j0]
     rw [if_neg (show ¬ false = true by decide)]
     by_cases ht : ∃ x ∈ l, x.f0 = s.f0
     · obtain ⟨x, hx, ex⟩ := ht
       obtain ⟨i, hi, rfl⟩ := mem_idx hx
       rw [← ex, place_yes k (by omega) hR.2 (by omega) hi, Option.bind_some, if_pos rfl]
       exact ⟨_, _, rfl, .inl ⟨by decide, rfl, fun _ _ => ⟨rfl, _, hx, rfl⟩⟩⟩
     · have hno : ∀ x ∈ l, x.f0 ≠ s.f0 := fun x hx e => ht ⟨x, hx, e⟩
       obtain ⟨c, hc, e⟩ := place_no k (by omega) hR.2 (by omega) hno
       have hcl := hc.1
       rw [e, Option.bind_some, if_neg (show ¬ false = true by decide), CloneS_f l (by omega), Option.bind_some, Option.bind_some, if_pos (by omega), if_pos (by omega), if_pos (by simp; omega)]
       exact ⟨_, _, rfl, .inr ⟨rfl, hR, hm, hno, c, hc, rfl⟩⟩
   · rw [show (!maySp s) = true by rw [Bool.eq_false_iff.2 hm]; rfl]
     exact ⟨_, _, bad, .inl ⟨by decide, rfl, fun _ h => absurd h hm⟩⟩
 · rw [if_neg hr]
   exact ⟨_, _, bad, .inl ⟨by decide, rfl, fun h _ => absurd ((rightS_iff l).2 h) hr⟩⟩
end Go.Proofs.Ytjnkpocfmpbpoaa.Se
