/-
 PROVED: Plain lemmas on numbers and lists, of what the printed functions answer. No condition beside those of each lemma.
-/
import Derived.Test.YtlfmobnmohnjmaaTLem
namespace Go.Proofs.Ytlfmobnmohnjmaa.T
open Go.RowKit Go.Proofs.YtlfmobnmohnjmaaW.PrintWords Go.Proofs.YtlfmobnmohnjmaaW.PrintLast Go.Proofs.YtlfmobnmohnjmaaW.PrintMore Go.Proofs.Ytlfmobnmohnjmaa.Ho
set_option linter.unusedVariables false
set_option linter.unusedSimpArgs false
theorem ofL_one (n : Nat) (c : Int) : ofL n [c] = [Int.tmod c (n : Int)] := by
 refine rise_ext _ _ (ofL_up n [c]) (List.pairwise_singleton _ _) fun x => ?_
 rw [ofL_mem]
 simp only [List.mem_singleton, exists_eq_left]
 exact ⟨fun h => h.symm, fun h => h.symm⟩
theorem ofL_same (n : Nat) (a b : List Int) (h : ∀ c, c ∈ a ↔ c ∈ b) : ofL n a = ofL n b := by
 refine rise_ext _ _ (ofL_up n a) (ofL_up n b) fun x => ?_
 rw [ofL_mem, ofL_mem]
 exact ⟨fun ⟨c, hc, e⟩ => ⟨c, (h c).1 hc, e⟩, fun ⟨c, hc, e⟩ => ⟨c, (h c).2 hc, e⟩⟩
theorem rise_le (n : Nat) (l : List Int) (h : l.Pairwise (· < ·)) (hr : ∀ x ∈ l, 0 ≤ x ∧ x < n) : l.length ≤ n := by
 have e : l = ((List.range n).filter fun i : Nat => decide ((i : Int) ∈ l)).map fun i : Nat => (i : Int) := by
  refine rise_ext _ _ h ?_ fun x => ?_
  · rw [List.pairwise_map]
    exact (List.Pairwise.filter _ List.pairwise_lt_range).imp fun h => by omega
  · rw [List.mem_map]
    constructor
    · intro hx
      have := hr x hx
      exact ⟨x.toNat, List.mem_filter.2 ⟨List.mem_range.2 (by omega), by rw [show ((x.toNat : Nat) : Int) = x from by omega]; exact decide_eq_true hx⟩, by omega⟩
    · rintro ⟨i, hi, rfl⟩
      exact of_decide_eq_true (List.mem_filter.1 hi).2
 rw [e, List.length_map]
 refine Nat.le_trans (List.length_filter_le _ _) ?_
 rw [List.length_range]; exact Nat.le_refl _
theorem negB_of {cells : List Int} (h : ∀ c ∈ cells, 0 ≤ c) : negB cells = false := by
 unfold negB
 rw [List.any_eq_false]
 intro c hc
 have := h c hc
 simp; omega
theorem ofT_in {t : List S67} (ht : rightT t = true) {cells : List Int} (h : ∀ c ∈ cells, 0 ≤ c) : ofT t cells = ofL t.length cells := by
 unfold ofT
 rw [ht, negB_of h]; rfl
end Go.Proofs.Ytlfmobnmohnjmaa.T
