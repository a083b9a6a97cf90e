/-
  PROVED: whether any reads are a set, it with one more, that of any cell and its cells are what the document says, for every list of reads, read and number. Condition: each argument is of its kind; nothing else.
-/
import Derived.Test.YtlfmobnmohnjmaaRLem
import Derived.Test.YtlfmobnmohnjmaaRRef
import Derived.Test.YtlfmobnmohnjmaaRx5
import Derived.Test.YtlfmobnmohnjmaaRx9
namespace Go.Proofs.Ytlfmobnmohnjmaa.R
open Go.RowKit Go.Proofs.YtlfmobnmohnjmaaW.PrintWords Go.Proofs.YtlfmobnmohnjmaaW.PrintLast Go.Proofs.YtlfmobnmohnjmaaW.PrintMore Go.Proofs.Ytlfmobnmohnjmaa.Ho
set_option linter.unusedVariables false
set_option linter.unusedSimpArgs false
theorem ReadsTells : handshakerlaw05_ReadsTells.Pure := by
  intro l a c hml hb _ _ _
  obtain ⟨a0, a1, a2⟩ := a
  simp only
  obtain ⟨K, hK⟩ : ∃ K, l.length + 6000 = K := ⟨_, rfl⟩
  refine ⟨K + 3, ?_⟩
  unfold handshakerlaw05_ReadsTells.f
  have aw : ∀ k, 60 ≤ k → (handshakerlaw05_awake.f k).bind (fun t => some t) = some true := fun k hk => by rw [awake5 k hk]; rfl
  by_cases h40 : (l.length : Int) > 40
  · rw [if_pos h40]; exact aw _ (by omega)
  rw [if_neg h40]
  have e1 := AddR_f (K + 3) l ⟨a0, a1, a2⟩ (by omega) (by omega)
  have e2 := rAddR_f (K + 3) l ⟨a0, a1, a2⟩ (by omega) (by omega)
  simp only at e1 e2
  rw [e1, e2, FindR_f (K + 3) l c (by omega) (by omega), rRightR_f (K + 3) l (by omega) (by omega), rFindR_f (K + 3) l c (by omega) (by omega)]
  simp only [Option.bind_some]
  have hlen : (addR l ⟨a0, a1, a2⟩).1.length ≤ 42 := by
    unfold addR
    split
    · split
      · split <;> (simp only; omega)
      · split
        · simp only; omega
        · simp only [List.length_append, List.length_singleton]; omega
    · simp only; omega
  have hj2 : ∀ (k : Nat) (w0 w1 w2 : Int) (cs : List Int), 5000 < k → cs = cellsR l → (findR l c = (w0, w1, w2, (rightR l && decide (0 ≤ plc l c)))) → handshakerlaw05_ReadsTells.j2 (k + 1) l (addR l ⟨a0, a1, a2⟩).1 (addR l ⟨a0, a1, a2⟩).2 (addR l ⟨a0, a1, a2⟩).1 (addR l ⟨a0, a1, a2⟩).2 (findR l c).2.2.2 (rightR l) (plc l c) cs (findR l c).1 (findR l c).2.1 (findR l c).2.2.1 w0 w1 w2 = some true := by
    intro k w0 w1 w2 cs hk hcs hf
    simp only [handshakerlaw05_ReadsTells.j2]
    have hcl : cs.length ≤ 42 := by
      rw [hcs]
      unfold cellsR
      split
      · rw [List.length_mergeSort, List.length_map]; omega
      · simp
    rw [RightR_f k l (by omega) (by omega), SameR_f k _ (by omega) (by omega), CellsR_f k l (by omega) (by omega), ← hcs, hf]
    simp only [Option.bind_some]
    rw [Numbers_f k cs (by omega) (by omega)]
    simp only [Option.bind_some, BEq.rfl, Bool.and_self, if_true]
    have aw' := aw k (by omega)
    cases hr : rightR l with
    | true =>
      simp only [if_true, Bool.true_and]
      by_cases hp : 0 ≤ plc l c
      · rw [decide_eq_true hp, if_pos rfl, if_pos hp]; exact aw'
      · rw [decide_eq_false hp, if_neg (by decide), if_neg hp]; exact aw'
    | false =>
      simp only [Bool.false_and, Bool.false_eq_true, if_false]
      exact aw'
  cases hr : rightR l with
  | true =>
    rw [if_pos rfl]
    rw [hr] at hj2
    simp only [handshakerlaw05_ReadsTells.j0]
    by_cases hp : plc l c ≥ 0
    · rw [if_pos (decide_eq_true hp), if_pos hp]
      have hlt : plc l c < (l.length : Int) := by
        rcases plc_cases l c with ⟨e, _⟩ | ⟨j, hj, e, _⟩ <;> omega
      rw [if_pos hlt]
      simp only [handshakerlaw05_ReadsTells.j1]
      rw [if_pos trivial, rCellsR_f (K + 1) l (by omega) hr (by omega)]
      simp only [Option.bind_some]
      refine hj2 K _ _ _ _ (by omega) rfl ?_
      unfold findR
      rw [if_pos ⟨hp, hr⟩, decide_eq_true hp]; rfl
    · rw [if_neg (by simpa using hp)]
      simp only [handshakerlaw05_ReadsTells.j1]
      rw [if_pos trivial, rCellsR_f (K + 1) l (by omega) hr (by omega)]
      simp only [Option.bind_some]
      refine hj2 K _ _ _ _ (by omega) rfl ?_
      unfold findR
      rw [if_neg (fun e => hp e.1), decide_eq_false hp]; rfl
  | false =>
    rw [if_neg (by decide)]
    rw [hr] at hj2
    simp only [handshakerlaw05_ReadsTells.j0]
    rw [if_neg (by decide)]
    simp only [handshakerlaw05_ReadsTells.j1]
    rw [if_neg (by decide)]
    refine hj2 K _ _ _ _ (by omega) ?_ ?_
    · unfold cellsR; rw [hr]; rfl
    · unfold findR
      rw [if_neg (fun e => by rw [hr] at e; exact absurd e.2 (by decide))]; rfl
end Go.Proofs.Ytlfmobnmohnjmaa.R
namespace Go.Proofs.Ytlfmobnmohnjmaa.Pure
theorem ReadsTells : Go.Proofs.Ytlfmobnmohnjmaa.R.handshakerlaw05_ReadsTells.Pure := Go.Proofs.Ytlfmobnmohnjmaa.R.ReadsTells
end Go.Proofs.Ytlfmobnmohnjmaa.Pure
