/-
  PROVED: heap.Right, Alloc, Free, Get and Put answer what the reference answers, for every list of cells, every two numbers and every list of writes. Condition: each argument is of its kind; nothing else.
-/
import Derived.Test.YtlfeohglfjnnhaaHpLem
import Derived.Test.YtlfeohglfjnnhaaHpRef
import Derived.Test.YtlfeohglfjnnhaaHpx6
namespace Go.Proofs.Ytlfeohglfjnnhaa.Hp
open Go.RowKit Go.Proofs.YtlfeohglfjnnhaaW.PrintWords Go.Proofs.YtlfeohglfjnnhaaW.PrintLast Go.Proofs.YtlfeohglfjnnhaaW.PrintMore Go.Proofs.Ytlfeohglfjnnhaa.Ho
set_option linter.unusedVariables false
set_option linter.unusedSimpArgs false
theorem HeapTells : handshakerlaw02_HeapTells.Pure := by
  intro h v c l
  intros
  by_cases h1 : (h.length : Int) > 100
  · refine ⟨62, ?_⟩
    unfold handshakerlaw02_HeapTells.f
    rw [if_pos h1]; simp only [handshakerlaw02_HeapTells.j0]
    rw [if_pos trivial, awake_ok _ (by omega)]; rfl
  by_cases h2 : (l.length : Int) > 60
  · refine ⟨62, ?_⟩
    unfold handshakerlaw02_HeapTells.f
    rw [if_neg h1]; simp only [handshakerlaw02_HeapTells.j0]
    rw [if_pos (by simpa using h2), awake_ok _ (by omega)]; rfl
  · obtain ⟨k, hk⟩ : ∃ k, k = 2 * h.length + 2 * l.length + 300 := ⟨_, rfl⟩
    refine ⟨k + 2, ?_⟩
    have a1 := allocB_len h v
    have a2 := freeB_len h c
    have a3 := putB_len h l
    unfold handshakerlaw02_HeapTells.f
    rw [if_neg h1]
    simp only [handshakerlaw02_HeapTells.j0]
    rw [if_neg (by simpa using h2), Alloc_f, rAlloc_f _ h (by omega) (by omega), Free_f, rFree_f _ h (by omega) (by omega), Get_f, rGet_f _ h (by omega) (by omega), Put_f _ h l (by omega) (by omega), rPut_f _ h (by omega) l (by omega) (by omega), Right_f, rRight_f _ h (by omega) (by omega)]
    simp only [Option.bind_some]
    rw [Same_f _ (allocB h v).1 (by omega) (by omega), Same_f _ (freeB h c).1 (by omega) (by omega), Same_f _ (putB h l).1 (by omega) (by omega), awake_ok _ (by omega)]
    simp only [Option.bind_some, if_true]
    cases RightB h <;> rfl
end Go.Proofs.Ytlfeohglfjnnhaa.Hp
namespace Go.Proofs.Ytlfeohglfjnnhaa.Pure
theorem HeapTells : Go.Proofs.Ytlfeohglfjnnhaa.Hp.handshakerlaw02_HeapTells.Pure := Go.Proofs.Ytlfeohglfjnnhaa.Hp.HeapTells
end Go.Proofs.Ytlfeohglfjnnhaa.Pure
