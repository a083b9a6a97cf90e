/-
  PROVED: Eithers in Eithers are so deep, and more than six are refused, for every number. Condition: the argument is of its kind; nothing else.
-/
import Derived.Test.YtbcpnbmegaodbaaCeAw
import Derived.Test.YtbcpnbmegaodbaaCex5
namespace Go.Proofs.Ytbcpnbmegaodbaa.Ce
open Go.RowKit Go.Proofs.YtbcpnbmegaodbaaW.PrintWords Go.Proofs.YtbcpnbmegaodbaaW.PrintLast Go.Proofs.YtbcpnbmegaodbaaW.PrintMore Go.Proofs.Ytbcpnbmegaodbaa.Ho
set_option linter.unusedVariables false
set_option linter.unusedSimpArgs false
theorem deep_all : ∀ m : Fin 9, handshakerlaw08_CodeDeep.l0 200 ((m.val : Nat) : Int) [⟨5, 0, 0, []⟩] ((m.val : Nat) : Int) 0 = some true := by decide +kernel
theorem CodeDeep : handshakerlaw08_CodeDeep.Pure := by
  intro a0 ha0
  have ha0' : 0 ≤ a0 ∧ a0 ≤ 255 := by simpa [Lit.wf, IntKind.bits, IntKind.signed, IntKind.min, IntKind.max] using ha0
  refine ⟨200, ?_⟩
  unfold handshakerlaw08_CodeDeep.f
  have hq := tmod_rng (a := a0) (n := 9) (by omega) (by omega)
  obtain ⟨m, hm⟩ : ∃ m : Nat, Int.tmod a0 9 = (m : Int) := ⟨(Int.tmod a0 9).toNat, by omega⟩
  rw [wr (i := Int.tmod a0 9) (by omega) (by omega), hm]
  exact deep_all ⟨m, by omega⟩
end Go.Proofs.Ytbcpnbmegaodbaa.Ce
namespace Go.Proofs.Ytbcpnbmegaodbaa.Pure
theorem CodeDeep : Go.Proofs.Ytbcpnbmegaodbaa.Ce.handshakerlaw08_CodeDeep.Pure := Go.Proofs.Ytbcpnbmegaodbaa.Ce.CodeDeep
end Go.Proofs.Ytbcpnbmegaodbaa.Pure
