/-
  PROVED: a Skip of just as many steps as are behind it is well, one of more is not, for every two numbers. Condition: each argument is of its kind; nothing else.
-/
import Derived.Test.YtbcpnbmegaodbaaCfAw
import Derived.Test.YtbcpnbmegaodbaaCfx5
namespace Go.Proofs.Ytbcpnbmegaodbaa.Cf
open Go.RowKit Go.Proofs.YtbcpnbmegaodbaaW.PrintWords Go.Proofs.YtbcpnbmegaodbaaW.PrintLast Go.Proofs.YtbcpnbmegaodbaaW.PrintMore Go.Proofs.Ytbcpnbmegaodbaa.Ho
set_option linter.unusedVariables false
set_option linter.unusedSimpArgs false
theorem skips_all : ∀ m : Fin 20, ∀ q : Fin 4, handshakerlaw08_CodeSkips.l0 200 (wrap64 (1 + ((m.val : Nat) : Int))) ((q.val : Nat) : Int) [⟨4, mn (wrap64 (wrap64 (1 + ((m.val : Nat) : Int)) + ((q.val : Nat) : Int))) 24, 0, [⟨1, 1⟩]⟩] (wrap64 (1 + ((m.val : Nat) : Int))) 0 = some true := by decide +kernel
theorem CodeSkips : handshakerlaw08_CodeSkips.Pure := by
  intro a0 a1 ha0 ha1
  have ha0' : 0 ≤ a0 ∧ a0 ≤ 255 := by simpa [Lit.wf, IntKind.bits, IntKind.signed, IntKind.min, IntKind.max] using ha0
  have ha1' : 0 ≤ a1 ∧ a1 ≤ 255 := by simpa [Lit.wf, IntKind.bits, IntKind.signed, IntKind.min, IntKind.max] using ha1
  refine ⟨200, ?_⟩
  unfold handshakerlaw08_CodeSkips.f
  have hq := tmod_rng (a := a0) (n := 20) (by omega) (by omega)
  have hq1 := tmod_rng (a := a1) (n := 4) (by omega) (by omega)
  obtain ⟨m, hm⟩ : ∃ m : Nat, Int.tmod a0 20 = (m : Int) := ⟨(Int.tmod a0 20).toNat, by omega⟩
  obtain ⟨q, hq'⟩ : ∃ m : Nat, Int.tmod a1 4 = (m : Int) := ⟨(Int.tmod a1 4).toNat, by omega⟩
  rw [wr (i := Int.tmod a0 20) (by omega) (by omega), wr (i := Int.tmod a1 4) (by omega) (by omega), hm, hq']
  exact skips_all ⟨m, by omega⟩ ⟨q, by omega⟩
end Go.Proofs.Ytbcpnbmegaodbaa.Cf
namespace Go.Proofs.Ytbcpnbmegaodbaa.Pure
theorem CodeSkips : Go.Proofs.Ytbcpnbmegaodbaa.Cf.handshakerlaw08_CodeSkips.Pure := Go.Proofs.Ytbcpnbmegaodbaa.Cf.CodeSkips
end Go.Proofs.Ytbcpnbmegaodbaa.Pure
