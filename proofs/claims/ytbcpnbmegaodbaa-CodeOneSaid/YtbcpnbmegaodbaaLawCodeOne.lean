/-
  The row of the law CodeOne, out of its Pure statement and the printed walk. Condition: none but the arguments' own kinds.
-/
import Derived.Test.YtbcpnbmegaodbaaRows
import Derived.Test.YtbcpnbmegaodbaaCox5
import Derived.Test.YtbcpnbmegaodbaaCoOpen
import Derived.Test.YtbcpnbmegaodbaaPureCodeOne
import Derived.WalkKit
import Derived.ProofKit
import Derived.OpenShut
import Derived.ShutString
import Derived.ChangeOld
import Derived.Below
import Derived.SizedLaws
namespace Go.Proofs.Ytbcpnbmegaodbaa.codeOne
open Go.ChangeShapes Go.WideShapes Go.ChangeAt Go.RowKit Go.Proofs.Ytbcpnbmegaodbaa.Op Go.Proofs.Ytbcpnbmegaodbaa.Co
open Go.Proofs.YtbcpnbmegaodbaaW.PrintWords
set_option linter.unusedVariables false
theorem own : ownKnob Try.prog.godebug = none := by kernel_rfl
theorem laidOut : laidOutB Try.prog = true := by kernel_rfl
set_option maxRecDepth 100000 in
theorem lifted (os : Os) (started : os.Started) (H : Type) (enc : TypeId × Value → H) :
    ReturnsInHanded {} Try.checked os 8 .any (Rows.codeOneSpec.pre6 enc Try.prog Try.f8 Rows.codeOneRow.domain false) (Rows.codeOneSpec.post enc Try.prog Try.f8 false true false false) := by
  refine returnsInHanded_of_change_sized (C := Try.checked) own started (by kernel_rfl) Try.func8
    (ChangeSpec.witness6 (enc := enc) (C := Try.checked) false ⟨#[], #[.agg #[(.int .i64 0), (.int .i64 0), (.int .i64 0), (.slice none 0 0)]], []⟩ 8 (by kernel_rfl) (by kernel_rfl) (by kernel_rfl) (by kernel_rfl)) ?_
  intro W base args ds gs before hval0 hW hcnd hsz0 _
  have hsz : (DataW.weightsEach Try.prog (Try.f8.params.toList ++ Rows.codeOneSpec.plain.varTypes Try.prog) (ds ++ gs)).all (· ≤ reachBytes) = true := hsz0
  have hval : ∀ (j : Nat) t v, Try.f8.params[j]? = some t → args[j]? = some v → Value.okWide Try.prog W .any base t v := hval0
  have hW' := hW
  obtain ⟨p, q, hA0, hV, rfl, hfz, hnd⟩ := hW
  have hA : DataW.TrodAll enc Try.prog W 0 (fun _ => true) true Try.f8.params.toList args.toList ds p := hA0
  rw [Try.params8] at hA hval hsz
  obtain ⟨v0, vs0, d0, ds0, p0, q0, hargs, rfl, rfl, h0, r0⟩ := trodAll_cons hA
  obtain ⟨rfl, rfl, rfl⟩ := trodAll_nil r0
  obtain rfl : args = #[v0] := by cases args; simp_all
  obtain ⟨rfl, rfl⟩ := trodVars_none hV
  have k0 := h0
  have lt0 : ∀ x ∈ p0, x.block < W.heap.size := by obtain ⟨m, hm⟩ := k0; exact DataW.trod_lt m _ _ _ hm
  obtain ⟨cs0, x0, rfl, hK0, hw0⟩ := opens_val Try.underlying37 opensS37 (hval 0 37 v0 rfl rfl) h0
  obtain ⟨B0_0, e0_0, rfl, hl0_0, hr0_0⟩ := k37_open hK0
  clear hA0 hval0 hsz0 hsz
  obtain ⟨kk, hP⟩ := Pure.CodeOne x0 hw0
  refine (handshakerlaw08_CodeOne.calls kk x0.f0 x0.f1 x0.f2 (fun k_ => k_ < W.heap.size) B0_0 e0_0 x0.f3 true W ⟨rfl⟩ (Kd.V_mk hl0_0 (Kd.C_F heapS41 hr0_0)) hP).mono fun e W' ⟨he, hd⟩ => ?_
  have bel : Below W.heap.size W W' := hd
  subst he
  exact ⟨_, rfl, _, _, _, [], _, [], hW', trodAll_mk1 (shut_bool Try.underlying4 _), (trodAll_cons_mk (Below.trod laidOut (by kernel_rfl) (of_decide_eq_true (by kernel_rfl)) k0 bel lt0) trodAll_mk0), rfl, bel.frame _, fun h => by cases h⟩
theorem over : Rows.codeOneRow.holds Try.pinned (OpenSpec.ofChange Rows.codeOneSpec) :=
  OpenClaim.holds_of_wide 8 Try.f8 rfl rfl rfl rfl rfl rfl rfl ⟨rfl, rfl, rfl, rfl, rfl⟩ rfl rfl rfl rfl rfl (by kernel_rfl) Try.func8 (by kernel_rfl)
    (of_decide_eq_true (by kernel_rfl)) (by unfold Func.isWrapper; first | (rw [if_pos (by decide +kernel)]; kernel_rfl) | (rw [if_neg (by decide +kernel)]; exact ⟨rfl, rfl⟩))
    (fun os started H enc _ => lifted os started H enc)
theorem proved : Rows.CodeOneSaid := over
end Go.Proofs.Ytbcpnbmegaodbaa.codeOne
namespace Go.Proofs.Ytbcpnbmegaodbaa
/-- The row, under a short name, for the claim. -/
theorem codeOne_holds : Rows.CodeOneSaid := codeOne.proved
end Go.Proofs.Ytbcpnbmegaodbaa
