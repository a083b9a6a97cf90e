/-
  The row of the law AfterFused, out of its Pure statement and the printed walk. Condition: none but the arguments' own kinds.
-/
import Derived.Test.YtihcnbhcemkncaaRows
import Derived.Test.YtihcnbhcemkncaaAx16
import Derived.Test.YtihcnbhcemkncaaAOpen
import Derived.Test.YtihcnbhcemkncaaPureAfterFused
import Derived.WalkKit
import Derived.ProofKit
import Derived.OpenShut
import Derived.ShutString
import Derived.ChangeOld
import Derived.Below
import Derived.SizedLaws
namespace Go.Proofs.Ytihcnbhcemkncaa.afterFused
open Go.ChangeShapes Go.WideShapes Go.ChangeAt Go.RowKit Go.Proofs.Ytihcnbhcemkncaa.Op Go.Proofs.Ytihcnbhcemkncaa.A
open Go.Proofs.YtihcnbhcemkncaaW.PrintWords
set_option linter.unusedVariables false
theorem own : ownKnob Try.prog.godebug = none := by kernel_rfl
theorem laidOut : laidOutB Try.prog = true := by kernel_rfl
set_option maxRecDepth 100000 in
theorem lifted (os : Os) (started : os.Started) (H : Type) (enc : TypeId × Value → H) :
    ReturnsInHanded {} Try.checked os 4 .any (Rows.afterFusedSpec.pre6 enc Try.prog Try.f4 Rows.afterFusedRow.domain false) (Rows.afterFusedSpec.post enc Try.prog Try.f4 false true false false) := by
  refine returnsInHanded_of_change_sized (C := Try.checked) own started (by kernel_rfl) Try.func4
    (ChangeSpec.witness6 (enc := enc) (C := Try.checked) false ⟨#[], #[.slice none 0 0, .int .i64 0, .int .i64 0, .slice none 0 0, .slice none 0 0], []⟩ 8 (by kernel_rfl) (by kernel_rfl) (by kernel_rfl) (by kernel_rfl)) ?_
  intro W base args ds gs before hval0 hW hcnd hsz0 _
  have hsz : (DataW.weightsEach Try.prog (Try.f4.params.toList ++ Rows.afterFusedSpec.plain.varTypes Try.prog) (ds ++ gs)).all (· ≤ reachBytes) = true := hsz0
  have hval : ∀ (j : Nat) t v, Try.f4.params[j]? = some t → args[j]? = some v → Value.okWide Try.prog W .any base t v := hval0
  have hW' := hW
  obtain ⟨p, q, hA0, hV, rfl, hfz, hnd⟩ := hW
  have hA : DataW.TrodAll enc Try.prog W 0 (fun _ => true) true Try.f4.params.toList args.toList ds p := hA0
  rw [Try.params4] at hA hval hsz
  obtain ⟨v0, vs0, d0, ds0, p0, q0, hargs, rfl, rfl, h0, r0⟩ := trodAll_cons hA
  obtain ⟨v1, vs1, d1, ds1, p1, q1, rfl, rfl, rfl, h1, r1⟩ := trodAll_cons r0
  obtain ⟨v2, vs2, d2, ds2, p2, q2, rfl, rfl, rfl, h2, r2⟩ := trodAll_cons r1
  obtain ⟨v3, vs3, d3, ds3, p3, q3, rfl, rfl, rfl, h3, r3⟩ := trodAll_cons r2
  obtain ⟨v4, vs4, d4, ds4, p4, q4, rfl, rfl, rfl, h4, r4⟩ := trodAll_cons r3
  obtain ⟨rfl, rfl, rfl⟩ := trodAll_nil r4
  obtain rfl : args = #[v0, v1, v2, v3, v4] := by cases args; simp_all
  obtain ⟨rfl, rfl⟩ := trodVars_none hV
  have k0 := h0
  have lt0 : ∀ x ∈ p0, x.block < W.heap.size := by obtain ⟨m, hm⟩ := k0; exact DataW.trod_lt m _ _ _ hm
  obtain ⟨A0, c0, l0, rfl, hc0, hr0, hm0, hw0⟩ := opens_arg Try.underlying22 opensS25 (by kernel_rfl) (hval 0 22 v0 rfl rfl) h0
  have hy0 := sized_arg hsz (j := 0) (t := 22) rfl rfl Try.underlying22 (B := 32) (by kernel_rfl) h0
  obtain ⟨a1, rfl, rfl, rfl, w1⟩ := open_int Try.underlying3 (hval 1 3 v1 rfl rfl) h1
  obtain ⟨a2, rfl, rfl, rfl, w2⟩ := open_int Try.underlying3 (hval 2 3 v2 rfl rfl) h2
  have k3 := h3
  have lt3 : ∀ x ∈ p3, x.block < W.heap.size := by obtain ⟨m, hm⟩ := k3; exact DataW.trod_lt m _ _ _ hm
  obtain ⟨A3, c3, l3, rfl, hc3, hr3, hm3, hw3⟩ := opens_arg Try.underlying26 opensS66 (by kernel_rfl) (hval 3 26 v3 rfl rfl) h3
  have hy3 := sized_arg hsz (j := 3) (t := 26) rfl rfl Try.underlying26 (B := 16) (by kernel_rfl) h3
  have k4 := h4
  have lt4 : ∀ x ∈ p4, x.block < W.heap.size := by obtain ⟨m, hm⟩ := k4; exact DataW.trod_lt m _ _ _ hm
  obtain ⟨A4, c4, l4, rfl, hc4, hr4, hm4, hw4⟩ := opens_arg Try.underlying27 (opens_int Try.underlying3) (by kernel_rfl) (hval 4 27 v4 rfl rfl) h4
  have hy4 := sized_arg hsz (j := 4) (t := 27) rfl rfl Try.underlying27 (B := 8) (by kernel_rfl) h4
  clear hA0 hval0 hsz0 hsz
  obtain ⟨kk, hP⟩ := Pure.AfterFused l0 a1 a2 l3 l4 (Nat.le_trans hc0 hm0) hy0 hw0 w1 w2 (Nat.le_trans hc3 hm3) hy3 hw3 (Nat.le_trans hc4 hm4) hy4 hw4
  refine (handshakerlaw22_AfterFused.calls kk (fun k_ => k_ < W.heap.size) A0 c0 l0 a1 a2 (fun k_ => k_ < W.heap.size) A3 c3 l3 A4 c4 l4 true W ⟨rfl⟩ (Kd.V_mk hc0 (Kd.C_F heapS25 hr0)) (Kd.V_mk hc3 (Kd.C_F heapS66 hr3)) hr4 hc4 hP).mono fun e W' ⟨he, hd⟩ => ?_
  have bel : Below W.heap.size W W' := hd
  subst he
  exact ⟨_, rfl, _, _, _, [], _, [], hW', trodAll_mk1 (shut_bool Try.underlying4 _), (trodAll_cons_mk (Below.trod laidOut (by kernel_rfl) (of_decide_eq_true (by kernel_rfl)) k0 bel lt0) (trodAll_cons_mk (shut_int Try.underlying3 w1) (trodAll_cons_mk (shut_int Try.underlying3 w2) (trodAll_cons_mk (Below.trod laidOut (by kernel_rfl) (of_decide_eq_true (by kernel_rfl)) k3 bel lt3) (trodAll_cons_mk (Below.trod laidOut (by kernel_rfl) (of_decide_eq_true (by kernel_rfl)) k4 bel lt4) trodAll_mk0))))), rfl, bel.frame _, fun h => by cases h⟩
theorem over : Rows.afterFusedRow.holds Try.pinned (OpenSpec.ofChange Rows.afterFusedSpec) :=
  OpenClaim.holds_of_wide 4 Try.f4 rfl rfl rfl rfl rfl rfl rfl ⟨rfl, rfl, rfl, rfl, rfl⟩ rfl rfl rfl rfl rfl (by kernel_rfl) Try.func4 (by kernel_rfl)
    (of_decide_eq_true (by kernel_rfl)) (by unfold Func.isWrapper; first | (rw [if_pos (by decide +kernel)]; kernel_rfl) | (rw [if_neg (by decide +kernel)]; exact ⟨rfl, rfl⟩))
    (fun os started H enc _ => lifted os started H enc)
theorem proved : Rows.AfterFusedSaid := over
end Go.Proofs.Ytihcnbhcemkncaa.afterFused
namespace Go.Proofs.Ytihcnbhcemkncaa
/-- The row, under a short name, for the claim. -/
theorem afterFused_holds : Rows.AfterFusedSaid := afterFused.proved
end Go.Proofs.Ytihcnbhcemkncaa
