/-
  The row of the law SleepTells, out of its Pure statement and the printed walk. Condition: none but the arguments' own kinds.
-/
import Derived.Test.YtjnkpocfmpbpoaaRows
import Derived.Test.YtjnkpocfmpbpoaaSwx20
import Derived.Test.YtjnkpocfmpbpoaaSwOpen
import Derived.Test.YtjnkpocfmpbpoaaPureSleepTells
import Derived.WalkKit
import Derived.ProofKit
import Derived.OpenShut
import Derived.ShutString
import Derived.ChangeOld
import Derived.Below
import Derived.SizedLaws
namespace Go.Proofs.Ytjnkpocfmpbpoaa.sleepTells
open Go.ChangeShapes Go.WideShapes Go.ChangeAt Go.RowKit Go.Proofs.Ytjnkpocfmpbpoaa.Op Go.Proofs.Ytjnkpocfmpbpoaa.Sw
open Go.Proofs.YtjnkpocfmpbpoaaW.PrintWords
set_option linter.unusedVariables false
theorem own : ownKnob Try.prog.godebug = none := by kernel_rfl
theorem laidOut : laidOutB Try.prog = true := by kernel_rfl
set_option maxRecDepth 100000 in
theorem lifted (os : Os) (started : os.Started) (H : Type) (enc : TypeId × Value → H) :
    ReturnsInHanded {} Try.checked os 3 .any (Rows.sleepTellsSpec.pre6 enc Try.prog Try.f3 Rows.sleepTellsRow.domain false) (Rows.sleepTellsSpec.post enc Try.prog Try.f3 false true false false) := by
  refine returnsInHanded_of_change_sized (C := Try.checked) own started (by kernel_rfl) Try.func3
    (ChangeSpec.witness6 (enc := enc) (C := Try.checked) false ⟨#[], #[.slice none 0 0, .agg #[(.int .i64 0), (.int .i64 0), (.int .i64 0), (.slice none 0 0), (.slice none 0 0)], .slice none 0 0, .slice none 0 0], []⟩ 8 (by kernel_rfl) (by kernel_rfl) (by kernel_rfl) (by kernel_rfl)) ?_
  intro W base args ds gs before hval0 hW hcnd hsz0 _
  have hsz : (DataW.weightsEach Try.prog (Try.f3.params.toList ++ Rows.sleepTellsSpec.plain.varTypes Try.prog) (ds ++ gs)).all (· ≤ reachBytes) = true := hsz0
  have hval : ∀ (j : Nat) t v, Try.f3.params[j]? = some t → args[j]? = some v → Value.okWide Try.prog W .any base t v := hval0
  have hW' := hW
  obtain ⟨p, q, hA0, hV, rfl, hfz, hnd⟩ := hW
  have hA : DataW.TrodAll enc Try.prog W 0 (fun _ => true) true Try.f3.params.toList args.toList ds p := hA0
  rw [Try.params3] at hA hval hsz
  obtain ⟨v0, vs0, d0, ds0, p0, q0, hargs, rfl, rfl, h0, r0⟩ := trodAll_cons hA
  obtain ⟨v1, vs1, d1, ds1, p1, q1, rfl, rfl, rfl, h1, r1⟩ := trodAll_cons r0
  obtain ⟨v2, vs2, d2, ds2, p2, q2, rfl, rfl, rfl, h2, r2⟩ := trodAll_cons r1
  obtain ⟨v3, vs3, d3, ds3, p3, q3, rfl, rfl, rfl, h3, r3⟩ := trodAll_cons r2
  obtain ⟨rfl, rfl, rfl⟩ := trodAll_nil r3
  obtain rfl : args = #[v0, v1, v2, v3] := by cases args; simp_all
  obtain ⟨rfl, rfl⟩ := trodVars_none hV
  have k0 := h0
  have lt0 : ∀ x ∈ p0, x.block < W.heap.size := by obtain ⟨m, hm⟩ := k0; exact DataW.trod_lt m _ _ _ hm
  obtain ⟨A0, c0, l0, rfl, hc0, hr0, hm0, hw0⟩ := opens_arg Try.underlying22 opensS26 (by kernel_rfl) (hval 0 22 v0 rfl rfl) h0
  have hy0 := sized_arg hsz (j := 0) (t := 22) rfl rfl Try.underlying22 (B := 72) (by kernel_rfl) h0
  have k1 := h1
  have lt1 : ∀ x ∈ p1, x.block < W.heap.size := by obtain ⟨m, hm⟩ := k1; exact DataW.trod_lt m _ _ _ hm
  obtain ⟨cs1, x1, rfl, hK1, hw1⟩ := opens_val Try.underlying26 opensS26 (hval 1 26 v1 rfl rfl) h1
  obtain ⟨B1_0, e1_0, B1_1, e1_1, rfl, hl1_0, hr1_0, hl1_1, hr1_1⟩ := k26_open hK1
  have k2 := h2
  have lt2 : ∀ x ∈ p2, x.block < W.heap.size := by obtain ⟨m, hm⟩ := k2; exact DataW.trod_lt m _ _ _ hm
  obtain ⟨A2, c2, l2, rfl, hc2, hr2, hm2, hw2⟩ := opens_arg Try.underlying27 (opens_int Try.underlying3) (by kernel_rfl) (hval 2 27 v2 rfl rfl) h2
  have hy2 := sized_arg hsz (j := 2) (t := 27) rfl rfl Try.underlying27 (B := 8) (by kernel_rfl) h2
  have k3 := h3
  have lt3 : ∀ x ∈ p3, x.block < W.heap.size := by obtain ⟨m, hm⟩ := k3; exact DataW.trod_lt m _ _ _ hm
  obtain ⟨A3, c3, l3, rfl, hc3, hr3, hm3, hw3⟩ := opens_arg Try.underlying27 (opens_int Try.underlying3) (by kernel_rfl) (hval 3 27 v3 rfl rfl) h3
  have hy3 := sized_arg hsz (j := 3) (t := 27) rfl rfl Try.underlying27 (B := 8) (by kernel_rfl) h3
  clear hA0 hval0 hsz0 hsz
  obtain ⟨kk, hP⟩ := Pure.SleepTells l0 x1 l2 l3 (Nat.le_trans hc0 hm0) hy0 hw0 hw1 (Nat.le_trans hc2 hm2) hy2 hw2 (Nat.le_trans hc3 hm3) hy3 hw3
  refine (l_15_SleepTells.calls kk (fun k_ => k_ < W.heap.size) A0 c0 l0 x1.f0 x1.f1 x1.f2 (fun k_ => k_ < W.heap.size) B1_0 e1_0 x1.f3 (fun k_ => k_ < W.heap.size) B1_1 e1_1 x1.f4 A2 c2 l2 A3 c3 l3 true W ⟨rfl⟩ (Kd.V_mk hc0 (Kd.C_F heapS26 hr0)) (Kd.V_mk hl1_0 (Kd.C_F heapS62 hr1_0)) (Kd.V_mk hl1_1 (Kd.C_F heapS80 hr1_1)) hr2 hc2 hr3 hc3 hP).mono fun e W' ⟨he, hd⟩ => ?_
  have bel : Below W.heap.size W W' := hd
  subst he
  exact ⟨_, rfl, _, _, _, [], _, [], hW', trodAll_mk1 (shut_bool Try.underlying4 _), (trodAll_cons_mk (Below.trod laidOut (by kernel_rfl) (of_decide_eq_true (by kernel_rfl)) k0 bel lt0) (trodAll_cons_mk (Below.trod laidOut (by kernel_rfl) (of_decide_eq_true (by kernel_rfl)) k1 bel lt1) (trodAll_cons_mk (Below.trod laidOut (by kernel_rfl) (of_decide_eq_true (by kernel_rfl)) k2 bel lt2) (trodAll_cons_mk (Below.trod laidOut (by kernel_rfl) (of_decide_eq_true (by kernel_rfl)) k3 bel lt3) trodAll_mk0)))), rfl, bel.frame _, fun h => by cases h⟩
theorem over : Rows.sleepTellsRow.holds Try.pinned (OpenSpec.ofChange Rows.sleepTellsSpec) :=
  OpenClaim.holds_of_wide 3 Try.f3 rfl rfl rfl rfl rfl rfl rfl ⟨rfl, rfl, rfl, rfl, rfl⟩ rfl rfl rfl rfl rfl (by kernel_rfl) Try.func3 (by kernel_rfl)
    (of_decide_eq_true (by kernel_rfl)) (by unfold Func.isWrapper; first | (rw [if_pos (by decide +kernel)]; kernel_rfl) | (rw [if_neg (by decide +kernel)]; exact ⟨rfl, rfl⟩))
    (fun os started H enc _ => lifted os started H enc)
theorem proved : Rows.SleepTellsSaid := over
end Go.Proofs.Ytjnkpocfmpbpoaa.sleepTells
namespace Go.Proofs.Ytjnkpocfmpbpoaa
/-- The row, under a short name, for the claim. -/
theorem sleepTells_holds : Rows.SleepTellsSaid := sleepTells.proved
end Go.Proofs.Ytjnkpocfmpbpoaa
