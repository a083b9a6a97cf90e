/-
  The row of the law ReadsStay, out of its Pure statement and the printed walk. Condition: none but the arguments' own kinds.
-/
import Derived.Test.YtlfmobnmohnjmaaRows
import Derived.Test.YtlfmobnmohnjmaaRsx8
import Derived.Test.YtlfmobnmohnjmaaRsOpen
import Derived.Test.YtlfmobnmohnjmaaPureReadsStay
import Derived.WalkKit
import Derived.ProofKit
import Derived.OpenShut
import Derived.ShutString
import Derived.ChangeOld
import Derived.Below
import Derived.SizedLaws
namespace Go.Proofs.Ytlfmobnmohnjmaa.readsStay
open Go.ChangeShapes Go.WideShapes Go.ChangeAt Go.RowKit Go.Proofs.Ytlfmobnmohnjmaa.Op Go.Proofs.Ytlfmobnmohnjmaa.Rs
open Go.Proofs.YtlfmobnmohnjmaaW.PrintWords
set_option linter.unusedVariables false
theorem own : ownKnob Try.prog.godebug = none := by kernel_rfl
theorem laidOut : laidOutB Try.prog = true := by kernel_rfl
set_option maxRecDepth 100000 in
theorem lifted (os : Os) (started : os.Started) (H : Type) (enc : TypeId × Value → H) :
    ReturnsInHanded {} Try.checked os 8 .any (Rows.readsStaySpec.pre6 enc Try.prog Try.f8 Rows.readsStayRow.domain false) (Rows.readsStaySpec.post enc Try.prog Try.f8 false true false false) := by
  refine returnsInHanded_of_change_sized (C := Try.checked) own started (by kernel_rfl) Try.func8
    (ChangeSpec.witness6 (enc := enc) (C := Try.checked) false ⟨#[], #[.slice none 0 0, .slice none 0 0, .int .i64 0, .int .i64 0, .int .i64 0, .slice none 0 0], []⟩ 8 (by kernel_rfl) (by kernel_rfl) (by kernel_rfl) (by kernel_rfl)) ?_
  intro W base args ds gs before hval0 hW hcnd hsz0 _
  have hsz : (DataW.weightsEach Try.prog (Try.f8.params.toList ++ Rows.readsStaySpec.plain.varTypes Try.prog) (ds ++ gs)).all (· ≤ reachBytes) = true := hsz0
  have hval : ∀ (j : Nat) t v, Try.f8.params[j]? = some t → args[j]? = some v → Value.okWide Try.prog W .any base t v := hval0
  have hW' := hW
  obtain ⟨p, q, hA0, hV, rfl, hfz, hnd⟩ := hW
  have hA : DataW.TrodAll enc Try.prog W 0 (fun _ => true) true Try.f8.params.toList args.toList ds p := hA0
  rw [Try.params8] at hA hval hsz
  obtain ⟨v0, vs0, d0, ds0, p0, q0, hargs, rfl, rfl, h0, r0⟩ := trodAll_cons hA
  obtain ⟨v1, vs1, d1, ds1, p1, q1, rfl, rfl, rfl, h1, r1⟩ := trodAll_cons r0
  obtain ⟨v2, vs2, d2, ds2, p2, q2, rfl, rfl, rfl, h2, r2⟩ := trodAll_cons r1
  obtain ⟨v3, vs3, d3, ds3, p3, q3, rfl, rfl, rfl, h3, r3⟩ := trodAll_cons r2
  obtain ⟨v4, vs4, d4, ds4, p4, q4, rfl, rfl, rfl, h4, r4⟩ := trodAll_cons r3
  obtain ⟨v5, vs5, d5, ds5, p5, q5, rfl, rfl, rfl, h5, r5⟩ := trodAll_cons r4
  obtain ⟨rfl, rfl, rfl⟩ := trodAll_nil r5
  obtain rfl : args = #[v0, v1, v2, v3, v4, v5] := by cases args; simp_all
  obtain ⟨rfl, rfl⟩ := trodVars_none hV
  have k0 := h0
  have lt0 : ∀ x ∈ p0, x.block < W.heap.size := by obtain ⟨m, hm⟩ := k0; exact DataW.trod_lt m _ _ _ hm
  obtain ⟨A0, c0, l0, rfl, hc0, hr0, hm0, hw0⟩ := opens_arg Try.underlying22 opensS24 (by kernel_rfl) (hval 0 22 v0 rfl rfl) h0
  have hy0 := sized_arg hsz (j := 0) (t := 22) rfl rfl Try.underlying22 (B := 24) (by kernel_rfl) h0
  have k1 := h1
  have lt1 : ∀ x ∈ p1, x.block < W.heap.size := by obtain ⟨m, hm⟩ := k1; exact DataW.trod_lt m _ _ _ hm
  obtain ⟨A1, c1, l1, rfl, hc1, hr1, hm1, hw1⟩ := opens_arg Try.underlying40 opensS67 (by kernel_rfl) (hval 1 40 v1 rfl rfl) h1
  have hy1 := sized_arg hsz (j := 1) (t := 40) rfl rfl Try.underlying40 (B := 16) (by kernel_rfl) h1
  obtain ⟨a2, rfl, rfl, rfl, w2⟩ := open_int Try.underlying3 (hval 2 3 v2 rfl rfl) h2
  obtain ⟨a3, rfl, rfl, rfl, w3⟩ := open_int Try.underlying3 (hval 3 3 v3 rfl rfl) h3
  obtain ⟨a4, rfl, rfl, rfl, w4⟩ := open_int Try.underlying3 (hval 4 3 v4 rfl rfl) h4
  have k5 := h5
  have lt5 : ∀ x ∈ p5, x.block < W.heap.size := by obtain ⟨m, hm⟩ := k5; exact DataW.trod_lt m _ _ _ hm
  obtain ⟨A5, c5, l5, rfl, hc5, hr5, hm5, hw5⟩ := opens_arg Try.underlying35 (opens_int Try.underlying3) (by kernel_rfl) (hval 5 35 v5 rfl rfl) h5
  have hy5 := sized_arg hsz (j := 5) (t := 35) rfl rfl Try.underlying35 (B := 8) (by kernel_rfl) h5
  clear hA0 hval0 hsz0 hsz
  obtain ⟨kk, hP⟩ := Pure.ReadsStay l0 l1 a2 a3 a4 l5 (Nat.le_trans hc0 hm0) hy0 hw0 (Nat.le_trans hc1 hm1) hy1 hw1 w2 w3 w4 (Nat.le_trans hc5 hm5) hy5 hw5
  refine (handshakerlaw05_ReadsStay.calls kk A0 c0 l0 A1 c1 l1 a2 a3 a4 A5 c5 l5 true W ⟨rfl⟩ hr0 hc0 hr1 hc1 hr5 hc5 hP).mono fun e W' ⟨he, hd⟩ => ?_
  have bel : Below W.heap.size W W' := hd
  subst he
  exact ⟨_, rfl, _, _, _, [], _, [], hW', trodAll_mk1 (shut_bool Try.underlying4 _), (trodAll_cons_mk (Below.trod laidOut (by kernel_rfl) (of_decide_eq_true (by kernel_rfl)) k0 bel lt0) (trodAll_cons_mk (Below.trod laidOut (by kernel_rfl) (of_decide_eq_true (by kernel_rfl)) k1 bel lt1) (trodAll_cons_mk (shut_int Try.underlying3 w2) (trodAll_cons_mk (shut_int Try.underlying3 w3) (trodAll_cons_mk (shut_int Try.underlying3 w4) (trodAll_cons_mk (Below.trod laidOut (by kernel_rfl) (of_decide_eq_true (by kernel_rfl)) k5 bel lt5) trodAll_mk0)))))), rfl, bel.frame _, fun h => by cases h⟩
theorem over : Rows.readsStayRow.holds Try.pinned (OpenSpec.ofChange Rows.readsStaySpec) :=
  OpenClaim.holds_of_wide 8 Try.f8 rfl rfl rfl rfl rfl rfl rfl ⟨rfl, rfl, rfl, rfl, rfl⟩ rfl rfl rfl rfl rfl (by kernel_rfl) Try.func8 (by kernel_rfl)
    (of_decide_eq_true (by kernel_rfl)) (by unfold Func.isWrapper; first | (rw [if_pos (by decide +kernel)]; kernel_rfl) | (rw [if_neg (by decide +kernel)]; exact ⟨rfl, rfl⟩))
    (fun os started H enc _ => lifted os started H enc)
theorem proved : Rows.ReadsStaySaid := over
end Go.Proofs.Ytlfmobnmohnjmaa.readsStay
namespace Go.Proofs.Ytlfmobnmohnjmaa
/-- The row, under a short name, for the claim. -/
theorem readsStay_holds : Rows.ReadsStaySaid := readsStay.proved
end Go.Proofs.Ytlfmobnmohnjmaa
