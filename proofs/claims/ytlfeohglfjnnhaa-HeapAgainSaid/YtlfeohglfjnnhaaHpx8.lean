-- PRINTED by print.py (a twelfth state) out of the translation. Not trusted: Lean checks it.
import Derived.Test.YtlfeohglfjnnhaaHpx0
import Derived.Test.YtlfeohglfjnnhaaHpx1
import Derived.Test.YtlfeohglfjnnhaaHpx2
import Derived.Test.YtlfeohglfjnnhaaHpx3
import Derived.Test.YtlfeohglfjnnhaaHpx5
namespace Go.Proofs.Ytlfeohglfjnnhaa.Hp
open Go.Proofs.Ytlfeohglfjnnhaa.Ho
open Go.RowKit Go.Proofs.YtlfeohglfjnnhaaW.PrintWords Go.Proofs.YtlfeohglfjnnhaaW.PrintLast Go.Proofs.YtlfeohglfjnnhaaW.PrintMore
attribute [local go_sem] max2_int min2_int max_two min_two max_three min_three max_four min_four   -- for this text's walks alone
set_option linter.unusedVariables false
set_option linter.unusedSimpArgs false

attribute [local go_sem high] eqA59
/-! ### handshakerlaw02_HeapAgain: function 11 -/
mutual
def handshakerlaw02_HeapAgain.j0 : Nat → List (S59) → Int → Int → List (S59) → Int → Bool → Option (Bool)
  | 0, _, _, _, _, _, _ => none
  | k + 1, x0, x1, x2, x11, x12, x66 => if x66 = true then (some false) else (handshakerlaw02_HeapAgain.l0 k x0 x1 x2 x11 x12 (x0.length : Int) 0)
def handshakerlaw02_HeapAgain.l0 : Nat → List (S59) → Int → Int → List (S59) → Int → Int → Int → Option (Bool)
  | 0, _, _, _, _, _, _, _ => none
  | k + 1, x0, x1, x2, x11, x12, x68, x69 => if x69 < x68 then (if x69 = x1 then (if x69 < x12 then (if 0 ≤ x69 then (if x69 < (x0.length : Int) then (if ((rd_T59 x0 x69).f0 = true) then (handshakerlaw02_HeapAgain.l0 k x0 x1 x2 x11 x12 x68 (wrap64 (x69 + 1))) else (some false)) else (none)) else (none)) else (handshakerlaw02_HeapAgain.l0 k x0 x1 x2 x11 x12 x68 (wrap64 (x69 + 1)))) else (if x69 = x12 then (if x69 < x12 then (if 0 ≤ x69 then (if x69 < (x0.length : Int) then (if ((rd_T59 x0 x69).f0 = true) then (handshakerlaw02_HeapAgain.l0 k x0 x1 x2 x11 x12 x68 (wrap64 (x69 + 1))) else (some false)) else (none)) else (none)) else (handshakerlaw02_HeapAgain.l0 k x0 x1 x2 x11 x12 x68 (wrap64 (x69 + 1)))) else (if 0 ≤ x69 then (if x69 < (x11.length : Int) then (if x69 < (x0.length : Int) then (if (!(((rd_T59 x11 x69).f0) == ((rd_T59 x0 x69).f0)) || (!(((rd_T59 x11 x69).f1) == ((rd_T59 x0 x69).f1)))) = true then (some false) else (if x69 < x12 then (if ((rd_T59 x0 x69).f0 = true) then (handshakerlaw02_HeapAgain.l0 k x0 x1 x2 x11 x12 x68 (wrap64 (x69 + 1))) else (some false)) else (handshakerlaw02_HeapAgain.l0 k x0 x1 x2 x11 x12 x68 (wrap64 (x69 + 1))))) else (none)) else (none)) else (none)))) else ((heap_Get.f x11 x12).bind fun bt305 => (if bt305.1 = (wrap64 (x2)) then (if bt305.2 = 0 then ((handshakerlaw02_awake.f k).bind fun t307 => (some t307)) else (some false)) else (some false)))
end
def handshakerlaw02_HeapAgain.f (k : Nat) (l0 : List (S59)) (a1 : Int) (a2 : Int) : Option (Bool) := if (l0.length : Int) > 64 then ((handshakerlaw02_awake.f k).bind fun t286 => (some t286)) else ((heap_Free.f l0 a1).bind fun bt287 => (if bt287.2 = 0 then ((heap_Get.f bt287.1 a1).bind fun bt293 => ((heap_Alloc.f k bt287.1 (wrap64 (a2))).bind fun bt295 => (if bt293.2 = 3 then (if bt295.2.2 = 0 then (if bt295.2.1 > a1 then (handshakerlaw02_HeapAgain.j0 k l0 a1 a2 bt295.1 bt295.2.1 true) else (handshakerlaw02_HeapAgain.j0 k l0 a1 a2 bt295.1 bt295.2.1 ((bt295.1.length : Int) != (l0.length : Int)))) else (handshakerlaw02_HeapAgain.j0 k l0 a1 a2 bt295.1 bt295.2.1 true)) else (handshakerlaw02_HeapAgain.j0 k l0 a1 a2 bt295.1 bt295.2.1 true)))) else ((handshakerref02_Same.f k bt287.1 l0).bind fun t291 => (if t291 = true then ((handshakerlaw02_awake.f k).bind fun t292 => (some t292)) else (some false)))))
theorem handshakerlaw02_HeapAgain.mono_l : ∀ k, (∀ y0 y1 y2 y3 y4 y5, LeO (handshakerlaw02_HeapAgain.j0 k y0 y1 y2 y3 y4 y5) (handshakerlaw02_HeapAgain.j0 (k + 1) y0 y1 y2 y3 y4 y5)) ∧ (∀ y0 y1 y2 y3 y4 y5 y6, LeO (handshakerlaw02_HeapAgain.l0 k y0 y1 y2 y3 y4 y5 y6) (handshakerlaw02_HeapAgain.l0 (k + 1) y0 y1 y2 y3 y4 y5 y6))
  | 0 => ⟨fun _ _ _ _ _ _ r h => by simp [handshakerlaw02_HeapAgain.j0] at h, fun _ _ _ _ _ _ _ r h => by simp [handshakerlaw02_HeapAgain.l0] at h⟩
  | k + 1 => by
    obtain ⟨ih0, ih1⟩ := handshakerlaw02_HeapAgain.mono_l k
    refine ⟨?_, ?_⟩
    · intro y0 y1 y2 y3 y4 y5
      unfold handshakerlaw02_HeapAgain.j0
      repeat' first
      | (with_reducible exact ih0 _ _ _ _ _ _)
      | (with_reducible exact ih1 _ _ _ _ _ _ _)
      | (with_reducible exact handshakerlaw02_awake.mono _)
      | (with_reducible exact handshakerref02_Same.mono _ _ _)
      | (with_reducible exact heap_Alloc.mono _ _ _)
      | (with_reducible exact LeO.refl _)
      | (with_reducible exact LeO.none _)
      | (with_reducible refine LeO.ite ?_ ?_)
      | (with_reducible refine LeO.bind ?_ (fun _ => ?_))
      | exact ih0 _ _ _ _ _ _
      | exact ih1 _ _ _ _ _ _ _
      | exact handshakerlaw02_awake.mono _
      | exact handshakerref02_Same.mono _ _ _
      | exact heap_Alloc.mono _ _ _
      | exact LeO.none _
      | refine LeO.ite ?_ ?_
      | refine LeO.bind ?_ (fun _ => ?_)
    · intro y0 y1 y2 y3 y4 y5 y6
      unfold handshakerlaw02_HeapAgain.l0
      repeat' first
      | (with_reducible exact ih0 _ _ _ _ _ _)
      | (with_reducible exact ih1 _ _ _ _ _ _ _)
      | (with_reducible exact handshakerlaw02_awake.mono _)
      | (with_reducible exact handshakerref02_Same.mono _ _ _)
      | (with_reducible exact heap_Alloc.mono _ _ _)
      | (with_reducible exact LeO.refl _)
      | (with_reducible exact LeO.none _)
      | (with_reducible refine LeO.ite ?_ ?_)
      | (with_reducible refine LeO.bind ?_ (fun _ => ?_))
      | exact ih0 _ _ _ _ _ _
      | exact ih1 _ _ _ _ _ _ _
      | exact handshakerlaw02_awake.mono _
      | exact handshakerref02_Same.mono _ _ _
      | exact heap_Alloc.mono _ _ _
      | exact LeO.none _
      | refine LeO.ite ?_ ?_
      | refine LeO.bind ?_ (fun _ => ?_)
theorem handshakerlaw02_HeapAgain.mono : ∀ a0 a1 a2 k, LeO (handshakerlaw02_HeapAgain.f k a0 a1 a2) (handshakerlaw02_HeapAgain.f (k + 1) a0 a1 a2) := by
  intro a0 a1 a2 k
  obtain ⟨ih0, ih1⟩ := handshakerlaw02_HeapAgain.mono_l k
  unfold handshakerlaw02_HeapAgain.f
  repeat' first
      | (with_reducible exact ih0 _ _ _ _ _ _)
      | (with_reducible exact ih1 _ _ _ _ _ _ _)
      | (with_reducible exact handshakerlaw02_awake.mono _)
      | (with_reducible exact handshakerref02_Same.mono _ _ _)
      | (with_reducible exact heap_Alloc.mono _ _ _)
      | (with_reducible exact LeO.refl _)
      | (with_reducible exact LeO.none _)
      | (with_reducible refine LeO.ite ?_ ?_)
      | (with_reducible refine LeO.bind ?_ (fun _ => ?_))
      | exact ih0 _ _ _ _ _ _
      | exact ih1 _ _ _ _ _ _ _
      | exact handshakerlaw02_awake.mono _
      | exact handshakerref02_Same.mono _ _ _
      | exact heap_Alloc.mono _ _ _
      | exact LeO.none _
      | refine LeO.ite ?_ ?_
      | refine LeO.bind ?_ (fun _ => ?_)
set_option maxHeartbeats 8000000 in
set_option maxRecDepth 100000 in
theorem handshakerlaw02_HeapAgain.calls (k : Nat) (A0 : Option Addr) (c0 : Nat) (l0 : List (S59)) (a1 : Int) (a2 : Int) (r : Bool) (w : World) (HT : Aside0 (r = true)) (hr0 : Kd.C k59 w A0 l0.length l0) (hc0 : l0.length ≤ c0) (h : handshakerlaw02_HeapAgain.f k l0 a1 a2 = some r) :
    Calls Try.prog 11 #[.slice A0 l0.length c0, .int .i64 a1, .int .i32 a2] w fun e w' => e = .returned (.bool r) ∧ Below w.heap.size w w' := by
  have hu59 := Try.underlying59
  have HR0 := Aside0.mk hr0
  have HC0 := Aside0.mk hc0
  clear hr0 hc0
  have HB := Aside0.mk (Below.refl w.heap.size w)
  have H : (if (l0.length : Int) > 64 then ((handshakerlaw02_awake.f k).bind fun t286 => (some t286)) else ((heap_Free.f l0 a1).bind fun bt287 => (if bt287.2 = 0 then ((heap_Get.f bt287.1 a1).bind fun bt293 => ((heap_Alloc.f k bt287.1 (wrap64 (a2))).bind fun bt295 => (if bt293.2 = 3 then (if bt295.2.2 = 0 then (if bt295.2.1 > a1 then (handshakerlaw02_HeapAgain.j0 k l0 a1 a2 bt295.1 bt295.2.1 true) else (handshakerlaw02_HeapAgain.j0 k l0 a1 a2 bt295.1 bt295.2.1 ((bt295.1.length : Int) != (l0.length : Int)))) else (handshakerlaw02_HeapAgain.j0 k l0 a1 a2 bt295.1 bt295.2.1 true)) else (handshakerlaw02_HeapAgain.j0 k l0 a1 a2 bt295.1 bt295.2.1 true)))) else ((handshakerref02_Same.f k bt287.1 l0).bind fun t291 => (if t291 = true then ((handshakerlaw02_awake.f k).bind fun t292 => (some t292)) else (some false)))))) = some r := h
  clear h
  by_cases c4 : (l0.length : Int) > 64
  · rw [if_pos c4] at H
    have c4b0 : decide (64 < (l0.length : Int)) = true := decide_eq_true c4
    have c4b1 : decide (64 < l0.length) = true := decide_eq_true (by omega)
    clear c4
    replace H := Option.bind_eq_some_iff.mp H
    obtain ⟨t286, A50, H⟩ := H
    replace H : (some t286) = some r := H
    have A5 := Aside0.mk A50
    clear A50
    obtain rfl := Option.some.inj H
    go_enter Try.func11, Try.ntmps11
    go_wp2_with (first | (go_at_call 25; (with_reducible refine (handshakerlaw02_awake.calls k  t286 _ A5.out).mono ?_); rintro e w6 ⟨rfl, hb⟩; have n0_ := Aside0.mk (below_step (by repeat (first | (with_reducible first | exact HB.out | apply below_alloc | apply pw_below_drewN | apply below_drew1) | exact HB.out)) hb); clear HB; have HB := n0_; clear n0_; (try clear hb); (try clear hb2); (try clear hk); (try clear hi)))
    repeat (go_quiet (first | (go_at_call 25; (with_reducible refine (handshakerlaw02_awake.calls k  t286 _ A5.out).mono ?_); rintro e w6 ⟨rfl, hb⟩; have n0_ := Aside0.mk (below_step (by repeat (first | (with_reducible first | exact HB.out | apply below_alloc | apply pw_below_drewN | apply below_drew1) | exact HB.out)) hb); clear HB; have HB := n0_; clear n0_; (try clear hb); (try clear hb2); (try clear hk); (try clear hi))); try go_wp2_with (first | (go_at_call 25; (with_reducible refine (handshakerlaw02_awake.calls k  t286 _ A5.out).mono ?_); rintro e w6 ⟨rfl, hb⟩; have n0_ := Aside0.mk (below_step (by repeat (first | (with_reducible first | exact HB.out | apply below_alloc | apply pw_below_drewN | apply below_drew1) | exact HB.out)) hb); clear HB; have HB := n0_; clear n0_; (try clear hb); (try clear hb2); (try clear hk); (try clear hi))))
    go_ret
    exact ⟨by first | rfl | (simp [errW_none, errW_some] <;> rfl) | (simp [*, errW_none, errW_some] <;> rfl), by repeat (first | (with_reducible first | exact HB.out | apply below_alloc | apply pw_below_drewN | apply below_drew1) | exact HB.out)⟩
  · rw [if_neg c4] at H
    have c4b0 : decide (64 < (l0.length : Int)) = false := decide_eq_false c4
    have c4b1 : decide (64 < l0.length) = false := decide_eq_false (by omega)
    clear c4
    replace H := Option.bind_eq_some_iff.mp H
    obtain ⟨⟨t287, t290⟩, A70, H⟩ := H
    replace H : (if t290 = 0 then ((heap_Get.f t287 a1).bind fun bt293 => ((heap_Alloc.f k t287 (wrap64 (a2))).bind fun bt295 => (if bt293.2 = 3 then (if bt295.2.2 = 0 then (if bt295.2.1 > a1 then (handshakerlaw02_HeapAgain.j0 k l0 a1 a2 bt295.1 bt295.2.1 true) else (handshakerlaw02_HeapAgain.j0 k l0 a1 a2 bt295.1 bt295.2.1 ((bt295.1.length : Int) != (l0.length : Int)))) else (handshakerlaw02_HeapAgain.j0 k l0 a1 a2 bt295.1 bt295.2.1 true)) else (handshakerlaw02_HeapAgain.j0 k l0 a1 a2 bt295.1 bt295.2.1 true)))) else ((handshakerref02_Same.f k t287 l0).bind fun t291 => (if t291 = true then ((handshakerlaw02_awake.f k).bind fun t292 => (some t292)) else (some false)))) = some r := H
    have A7 := Aside0.mk A70
    clear A70
    by_cases c8 : t290 = 0
    · rw [if_pos c8] at H
      have c8b0 : (t290 == 0) = true := beq_iff_eq.mpr c8
      have c8b1 : (t290 != 0) = false := bne_eq_false_iff_eq.mpr c8
      clear c8
      replace H := Option.bind_eq_some_iff.mp H
      obtain ⟨⟨t293, t294⟩, A90, H⟩ := H
      replace H : ((heap_Alloc.f k t287 (wrap64 (a2))).bind fun bt295 => (if t294 = 3 then (if bt295.2.2 = 0 then (if bt295.2.1 > a1 then (handshakerlaw02_HeapAgain.j0 k l0 a1 a2 bt295.1 bt295.2.1 true) else (handshakerlaw02_HeapAgain.j0 k l0 a1 a2 bt295.1 bt295.2.1 ((bt295.1.length : Int) != (l0.length : Int)))) else (handshakerlaw02_HeapAgain.j0 k l0 a1 a2 bt295.1 bt295.2.1 true)) else (handshakerlaw02_HeapAgain.j0 k l0 a1 a2 bt295.1 bt295.2.1 true))) = some r := H
      have A9 := Aside0.mk A90
      clear A90
      replace H := Option.bind_eq_some_iff.mp H
      obtain ⟨⟨t295, t298, t299⟩, A100, H⟩ := H
      replace H : (if t294 = 3 then (if t299 = 0 then (if t298 > a1 then (handshakerlaw02_HeapAgain.j0 k l0 a1 a2 t295 t298 true) else (handshakerlaw02_HeapAgain.j0 k l0 a1 a2 t295 t298 ((t295.length : Int) != (l0.length : Int)))) else (handshakerlaw02_HeapAgain.j0 k l0 a1 a2 t295 t298 true)) else (handshakerlaw02_HeapAgain.j0 k l0 a1 a2 t295 t298 true)) = some r := H
      have A10 := Aside0.mk A100
      clear A100
      have HC11 := Aside0.mk H
      clear H
      go_enter Try.func11, Try.ntmps11
      go_upto_region 8 with (first | (go_at_call 28; (with_reducible refine (heap_Free.calls (fun k_ => k_ < w.heap.size) _ _ l0 a1 t287 t290 _ ?side1 A7.out).mono ?_); (case side1 => exact Kd.V_mk HC0.out (Kd.F_below (Kd.C_F k59_heap HR0.out) (by repeat (first | (with_reducible first | exact HB.out | apply below_alloc | apply pw_below_drewN | apply below_drew1) | exact HB.out)))); rintro e w12 ⟨v288, rfl, ho0, hb⟩; have n0_ := Aside0.mk (Kd.V_lower (Kd.V_mono (ok' := fun k_ => True) ho0 (fun k_ hk_ => trivial)) (below_size (by repeat (first | (with_reducible first | exact HB.out | apply below_alloc | apply pw_below_drewN | apply below_drew1) | exact HB.out)))); have n1_ := Aside0.mk (below_step (by repeat (first | (with_reducible first | exact HB.out | apply below_alloc | apply pw_below_drewN | apply below_drew1) | exact HB.out)) hb); clear HB; have HO289 := n0_; have HB := n1_; clear n0_ n1_; (try clear hb); (try clear hb2); (try clear hk); (try clear hi); (try clear ho0); obtain ⟨Ao13, co13, eo13⟩ := Kd.V_slice HO289.out; subst eo13) | (go_at_call 30; (with_reducible refine (heap_Get.calls _ _ t287 a1 t293 t294 _ ?side1 ?side2 A9.out).mono ?_); (case side1 => repeat (first | exact (Kd.V_reads' HO289.out).2.2 | (with_reducible refine Kd.C_alloc ?_ _) | (with_reducible refine Kd.C_drewN ?_ _) | (with_reducible refine Kd.C_drew ?_))); (case side2 => exact (Kd.V_reads' HO289.out).2.1); rintro e w14 ⟨rfl, hb⟩; have n0_ := Aside0.mk (Kd.V_below (by (with_reducible repeat (first | apply Kd.V_alloc | apply Kd.V_drewN | apply Kd.V_drew)); exact HO289.out) hb); have n1_ := Aside0.mk (below_step (by repeat (first | (with_reducible first | exact HB.out | apply below_alloc | apply pw_below_drewN | apply below_drew1) | exact HB.out)) hb); clear HO289; clear HB; have HO289 := n0_; have HB := n1_; clear n0_ n1_; (try clear hb); (try clear hb2); (try clear hk); (try clear hi)) | (go_at_call 26; (with_reducible refine (heap_Alloc.calls k (fun k_ => True) _ _ t287 (wrap64 (a2)) t295 t298 t299 _ ?side1 A10.out).mono ?_); (case side1 => exact HO289.out); rintro e w15 ⟨v296, rfl, ho0, hb⟩; have n0_ := Aside0.mk (Kd.V_below (by (with_reducible repeat (first | apply Kd.V_alloc | apply Kd.V_drewN | apply Kd.V_drew)); exact HO289.out) hb); have n1_ := Aside0.mk (Kd.V_lower (Kd.V_mono (ok' := fun k_ => True) ho0 (fun k_ hk_ => trivial)) (below_size (by repeat (first | (with_reducible first | exact HB.out | apply below_alloc | apply pw_below_drewN | apply below_drew1) | exact HB.out)))); have n2_ := Aside0.mk (below_step (by repeat (first | (with_reducible first | exact HB.out | apply below_alloc | apply pw_below_drewN | apply below_drew1) | exact HB.out)) hb); clear HO289; clear HB; have HO289 := n0_; have HO297 := n1_; have HB := n2_; clear n0_ n1_ n2_; (try clear hb); (try clear hb2); (try clear hk); (try clear hi); (try clear ho0)))
      repeat (go_quiet (first | (go_at_call 28; (with_reducible refine (heap_Free.calls (fun k_ => k_ < w.heap.size) _ _ l0 a1 t287 t290 _ ?side1 A7.out).mono ?_); (case side1 => exact Kd.V_mk HC0.out (Kd.F_below (Kd.C_F k59_heap HR0.out) (by repeat (first | (with_reducible first | exact HB.out | apply below_alloc | apply pw_below_drewN | apply below_drew1) | exact HB.out)))); rintro e w12 ⟨v288, rfl, ho0, hb⟩; have n0_ := Aside0.mk (Kd.V_lower (Kd.V_mono (ok' := fun k_ => True) ho0 (fun k_ hk_ => trivial)) (below_size (by repeat (first | (with_reducible first | exact HB.out | apply below_alloc | apply pw_below_drewN | apply below_drew1) | exact HB.out)))); have n1_ := Aside0.mk (below_step (by repeat (first | (with_reducible first | exact HB.out | apply below_alloc | apply pw_below_drewN | apply below_drew1) | exact HB.out)) hb); clear HB; have HO289 := n0_; have HB := n1_; clear n0_ n1_; (try clear hb); (try clear hb2); (try clear hk); (try clear hi); (try clear ho0); obtain ⟨Ao13, co13, eo13⟩ := Kd.V_slice HO289.out; subst eo13) | (go_at_call 30; (with_reducible refine (heap_Get.calls _ _ t287 a1 t293 t294 _ ?side1 ?side2 A9.out).mono ?_); (case side1 => repeat (first | exact (Kd.V_reads' HO289.out).2.2 | (with_reducible refine Kd.C_alloc ?_ _) | (with_reducible refine Kd.C_drewN ?_ _) | (with_reducible refine Kd.C_drew ?_))); (case side2 => exact (Kd.V_reads' HO289.out).2.1); rintro e w14 ⟨rfl, hb⟩; have n0_ := Aside0.mk (Kd.V_below (by (with_reducible repeat (first | apply Kd.V_alloc | apply Kd.V_drewN | apply Kd.V_drew)); exact HO289.out) hb); have n1_ := Aside0.mk (below_step (by repeat (first | (with_reducible first | exact HB.out | apply below_alloc | apply pw_below_drewN | apply below_drew1) | exact HB.out)) hb); clear HO289; clear HB; have HO289 := n0_; have HB := n1_; clear n0_ n1_; (try clear hb); (try clear hb2); (try clear hk); (try clear hi)) | (go_at_call 26; (with_reducible refine (heap_Alloc.calls k (fun k_ => True) _ _ t287 (wrap64 (a2)) t295 t298 t299 _ ?side1 A10.out).mono ?_); (case side1 => exact HO289.out); rintro e w15 ⟨v296, rfl, ho0, hb⟩; have n0_ := Aside0.mk (Kd.V_below (by (with_reducible repeat (first | apply Kd.V_alloc | apply Kd.V_drewN | apply Kd.V_drew)); exact HO289.out) hb); have n1_ := Aside0.mk (Kd.V_lower (Kd.V_mono (ok' := fun k_ => True) ho0 (fun k_ hk_ => trivial)) (below_size (by repeat (first | (with_reducible first | exact HB.out | apply below_alloc | apply pw_below_drewN | apply below_drew1) | exact HB.out)))); have n2_ := Aside0.mk (below_step (by repeat (first | (with_reducible first | exact HB.out | apply below_alloc | apply pw_below_drewN | apply below_drew1) | exact HB.out)) hb); clear HO289; clear HB; have HO289 := n0_; have HO297 := n1_; have HB := n2_; clear n0_ n1_ n2_; (try clear hb); (try clear hb2); (try clear hk); (try clear hi); (try clear ho0))); go_upto_region 8 with (first | (go_at_call 28; (with_reducible refine (heap_Free.calls (fun k_ => k_ < w.heap.size) _ _ l0 a1 t287 t290 _ ?side1 A7.out).mono ?_); (case side1 => exact Kd.V_mk HC0.out (Kd.F_below (Kd.C_F k59_heap HR0.out) (by repeat (first | (with_reducible first | exact HB.out | apply below_alloc | apply pw_below_drewN | apply below_drew1) | exact HB.out)))); rintro e w12 ⟨v288, rfl, ho0, hb⟩; have n0_ := Aside0.mk (Kd.V_lower (Kd.V_mono (ok' := fun k_ => True) ho0 (fun k_ hk_ => trivial)) (below_size (by repeat (first | (with_reducible first | exact HB.out | apply below_alloc | apply pw_below_drewN | apply below_drew1) | exact HB.out)))); have n1_ := Aside0.mk (below_step (by repeat (first | (with_reducible first | exact HB.out | apply below_alloc | apply pw_below_drewN | apply below_drew1) | exact HB.out)) hb); clear HB; have HO289 := n0_; have HB := n1_; clear n0_ n1_; (try clear hb); (try clear hb2); (try clear hk); (try clear hi); (try clear ho0); obtain ⟨Ao13, co13, eo13⟩ := Kd.V_slice HO289.out; subst eo13) | (go_at_call 30; (with_reducible refine (heap_Get.calls _ _ t287 a1 t293 t294 _ ?side1 ?side2 A9.out).mono ?_); (case side1 => repeat (first | exact (Kd.V_reads' HO289.out).2.2 | (with_reducible refine Kd.C_alloc ?_ _) | (with_reducible refine Kd.C_drewN ?_ _) | (with_reducible refine Kd.C_drew ?_))); (case side2 => exact (Kd.V_reads' HO289.out).2.1); rintro e w14 ⟨rfl, hb⟩; have n0_ := Aside0.mk (Kd.V_below (by (with_reducible repeat (first | apply Kd.V_alloc | apply Kd.V_drewN | apply Kd.V_drew)); exact HO289.out) hb); have n1_ := Aside0.mk (below_step (by repeat (first | (with_reducible first | exact HB.out | apply below_alloc | apply pw_below_drewN | apply below_drew1) | exact HB.out)) hb); clear HO289; clear HB; have HO289 := n0_; have HB := n1_; clear n0_ n1_; (try clear hb); (try clear hb2); (try clear hk); (try clear hi)) | (go_at_call 26; (with_reducible refine (heap_Alloc.calls k (fun k_ => True) _ _ t287 (wrap64 (a2)) t295 t298 t299 _ ?side1 A10.out).mono ?_); (case side1 => exact HO289.out); rintro e w15 ⟨v296, rfl, ho0, hb⟩; have n0_ := Aside0.mk (Kd.V_below (by (with_reducible repeat (first | apply Kd.V_alloc | apply Kd.V_drewN | apply Kd.V_drew)); exact HO289.out) hb); have n1_ := Aside0.mk (Kd.V_lower (Kd.V_mono (ok' := fun k_ => True) ho0 (fun k_ hk_ => trivial)) (below_size (by repeat (first | (with_reducible first | exact HB.out | apply below_alloc | apply pw_below_drewN | apply below_drew1) | exact HB.out)))); have n2_ := Aside0.mk (below_step (by repeat (first | (with_reducible first | exact HB.out | apply below_alloc | apply pw_below_drewN | apply below_drew1) | exact HB.out)) hb); clear HO289; clear HB; have HO289 := n0_; have HO297 := n1_; have HB := n2_; clear n0_ n1_ n2_; (try clear hb); (try clear hb2); (try clear hk); (try clear hi); (try clear ho0))))
      (try simp only [Act.put, List.setIfInBounds_toArray, List.set_cons_zero, List.set_cons_succ])
      go_cut [66] (fun v66 wc => ∃ (kq : Nat) (x66_10 : Bool), v66 = .bool x66_10 ∧ Aside0 (handshakerlaw02_HeapAgain.j0 kq l0 a1 a2 t295 t298 x66_10 = some r) ∧ Aside0 (kq ≤ k) ∧ Aside0 (Kd.V k59 59 wc w.heap.size (fun _ => True) v296 t295) ∧ Aside0 (Below w.heap.size w wc))
      case first =>
        have H := HC11.out
        clear HC11
        by_cases c16 : t294 = 3
        · rw [if_pos c16] at H
          have c16b0 : (t294 == 3) = true := beq_iff_eq.mpr c16
          have c16b1 : (t294 != 3) = false := bne_eq_false_iff_eq.mpr c16
          clear c16
          (first | rw [c16b0] | (simp only [i64_w, i32_w]; rw [c16b0]) | skip)
          by_cases c17 : t299 = 0
          · rw [if_pos c17] at H
            have c17b0 : (t299 == 0) = true := beq_iff_eq.mpr c17
            have c17b1 : (t299 != 0) = false := bne_eq_false_iff_eq.mpr c17
            clear c17
            by_cases c18 : t298 > a1
            · rw [if_pos c18] at H
              have c18b0 : decide (a1 < t298) = true := decide_eq_true c18
              clear c18
              have H' := Aside0.mk H
              clear H
              go_wp2
              repeat (go_quiet (fail); try go_wp2)
              go_meet
              case rel => exact ⟨_, (true), (by first | rfl | (simp; done) | (simp [*]; done)), H', ⟨by first | omega | exact Nat.le_refl _⟩, ⟨by (with_reducible repeat (first | apply Kd.V_alloc | apply Kd.V_drewN | apply Kd.V_drew)); exact HO297.out⟩, ⟨by repeat (first | (with_reducible first | exact HB.out | apply below_alloc | apply pw_below_drewN | apply below_drew1) | exact HB.out)⟩⟩
            · rw [if_neg c18] at H
              have c18b0 : decide (a1 < t298) = false := decide_eq_false c18
              clear c18
              have H' := Aside0.mk H
              clear H
              obtain ⟨Ao19, co19, eo19⟩ := Kd.V_slice HO297.out
              subst eo19
              go_wp2
              repeat (go_quiet (fail); try go_wp2)
              go_meet
              case rel => exact ⟨_, (((t295.length : Int) != (l0.length : Int))), (by first | rfl | (simp; done) | (simp [*]; done)), H', ⟨by first | omega | exact Nat.le_refl _⟩, ⟨by (with_reducible repeat (first | apply Kd.V_alloc | apply Kd.V_drewN | apply Kd.V_drew)); exact HO297.out⟩, ⟨by repeat (first | (with_reducible first | exact HB.out | apply below_alloc | apply pw_below_drewN | apply below_drew1) | exact HB.out)⟩⟩
          · rw [if_neg c17] at H
            have c17b0 : (t299 == 0) = false := beq_eq_false_iff_ne.mpr c17
            have c17b1 : (t299 != 0) = true := bne_iff_ne.mpr c17
            have H' := Aside0.mk H
            clear H
            go_wp2
            repeat (go_quiet (fail); try go_wp2)
            go_meet
            case rel => exact ⟨_, (true), (by first | rfl | (simp; done) | (simp [*]; done)), H', ⟨by first | omega | exact Nat.le_refl _⟩, ⟨by (with_reducible repeat (first | apply Kd.V_alloc | apply Kd.V_drewN | apply Kd.V_drew)); exact HO297.out⟩, ⟨by repeat (first | (with_reducible first | exact HB.out | apply below_alloc | apply pw_below_drewN | apply below_drew1) | exact HB.out)⟩⟩
        · rw [if_neg c16] at H
          have c16b0 : (t294 == 3) = false := beq_eq_false_iff_ne.mpr c16
          have c16b1 : (t294 != 3) = true := bne_iff_ne.mpr c16
          (first | rw [c16b0] | (simp only [i64_w, i32_w]; rw [c16b0]) | skip)
          have H' := Aside0.mk H
          clear H
          go_wp2
          repeat (go_quiet (fail); try go_wp2)
          go_meet
          case rel => exact ⟨_, (true), (by first | rfl | (simp; done) | (simp [*]; done)), H', ⟨by first | omega | exact Nat.le_refl _⟩, ⟨by (with_reducible repeat (first | apply Kd.V_alloc | apply Kd.V_drewN | apply Kd.V_drew)); exact HO297.out⟩, ⟨by repeat (first | (with_reducible first | exact HB.out | apply below_alloc | apply pw_below_drewN | apply below_drew1) | exact HB.out)⟩⟩
      case rest =>
        clear HC11
        try clear c1
        try clear p2
        try clear c4
        try clear c4b0
        try clear c4b1
        try clear p6
        try clear c8
        try clear c8b0
        try clear c8b1
        try clear c11
        try clear c16
        try clear c16b0
        try clear c16b1
        try clear c17
        try clear c17b0
        try clear c17b1
        try clear c18
        try clear c18b0
        obtain ⟨kq, x66_10, rfl, HA, HJ10, HO_11, HB⟩ := hcut
        cases kq with
        | zero => exact absurd HA.out (by simp [handshakerlaw02_HeapAgain.j0])
        | succ kj10 =>
          have H := HA.out
          clear HA
          simp only [handshakerlaw02_HeapAgain.j0] at H
          by_cases c20 : x66_10 = true
          · subst c20
            have H1 : (some false) = some r := by rw [if_pos rfl] at H; exact H
            clear H
            have H := H1
            clear H1
            exact absurd (Option.some.inj H) (by rw [HT.out]; decide)
          · replace c20 := Bool.eq_false_iff.mpr c20
            subst c20
            have H1 : (handshakerlaw02_HeapAgain.l0 kj10 l0 a1 a2 t295 t298 (l0.length : Int) 0) = some r := by rw [if_neg (show ¬ (false = true) by decide)] at H; exact H
            clear H
            have H := H1
            clear H1
            have H' := Aside0.mk H
            clear H
            go_wp2
            repeat (go_quiet (fail); try go_wp2)
            go_loopg [69] kj10 (fun kq v69 w' => ∃ (x69_2 : Int), v69 = .int .i64 x69_2 ∧ Aside0 (handshakerlaw02_HeapAgain.l0 kq l0 a1 a2 t295 t298 (l0.length : Int) x69_2 = some r) ∧ Aside0 (kq ≤ kj10) ∧ Aside0 (Kd.V k59 59 w' w.heap.size (fun _ => True) v296 t295) ∧ Aside0 (Below w.heap.size w w'))
            case atStart => exact ⟨(0), (by first | rfl | (simp; done) | (simp [*]; done)), H', ⟨Nat.le_refl _⟩, ⟨by (with_reducible repeat (first | apply Kd.V_alloc | apply Kd.V_drewN | apply Kd.V_drew)); exact HO_11.out⟩, ⟨by repeat (first | (with_reducible first | exact HB.out | apply below_alloc | apply pw_below_drewN | apply below_drew1) | exact HB.out)⟩⟩
            case round =>
              clear H'
              try clear c1
              try clear c2
              try clear p2
              try clear c4
              try clear c4b0
              try clear c4b1
              try clear p6
              try clear c8
              try clear c8b0
              try clear c8b1
              try clear c11
              try clear c16
              try clear c16b0
              try clear c16b1
              try clear c17
              try clear c17b0
              try clear c17b1
              try clear c18
              try clear c18b0
              try clear c20
              try clear p2
              try clear p6
              obtain ⟨x69_2, rfl, HA, HK2, HO_11, HB⟩ := hrel
              cases gk with
              | zero => exact absurd HA.out (by simp [handshakerlaw02_HeapAgain.l0])
              | succ k2 =>
                have H := HA.out
                clear HA
                simp only [handshakerlaw02_HeapAgain.l0] at H
                by_cases c21 : x69_2 < (l0.length : Int)
                · rw [if_pos c21] at H
                  have c21b0 : decide (x69_2 < (l0.length : Int)) = true := decide_eq_true c21
                  clear c21
                  by_cases c22 : x69_2 = a1
                  · rw [if_pos c22] at H
                    have c22b0 : (x69_2 == a1) = true := beq_iff_eq.mpr c22
                    have c22b1 : (x69_2 != a1) = false := bne_eq_false_iff_eq.mpr c22
                    clear c22
                    by_cases c23 : x69_2 < t298
                    · rw [if_pos c23] at H
                      have c23b0 : decide (x69_2 < t298) = true := decide_eq_true c23
                      clear c23
                      by_cases c24 : 0 ≤ x69_2
                      · rw [if_pos c24] at H
                        have c24b0 : decide (0 ≤ x69_2) = true := decide_eq_true c24
                        clear c24
                        by_cases c25 : x69_2 < (l0.length : Int)
                        · rw [if_pos c25] at H
                          have c25b0 : decide (x69_2 < (l0.length : Int)) = true := decide_eq_true c25
                          clear c25
                          obtain ⟨bq26, hbq26⟩ : ∃ b_ : Bool, b_ = ((rd_T59 l0 x69_2).f0) := ⟨_, rfl⟩
                          replace H : (if (bq26 = true) then (handshakerlaw02_HeapAgain.l0 k2 l0 a1 a2 t295 t298 (l0.length : Int) (wrap64 (x69_2 + 1))) else (some false)) = some r := by rw [← hbq26] at H; exact H
                          have Nbq26 := Aside0.mk hbq26
                          clear hbq26
                          by_cases c27 : (bq26 = true)
                          · subst c27
                            have H1 : (handshakerlaw02_HeapAgain.l0 k2 l0 a1 a2 t295 t298 (l0.length : Int) (wrap64 (x69_2 + 1))) = some r := by rw [if_pos rfl] at H; exact H
                            clear H
                            have H := H1
                            clear H1
                            have H' := Aside0.mk H
                            clear H
                            have p300 : 0 ≤ (x69_2 : Int) := of_decide_eq_true (by first | (with_reducible assumption) | assumption)
                            have q300 : x69_2 < (l0.length : Int) := of_decide_eq_true (by first | (with_reducible assumption) | assumption)
                            obtain ⟨ad300, e300, hx300_0, hx300_1⟩ := at_T59 HR0.out x69_2 p300 q300
                            (try rw [← Nbq26.out] at hx300_0)
                            cases e300
                            replace hx300_0 := (HB.out.cell (World.block_lt_of_cell? w _ hx300_0)).trans hx300_0
                            replace hx300_1 := (HB.out.cell (World.block_lt_of_cell? w _ hx300_1)).trans hx300_1
                            replace p300 := eq_true p300
                            replace q300 := eq_true q300
                            go_wp2
                            repeat (go_quiet (fail); try go_wp2)
                            go_roundg k2
                            case measure => have := HJ10.out; have := HK2.out; omega
                            case rel => exact ⟨(wrap64 (x69_2 + 1)), (by first | rfl | (simp; done) | (simp [*]; done)), H', ⟨by have := HJ10.out; have := HK2.out; omega⟩, ⟨by (with_reducible repeat (first | apply Kd.V_alloc | apply Kd.V_drewN | apply Kd.V_drew)); exact HO_11.out⟩, ⟨by repeat (first | (with_reducible first | exact HB.out | apply below_alloc | apply pw_below_drewN | apply below_drew1) | exact HB.out)⟩⟩
                          · replace c27 := Bool.eq_false_iff.mpr c27
                            subst c27
                            have H1 : (some false) = some r := by rw [if_neg (show ¬ (false = true) by decide)] at H; exact H
                            clear H
                            have H := H1
                            clear H1
                            exact absurd (Option.some.inj H) (by rw [HT.out]; decide)
                        · rw [if_neg c25] at H
                          exact absurd H (by simp)
                      · rw [if_neg c24] at H
                        exact absurd H (by simp)
                    · rw [if_neg c23] at H
                      have c23b0 : decide (x69_2 < t298) = false := decide_eq_false c23
                      clear c23
                      have H' := Aside0.mk H
                      clear H
                      go_wp2
                      repeat (go_quiet (fail); try go_wp2)
                      go_roundg k2
                      case measure => have := HJ10.out; have := HK2.out; omega
                      case rel => exact ⟨(wrap64 (x69_2 + 1)), (by first | rfl | (simp; done) | (simp [*]; done)), H', ⟨by have := HJ10.out; have := HK2.out; omega⟩, ⟨by (with_reducible repeat (first | apply Kd.V_alloc | apply Kd.V_drewN | apply Kd.V_drew)); exact HO_11.out⟩, ⟨by repeat (first | (with_reducible first | exact HB.out | apply below_alloc | apply pw_below_drewN | apply below_drew1) | exact HB.out)⟩⟩
                  · rw [if_neg c22] at H
                    have c22b0 : (x69_2 == a1) = false := beq_eq_false_iff_ne.mpr c22
                    have c22b1 : (x69_2 != a1) = true := bne_iff_ne.mpr c22
                    by_cases c28 : x69_2 = t298
                    · rw [if_pos c28] at H
                      have c28b0 : (x69_2 == t298) = true := beq_iff_eq.mpr c28
                      have c28b1 : (x69_2 != t298) = false := bne_eq_false_iff_eq.mpr c28
                      clear c28
                      by_cases c29 : x69_2 < t298
                      · rw [if_pos c29] at H
                        have c29b0 : decide (x69_2 < t298) = true := decide_eq_true c29
                        clear c29
                        by_cases c30 : 0 ≤ x69_2
                        · rw [if_pos c30] at H
                          have c30b0 : decide (0 ≤ x69_2) = true := decide_eq_true c30
                          clear c30
                          by_cases c31 : x69_2 < (l0.length : Int)
                          · rw [if_pos c31] at H
                            have c31b0 : decide (x69_2 < (l0.length : Int)) = true := decide_eq_true c31
                            clear c31
                            obtain ⟨bq32, hbq32⟩ : ∃ b_ : Bool, b_ = ((rd_T59 l0 x69_2).f0) := ⟨_, rfl⟩
                            replace H : (if (bq32 = true) then (handshakerlaw02_HeapAgain.l0 k2 l0 a1 a2 t295 t298 (l0.length : Int) (wrap64 (x69_2 + 1))) else (some false)) = some r := by rw [← hbq32] at H; exact H
                            have Nbq32 := Aside0.mk hbq32
                            clear hbq32
                            by_cases c33 : (bq32 = true)
                            · subst c33
                              have H1 : (handshakerlaw02_HeapAgain.l0 k2 l0 a1 a2 t295 t298 (l0.length : Int) (wrap64 (x69_2 + 1))) = some r := by rw [if_pos rfl] at H; exact H
                              clear H
                              have H := H1
                              clear H1
                              have H' := Aside0.mk H
                              clear H
                              have p301 : 0 ≤ (x69_2 : Int) := of_decide_eq_true (by first | (with_reducible assumption) | assumption)
                              have q301 : x69_2 < (l0.length : Int) := of_decide_eq_true (by first | (with_reducible assumption) | assumption)
                              obtain ⟨ad301, e301, hx301_0, hx301_1⟩ := at_T59 HR0.out x69_2 p301 q301
                              (try rw [← Nbq32.out] at hx301_0)
                              cases e301
                              replace hx301_0 := (HB.out.cell (World.block_lt_of_cell? w _ hx301_0)).trans hx301_0
                              replace hx301_1 := (HB.out.cell (World.block_lt_of_cell? w _ hx301_1)).trans hx301_1
                              replace p301 := eq_true p301
                              replace q301 := eq_true q301
                              go_wp2
                              repeat (go_quiet (fail); try go_wp2)
                              go_roundg k2
                              case measure => have := HJ10.out; have := HK2.out; omega
                              case rel => exact ⟨(wrap64 (x69_2 + 1)), (by first | rfl | (simp; done) | (simp [*]; done)), H', ⟨by have := HJ10.out; have := HK2.out; omega⟩, ⟨by (with_reducible repeat (first | apply Kd.V_alloc | apply Kd.V_drewN | apply Kd.V_drew)); exact HO_11.out⟩, ⟨by repeat (first | (with_reducible first | exact HB.out | apply below_alloc | apply pw_below_drewN | apply below_drew1) | exact HB.out)⟩⟩
                            · replace c33 := Bool.eq_false_iff.mpr c33
                              subst c33
                              have H1 : (some false) = some r := by rw [if_neg (show ¬ (false = true) by decide)] at H; exact H
                              clear H
                              have H := H1
                              clear H1
                              exact absurd (Option.some.inj H) (by rw [HT.out]; decide)
                          · rw [if_neg c31] at H
                            exact absurd H (by simp)
                        · rw [if_neg c30] at H
                          exact absurd H (by simp)
                      · rw [if_neg c29] at H
                        have c29b0 : decide (x69_2 < t298) = false := decide_eq_false c29
                        clear c29
                        have H' := Aside0.mk H
                        clear H
                        go_wp2
                        repeat (go_quiet (fail); try go_wp2)
                        go_roundg k2
                        case measure => have := HJ10.out; have := HK2.out; omega
                        case rel => exact ⟨(wrap64 (x69_2 + 1)), (by first | rfl | (simp; done) | (simp [*]; done)), H', ⟨by have := HJ10.out; have := HK2.out; omega⟩, ⟨by (with_reducible repeat (first | apply Kd.V_alloc | apply Kd.V_drewN | apply Kd.V_drew)); exact HO_11.out⟩, ⟨by repeat (first | (with_reducible first | exact HB.out | apply below_alloc | apply pw_below_drewN | apply below_drew1) | exact HB.out)⟩⟩
                    · rw [if_neg c28] at H
                      have c28b0 : (x69_2 == t298) = false := beq_eq_false_iff_ne.mpr c28
                      have c28b1 : (x69_2 != t298) = true := bne_iff_ne.mpr c28
                      by_cases c34 : 0 ≤ x69_2
                      · rw [if_pos c34] at H
                        have c34b0 : decide (0 ≤ x69_2) = true := decide_eq_true c34
                        clear c34
                        by_cases c35 : x69_2 < (t295.length : Int)
                        · rw [if_pos c35] at H
                          have c35b0 : decide (x69_2 < (t295.length : Int)) = true := decide_eq_true c35
                          clear c35
                          by_cases c36 : x69_2 < (l0.length : Int)
                          · rw [if_pos c36] at H
                            have c36b0 : decide (x69_2 < (l0.length : Int)) = true := decide_eq_true c36
                            clear c36
                            by_cases c37 : (!(((rd_T59 t295 x69_2).f0) == ((rd_T59 l0 x69_2).f0)) || (!(((rd_T59 t295 x69_2).f1) == ((rd_T59 l0 x69_2).f1)))) = true
                            · rw [if_pos c37] at H
                              have c37b0 : (!(((rd_T59 t295 x69_2).f0) == ((rd_T59 l0 x69_2).f0)) || (!(((rd_T59 t295 x69_2).f1) == ((rd_T59 l0 x69_2).f1)))) = true := c37
                              clear c37
                              exact absurd (Option.some.inj H) (by rw [HT.out]; decide)
                            · rw [if_neg c37] at H
                              have c37b0 : (!(((rd_T59 t295 x69_2).f0) == ((rd_T59 l0 x69_2).f0)) || (!(((rd_T59 t295 x69_2).f1) == ((rd_T59 l0 x69_2).f1)))) = false := by simpa using c37
                              clear c37
                              by_cases c38 : x69_2 < t298
                              · rw [if_pos c38] at H
                                have c38b0 : decide (x69_2 < t298) = true := decide_eq_true c38
                                clear c38
                                obtain ⟨bq39, hbq39⟩ : ∃ b_ : Bool, b_ = ((rd_T59 l0 x69_2).f0) := ⟨_, rfl⟩
                                replace H : (if (bq39 = true) then (handshakerlaw02_HeapAgain.l0 k2 l0 a1 a2 t295 t298 (l0.length : Int) (wrap64 (x69_2 + 1))) else (some false)) = some r := by rw [← hbq39] at H; exact H
                                have Nbq39 := Aside0.mk hbq39
                                clear hbq39
                                by_cases c40 : (bq39 = true)
                                · subst c40
                                  have H1 : (handshakerlaw02_HeapAgain.l0 k2 l0 a1 a2 t295 t298 (l0.length : Int) (wrap64 (x69_2 + 1))) = some r := by rw [if_pos rfl] at H; exact H
                                  clear H
                                  have H := H1
                                  clear H1
                                  have H' := Aside0.mk H
                                  clear H
                                  obtain ⟨Ao41, co41, eo41⟩ := Kd.V_slice HO_11.out
                                  subst eo41
                                  have p302 : 0 ≤ (x69_2 : Int) := of_decide_eq_true (by first | (with_reducible assumption) | assumption)
                                  have q302 : x69_2 < (t295.length : Int) := of_decide_eq_true (by first | (with_reducible assumption) | assumption)
                                  obtain ⟨ad302, e302, hx302_0, hx302_1⟩ := at_T59 (Kd.V_reads' HO_11.out).2.2 x69_2 p302 q302
                                  (try rw [← Nbq39.out] at hx302_0)
                                  cases e302
                                  replace p302 := eq_true p302
                                  replace q302 := eq_true q302
                                  have p303 : 0 ≤ (x69_2 : Int) := of_decide_eq_true (by first | (with_reducible assumption) | assumption)
                                  have q303 : x69_2 < (l0.length : Int) := of_decide_eq_true (by first | (with_reducible assumption) | assumption)
                                  obtain ⟨ad303, e303, hx303_0, hx303_1⟩ := at_T59 HR0.out x69_2 p303 q303
                                  (try rw [← Nbq39.out] at hx303_0)
                                  cases e303
                                  replace hx303_0 := (HB.out.cell (World.block_lt_of_cell? w _ hx303_0)).trans hx303_0
                                  replace hx303_1 := (HB.out.cell (World.block_lt_of_cell? w _ hx303_1)).trans hx303_1
                                  replace p303 := eq_true p303
                                  replace q303 := eq_true q303
                                  have p304 : 0 ≤ (x69_2 : Int) := of_decide_eq_true (by first | (with_reducible assumption) | assumption)
                                  have q304 : x69_2 < (l0.length : Int) := of_decide_eq_true (by first | (with_reducible assumption) | assumption)
                                  obtain ⟨ad304, e304, hx304_0, hx304_1⟩ := at_T59 HR0.out x69_2 p304 q304
                                  (try rw [← Nbq39.out] at hx304_0)
                                  obtain rfl : ad303 = ad304 := (by injection e304)
                                  replace hx304_0 := (HB.out.cell (World.block_lt_of_cell? w _ hx304_0)).trans hx304_0
                                  replace hx304_1 := (HB.out.cell (World.block_lt_of_cell? w _ hx304_1)).trans hx304_1
                                  replace p304 := eq_true p304
                                  replace q304 := eq_true q304
                                  (try (have h_c37b0 := c37b0; simp only [← Nbq39.out, beq_true] at h_c37b0))
                                  go_wp2
                                  repeat (go_quiet (fail); try go_wp2)
                                  go_roundg k2
                                  case measure => have := HJ10.out; have := HK2.out; omega
                                  case rel => exact ⟨(wrap64 (x69_2 + 1)), (by first | rfl | (simp; done) | (simp [*]; done)), H', ⟨by have := HJ10.out; have := HK2.out; omega⟩, ⟨by (with_reducible repeat (first | apply Kd.V_alloc | apply Kd.V_drewN | apply Kd.V_drew)); exact HO_11.out⟩, ⟨by repeat (first | (with_reducible first | exact HB.out | apply below_alloc | apply pw_below_drewN | apply below_drew1) | exact HB.out)⟩⟩
                                · replace c40 := Bool.eq_false_iff.mpr c40
                                  subst c40
                                  have H1 : (some false) = some r := by rw [if_neg (show ¬ (false = true) by decide)] at H; exact H
                                  clear H
                                  have H := H1
                                  clear H1
                                  exact absurd (Option.some.inj H) (by rw [HT.out]; decide)
                              · rw [if_neg c38] at H
                                have c38b0 : decide (x69_2 < t298) = false := decide_eq_false c38
                                clear c38
                                have H' := Aside0.mk H
                                clear H
                                obtain ⟨Ao42, co42, eo42⟩ := Kd.V_slice HO_11.out
                                subst eo42
                                have p302 : 0 ≤ (x69_2 : Int) := of_decide_eq_true (by first | (with_reducible assumption) | assumption)
                                have q302 : x69_2 < (t295.length : Int) := of_decide_eq_true (by first | (with_reducible assumption) | assumption)
                                obtain ⟨ad302, e302, hx302_0, hx302_1⟩ := at_T59 (Kd.V_reads' HO_11.out).2.2 x69_2 p302 q302
                                cases e302
                                replace p302 := eq_true p302
                                replace q302 := eq_true q302
                                have p303 : 0 ≤ (x69_2 : Int) := of_decide_eq_true (by first | (with_reducible assumption) | assumption)
                                have q303 : x69_2 < (l0.length : Int) := of_decide_eq_true (by first | (with_reducible assumption) | assumption)
                                obtain ⟨ad303, e303, hx303_0, hx303_1⟩ := at_T59 HR0.out x69_2 p303 q303
                                cases e303
                                replace hx303_0 := (HB.out.cell (World.block_lt_of_cell? w _ hx303_0)).trans hx303_0
                                replace hx303_1 := (HB.out.cell (World.block_lt_of_cell? w _ hx303_1)).trans hx303_1
                                replace p303 := eq_true p303
                                replace q303 := eq_true q303
                                go_wp2
                                repeat (go_quiet (fail); try go_wp2)
                                go_roundg k2
                                case measure => have := HJ10.out; have := HK2.out; omega
                                case rel => exact ⟨(wrap64 (x69_2 + 1)), (by first | rfl | (simp; done) | (simp [*]; done)), H', ⟨by have := HJ10.out; have := HK2.out; omega⟩, ⟨by (with_reducible repeat (first | apply Kd.V_alloc | apply Kd.V_drewN | apply Kd.V_drew)); exact HO_11.out⟩, ⟨by repeat (first | (with_reducible first | exact HB.out | apply below_alloc | apply pw_below_drewN | apply below_drew1) | exact HB.out)⟩⟩
                          · rw [if_neg c36] at H
                            exact absurd H (by simp)
                        · rw [if_neg c35] at H
                          exact absurd H (by simp)
                      · rw [if_neg c34] at H
                        exact absurd H (by simp)
                · rw [if_neg c21] at H
                  have c21b0 : decide (x69_2 < (l0.length : Int)) = false := decide_eq_false c21
                  clear c21
                  replace H := Option.bind_eq_some_iff.mp H
                  obtain ⟨⟨t305, t306⟩, A430, H⟩ := H
                  replace H : (if t305 = (wrap64 (a2)) then (if t306 = 0 then ((handshakerlaw02_awake.f k2).bind fun t307 => (some t307)) else (some false)) else (some false)) = some r := H
                  have A43 := Aside0.mk A430
                  clear A430
                  by_cases c44 : t305 = (wrap64 (a2))
                  · rw [if_pos c44] at H
                    have c44b0 : (t305 == (wrap64 (a2))) = true := beq_iff_eq.mpr c44
                    have c44b1 : (t305 != (wrap64 (a2))) = false := bne_eq_false_iff_eq.mpr c44
                    clear c44
                    by_cases c45 : t306 = 0
                    · rw [if_pos c45] at H
                      have c45b0 : (t306 == 0) = true := beq_iff_eq.mpr c45
                      have c45b1 : (t306 != 0) = false := bne_eq_false_iff_eq.mpr c45
                      clear c45
                      replace H := Option.bind_eq_some_iff.mp H
                      obtain ⟨t307, A460, H⟩ := H
                      replace H : (some t307) = some r := H
                      have A46 := Aside0.mk A460
                      clear A460
                      obtain rfl := Option.some.inj H
                      obtain ⟨Ao47, co47, eo47⟩ := Kd.V_slice HO_11.out
                      subst eo47
                      go_wp2_with (first | (go_at_call 30; (with_reducible refine (heap_Get.calls _ _ t295 t298 t305 t306 _ ?side1 ?side2 A43.out).mono ?_); (case side1 => repeat (first | exact (Kd.V_reads' HO_11.out).2.2 | (with_reducible refine Kd.C_alloc ?_ _) | (with_reducible refine Kd.C_drewN ?_ _) | (with_reducible refine Kd.C_drew ?_))); (case side2 => exact (Kd.V_reads' HO_11.out).2.1); rintro e w48 ⟨rfl, hb⟩; have n0_ := Aside0.mk (Kd.V_below (by (with_reducible repeat (first | apply Kd.V_alloc | apply Kd.V_drewN | apply Kd.V_drew)); exact HO_11.out) hb); have n1_ := Aside0.mk (below_step (by repeat (first | (with_reducible first | exact HB.out | apply below_alloc | apply pw_below_drewN | apply below_drew1) | exact HB.out)) hb); clear HO_11; clear HB; have HO_11 := n0_; have HB := n1_; clear n0_ n1_; (try clear hb); (try clear hb2); (try clear hk); (try clear hi)) | (go_at_call 25; (with_reducible refine (handshakerlaw02_awake.calls k2  t307 _ A46.out).mono ?_); rintro e w49 ⟨rfl, hb⟩; have n0_ := Aside0.mk (Kd.V_below (by (with_reducible repeat (first | apply Kd.V_alloc | apply Kd.V_drewN | apply Kd.V_drew)); exact HO_11.out) hb); have n1_ := Aside0.mk (below_step (by repeat (first | (with_reducible first | exact HB.out | apply below_alloc | apply pw_below_drewN | apply below_drew1) | exact HB.out)) hb); clear HO_11; clear HB; have HO_11 := n0_; have HB := n1_; clear n0_ n1_; (try clear hb); (try clear hb2); (try clear hk); (try clear hi)))
                      repeat (go_quiet (first | (go_at_call 30; (with_reducible refine (heap_Get.calls _ _ t295 t298 t305 t306 _ ?side1 ?side2 A43.out).mono ?_); (case side1 => repeat (first | exact (Kd.V_reads' HO_11.out).2.2 | (with_reducible refine Kd.C_alloc ?_ _) | (with_reducible refine Kd.C_drewN ?_ _) | (with_reducible refine Kd.C_drew ?_))); (case side2 => exact (Kd.V_reads' HO_11.out).2.1); rintro e w48 ⟨rfl, hb⟩; have n0_ := Aside0.mk (Kd.V_below (by (with_reducible repeat (first | apply Kd.V_alloc | apply Kd.V_drewN | apply Kd.V_drew)); exact HO_11.out) hb); have n1_ := Aside0.mk (below_step (by repeat (first | (with_reducible first | exact HB.out | apply below_alloc | apply pw_below_drewN | apply below_drew1) | exact HB.out)) hb); clear HO_11; clear HB; have HO_11 := n0_; have HB := n1_; clear n0_ n1_; (try clear hb); (try clear hb2); (try clear hk); (try clear hi)) | (go_at_call 25; (with_reducible refine (handshakerlaw02_awake.calls k2  t307 _ A46.out).mono ?_); rintro e w49 ⟨rfl, hb⟩; have n0_ := Aside0.mk (Kd.V_below (by (with_reducible repeat (first | apply Kd.V_alloc | apply Kd.V_drewN | apply Kd.V_drew)); exact HO_11.out) hb); have n1_ := Aside0.mk (below_step (by repeat (first | (with_reducible first | exact HB.out | apply below_alloc | apply pw_below_drewN | apply below_drew1) | exact HB.out)) hb); clear HO_11; clear HB; have HO_11 := n0_; have HB := n1_; clear n0_ n1_; (try clear hb); (try clear hb2); (try clear hk); (try clear hi))); try go_wp2_with (first | (go_at_call 30; (with_reducible refine (heap_Get.calls _ _ t295 t298 t305 t306 _ ?side1 ?side2 A43.out).mono ?_); (case side1 => repeat (first | exact (Kd.V_reads' HO_11.out).2.2 | (with_reducible refine Kd.C_alloc ?_ _) | (with_reducible refine Kd.C_drewN ?_ _) | (with_reducible refine Kd.C_drew ?_))); (case side2 => exact (Kd.V_reads' HO_11.out).2.1); rintro e w48 ⟨rfl, hb⟩; have n0_ := Aside0.mk (Kd.V_below (by (with_reducible repeat (first | apply Kd.V_alloc | apply Kd.V_drewN | apply Kd.V_drew)); exact HO_11.out) hb); have n1_ := Aside0.mk (below_step (by repeat (first | (with_reducible first | exact HB.out | apply below_alloc | apply pw_below_drewN | apply below_drew1) | exact HB.out)) hb); clear HO_11; clear HB; have HO_11 := n0_; have HB := n1_; clear n0_ n1_; (try clear hb); (try clear hb2); (try clear hk); (try clear hi)) | (go_at_call 25; (with_reducible refine (handshakerlaw02_awake.calls k2  t307 _ A46.out).mono ?_); rintro e w49 ⟨rfl, hb⟩; have n0_ := Aside0.mk (Kd.V_below (by (with_reducible repeat (first | apply Kd.V_alloc | apply Kd.V_drewN | apply Kd.V_drew)); exact HO_11.out) hb); have n1_ := Aside0.mk (below_step (by repeat (first | (with_reducible first | exact HB.out | apply below_alloc | apply pw_below_drewN | apply below_drew1) | exact HB.out)) hb); clear HO_11; clear HB; have HO_11 := n0_; have HB := n1_; clear n0_ n1_; (try clear hb); (try clear hb2); (try clear hk); (try clear hi))))
                      go_ret
                      exact ⟨by first | rfl | (simp [errW_none, errW_some] <;> rfl) | (simp [*, errW_none, errW_some] <;> rfl), by repeat (first | (with_reducible first | exact HB.out | apply below_alloc | apply pw_below_drewN | apply below_drew1) | exact HB.out)⟩
                    · rw [if_neg c45] at H
                      have c45b0 : (t306 == 0) = false := beq_eq_false_iff_ne.mpr c45
                      have c45b1 : (t306 != 0) = true := bne_iff_ne.mpr c45
                      exact absurd (Option.some.inj H) (by rw [HT.out]; decide)
                  · rw [if_neg c44] at H
                    have c44b0 : (t305 == (wrap64 (a2))) = false := beq_eq_false_iff_ne.mpr c44
                    have c44b1 : (t305 != (wrap64 (a2))) = true := bne_iff_ne.mpr c44
                    exact absurd (Option.some.inj H) (by rw [HT.out]; decide)
    · rw [if_neg c8] at H
      have c8b0 : (t290 == 0) = false := beq_eq_false_iff_ne.mpr c8
      have c8b1 : (t290 != 0) = true := bne_iff_ne.mpr c8
      replace H := Option.bind_eq_some_iff.mp H
      obtain ⟨t291, A500, H⟩ := H
      replace H : (if t291 = true then ((handshakerlaw02_awake.f k).bind fun t292 => (some t292)) else (some false)) = some r := H
      have A50 := Aside0.mk A500
      clear A500
      by_cases c51 : t291 = true
      · subst c51
        have H1 : ((handshakerlaw02_awake.f k).bind fun t292 => (some t292)) = some r := by rw [if_pos rfl] at H; exact H
        clear H
        have H := H1
        clear H1
        replace H := Option.bind_eq_some_iff.mp H
        obtain ⟨t292, A520, H⟩ := H
        replace H : (some t292) = some r := H
        have A52 := Aside0.mk A520
        clear A520
        obtain rfl := Option.some.inj H
        go_enter Try.func11, Try.ntmps11
        go_wp2_with (first | (go_at_call 28; (with_reducible refine (heap_Free.calls (fun k_ => k_ < w.heap.size) _ _ l0 a1 t287 t290 _ ?side1 A7.out).mono ?_); (case side1 => exact Kd.V_mk HC0.out (Kd.F_below (Kd.C_F k59_heap HR0.out) (by repeat (first | (with_reducible first | exact HB.out | apply below_alloc | apply pw_below_drewN | apply below_drew1) | exact HB.out)))); rintro e w53 ⟨v288, rfl, ho0, hb⟩; have n0_ := Aside0.mk (Kd.V_lower (Kd.V_mono (ok' := fun k_ => True) ho0 (fun k_ hk_ => trivial)) (below_size (by repeat (first | (with_reducible first | exact HB.out | apply below_alloc | apply pw_below_drewN | apply below_drew1) | exact HB.out)))); have n1_ := Aside0.mk (below_step (by repeat (first | (with_reducible first | exact HB.out | apply below_alloc | apply pw_below_drewN | apply below_drew1) | exact HB.out)) hb); clear HB; have HO289 := n0_; have HB := n1_; clear n0_ n1_; (try clear hb); (try clear hb2); (try clear hk); (try clear hi); (try clear ho0); obtain ⟨Ao54, co54, eo54⟩ := Kd.V_slice HO289.out; subst eo54) | (go_at_call 36; (with_reducible refine (handshakerref02_Same.calls k _ _ t287 _ _ l0 true _ ?side1 ?side2 ?side3 ?side4 A50.out).mono ?_); (case side1 => repeat (first | exact (Kd.V_reads' HO289.out).2.2 | (with_reducible refine Kd.C_alloc ?_ _) | (with_reducible refine Kd.C_drewN ?_ _) | (with_reducible refine Kd.C_drew ?_))); (case side2 => exact (Kd.V_reads' HO289.out).2.1); (case side3 => repeat (first | exact (Kd.C_below HR0.out HB.out) | (with_reducible refine Kd.C_alloc ?_ _) | (with_reducible refine Kd.C_drewN ?_ _) | (with_reducible refine Kd.C_drew ?_))); (case side4 => exact HC0.out); rintro e w' ⟨rfl, ⟨nd, rfl⟩⟩; (try first | exact ⟨rfl, _, World.drewN_drewN _ _ _⟩ | exact ⟨rfl, _, Eq.trans (World.drewN_drewN _ _ _) (congrArg (World.drewN _) (Nat.add_assoc _ _ _))⟩)) | (go_at_call 25; (with_reducible refine (handshakerlaw02_awake.calls k  t292 _ A52.out).mono ?_); rintro e w55 ⟨rfl, hb⟩; have n0_ := Aside0.mk (Kd.V_below (by (with_reducible repeat (first | apply Kd.V_alloc | apply Kd.V_drewN | apply Kd.V_drew)); exact HO289.out) hb); have n1_ := Aside0.mk (below_step (by repeat (first | (with_reducible first | exact HB.out | apply below_alloc | apply pw_below_drewN | apply below_drew1) | exact HB.out)) hb); clear HO289; clear HB; have HO289 := n0_; have HB := n1_; clear n0_ n1_; (try clear hb); (try clear hb2); (try clear hk); (try clear hi)))
        repeat (go_quiet (first | (go_at_call 28; (with_reducible refine (heap_Free.calls (fun k_ => k_ < w.heap.size) _ _ l0 a1 t287 t290 _ ?side1 A7.out).mono ?_); (case side1 => exact Kd.V_mk HC0.out (Kd.F_below (Kd.C_F k59_heap HR0.out) (by repeat (first | (with_reducible first | exact HB.out | apply below_alloc | apply pw_below_drewN | apply below_drew1) | exact HB.out)))); rintro e w53 ⟨v288, rfl, ho0, hb⟩; have n0_ := Aside0.mk (Kd.V_lower (Kd.V_mono (ok' := fun k_ => True) ho0 (fun k_ hk_ => trivial)) (below_size (by repeat (first | (with_reducible first | exact HB.out | apply below_alloc | apply pw_below_drewN | apply below_drew1) | exact HB.out)))); have n1_ := Aside0.mk (below_step (by repeat (first | (with_reducible first | exact HB.out | apply below_alloc | apply pw_below_drewN | apply below_drew1) | exact HB.out)) hb); clear HB; have HO289 := n0_; have HB := n1_; clear n0_ n1_; (try clear hb); (try clear hb2); (try clear hk); (try clear hi); (try clear ho0); obtain ⟨Ao54, co54, eo54⟩ := Kd.V_slice HO289.out; subst eo54) | (go_at_call 36; (with_reducible refine (handshakerref02_Same.calls k _ _ t287 _ _ l0 true _ ?side1 ?side2 ?side3 ?side4 A50.out).mono ?_); (case side1 => repeat (first | exact (Kd.V_reads' HO289.out).2.2 | (with_reducible refine Kd.C_alloc ?_ _) | (with_reducible refine Kd.C_drewN ?_ _) | (with_reducible refine Kd.C_drew ?_))); (case side2 => exact (Kd.V_reads' HO289.out).2.1); (case side3 => repeat (first | exact (Kd.C_below HR0.out HB.out) | (with_reducible refine Kd.C_alloc ?_ _) | (with_reducible refine Kd.C_drewN ?_ _) | (with_reducible refine Kd.C_drew ?_))); (case side4 => exact HC0.out); rintro e w' ⟨rfl, ⟨nd, rfl⟩⟩; (try first | exact ⟨rfl, _, World.drewN_drewN _ _ _⟩ | exact ⟨rfl, _, Eq.trans (World.drewN_drewN _ _ _) (congrArg (World.drewN _) (Nat.add_assoc _ _ _))⟩)) | (go_at_call 25; (with_reducible refine (handshakerlaw02_awake.calls k  t292 _ A52.out).mono ?_); rintro e w55 ⟨rfl, hb⟩; have n0_ := Aside0.mk (Kd.V_below (by (with_reducible repeat (first | apply Kd.V_alloc | apply Kd.V_drewN | apply Kd.V_drew)); exact HO289.out) hb); have n1_ := Aside0.mk (below_step (by repeat (first | (with_reducible first | exact HB.out | apply below_alloc | apply pw_below_drewN | apply below_drew1) | exact HB.out)) hb); clear HO289; clear HB; have HO289 := n0_; have HB := n1_; clear n0_ n1_; (try clear hb); (try clear hb2); (try clear hk); (try clear hi))); try go_wp2_with (first | (go_at_call 28; (with_reducible refine (heap_Free.calls (fun k_ => k_ < w.heap.size) _ _ l0 a1 t287 t290 _ ?side1 A7.out).mono ?_); (case side1 => exact Kd.V_mk HC0.out (Kd.F_below (Kd.C_F k59_heap HR0.out) (by repeat (first | (with_reducible first | exact HB.out | apply below_alloc | apply pw_below_drewN | apply below_drew1) | exact HB.out)))); rintro e w53 ⟨v288, rfl, ho0, hb⟩; have n0_ := Aside0.mk (Kd.V_lower (Kd.V_mono (ok' := fun k_ => True) ho0 (fun k_ hk_ => trivial)) (below_size (by repeat (first | (with_reducible first | exact HB.out | apply below_alloc | apply pw_below_drewN | apply below_drew1) | exact HB.out)))); have n1_ := Aside0.mk (below_step (by repeat (first | (with_reducible first | exact HB.out | apply below_alloc | apply pw_below_drewN | apply below_drew1) | exact HB.out)) hb); clear HB; have HO289 := n0_; have HB := n1_; clear n0_ n1_; (try clear hb); (try clear hb2); (try clear hk); (try clear hi); (try clear ho0); obtain ⟨Ao54, co54, eo54⟩ := Kd.V_slice HO289.out; subst eo54) | (go_at_call 36; (with_reducible refine (handshakerref02_Same.calls k _ _ t287 _ _ l0 true _ ?side1 ?side2 ?side3 ?side4 A50.out).mono ?_); (case side1 => repeat (first | exact (Kd.V_reads' HO289.out).2.2 | (with_reducible refine Kd.C_alloc ?_ _) | (with_reducible refine Kd.C_drewN ?_ _) | (with_reducible refine Kd.C_drew ?_))); (case side2 => exact (Kd.V_reads' HO289.out).2.1); (case side3 => repeat (first | exact (Kd.C_below HR0.out HB.out) | (with_reducible refine Kd.C_alloc ?_ _) | (with_reducible refine Kd.C_drewN ?_ _) | (with_reducible refine Kd.C_drew ?_))); (case side4 => exact HC0.out); rintro e w' ⟨rfl, ⟨nd, rfl⟩⟩; (try first | exact ⟨rfl, _, World.drewN_drewN _ _ _⟩ | exact ⟨rfl, _, Eq.trans (World.drewN_drewN _ _ _) (congrArg (World.drewN _) (Nat.add_assoc _ _ _))⟩)) | (go_at_call 25; (with_reducible refine (handshakerlaw02_awake.calls k  t292 _ A52.out).mono ?_); rintro e w55 ⟨rfl, hb⟩; have n0_ := Aside0.mk (Kd.V_below (by (with_reducible repeat (first | apply Kd.V_alloc | apply Kd.V_drewN | apply Kd.V_drew)); exact HO289.out) hb); have n1_ := Aside0.mk (below_step (by repeat (first | (with_reducible first | exact HB.out | apply below_alloc | apply pw_below_drewN | apply below_drew1) | exact HB.out)) hb); clear HO289; clear HB; have HO289 := n0_; have HB := n1_; clear n0_ n1_; (try clear hb); (try clear hb2); (try clear hk); (try clear hi))))
        go_ret
        exact ⟨by first | rfl | (simp [errW_none, errW_some] <;> rfl) | (simp [*, errW_none, errW_some] <;> rfl), by repeat (first | (with_reducible first | exact HB.out | apply below_alloc | apply pw_below_drewN | apply below_drew1) | exact HB.out)⟩
      · replace c51 := Bool.eq_false_iff.mpr c51
        subst c51
        have H1 : (some false) = some r := by rw [if_neg (show ¬ (false = true) by decide)] at H; exact H
        clear H
        have H := H1
        clear H1
        exact absurd (Option.some.inj H) (by rw [HT.out]; decide)

/-- THE ONE PURE STATEMENT of handshakerlaw02_HeapAgain. -/
def handshakerlaw02_HeapAgain.Pure : Prop := ∀ (l0 : List (S59)) (a1 : Int) (a2 : Int), l0.length ≤ maxLen → l0.length * 16 ≤ 140737488351232 → (∀ y ∈ l0, wfS59 y) → (Lit.int .i64 a1).wf = true → (Lit.int .i32 a2).wf = true → ∃ k, handshakerlaw02_HeapAgain.f k l0 a1 a2 = some true

end Go.Proofs.Ytlfeohglfjnnhaa.Hp
