-- PRINTED by print.py (a twelfth state) out of the translation. Not trusted: Lean checks it.
import Derived.Test.YtjnkpocfmpbpoaaScx0
import Derived.Test.YtjnkpocfmpbpoaaScx1
import Derived.Test.YtjnkpocfmpbpoaaScx4
import Derived.Test.YtjnkpocfmpbpoaaScx7
import Derived.Test.YtjnkpocfmpbpoaaScx8
namespace Go.Proofs.Ytjnkpocfmpbpoaa.Sc
open Go.Proofs.Ytjnkpocfmpbpoaa.Ho
open Go.RowKit Go.Proofs.YtjnkpocfmpbpoaaW.PrintWords Go.Proofs.YtjnkpocfmpbpoaaW.PrintLast Go.Proofs.YtjnkpocfmpbpoaaW.PrintMore
attribute [local go_sem] max2_int min2_int max_two min_two max_three min_three max_four min_four   -- for this text's walks alone
set_option linter.unusedVariables false
set_option linter.unusedSimpArgs false

/-! ### handshakerlaw15_SleepCells: function 6 -/
mutual
def handshakerlaw15_SleepCells.j0 : Nat → List (S26) → Int → Bool → Option (Bool)
 | 0, _, _, _ => none
 | k + 1, x0, x1, x22 => if x22 = true then ((handshakerlaw15_awake.f k).bind fun t315 => (some t315)) else ((sleep_Of.f k x0 (([x1] : List Int))).bind fun t319 => (handshakerlaw15_SleepCells.l0 k x0 x1 t319 ([] : List Int) 0))
def handshakerlaw15_SleepCells.l0 : Nat → List (S26) → Int → List Int → List Int → Int → Option (Bool)
 | 0, _, _, _, _, _ => none
 | k + 1, x0, x1, x5, x6, x28 => if x28 < 64 then (if x6.length < 17592186044416 then (handshakerlaw15_SleepCells.l0 k x0 x1 x5 (x6 ++ [x28]) (wrap64 (x28 + 1))) else (none)) else (handshakerlaw15_SleepCells.l1 k x0 x1 x5 x6 ([] : List Int) 0 x0 (x0.length : Int) 0)
def handshakerlaw15_SleepCells.l1 : Nat → List (S26) → Int → List Int → List Int → List Int → Int → List (S26) → Int → Int → Option (Bool)
 | 0, _, _, _, _, _, _, _, _, _ => none
 | k + 1, x0, x1, x5, x6, x7, x9, x36, x37, x38 => if x38 < x37 then (if 0 ≤ x38 then (if x38 < (x36.length : Int) then (handshakerlaw15_SleepCells.l2 k x0 x1 x5 x6 x7 x9 false x36 x37 x38 ((rd_T26 x36 x38).f3) (((rd_T26 x36 x38).f3).length : Int) 0 ((rd_T26 x36 x38).f0) ((rd_T26 x36 x38).f1) ((rd_T26 x36 x38).f2) ((rd_T26 x36 x38).f3) ((rd_T26 x36 x38).f4)) else (none)) else (none)) else (if x9 = (x5.length : Int) then ((sleep_Of.f k x0 x6).bind fun t336 => ((handshakerref03_Numbers.f k t336 x7).bind fun t339 => (if t339 = true then ((sleep_Of.f k x0 ([] : List Int)).bind fun t340 => (if (t340.length : Int) = 0 then ((handshakerlaw15_awake.f k).bind fun t343 => (some t343)) else (some false))) else (some false)))) else (some false))
def handshakerlaw15_SleepCells.l2 : Nat → List (S26) → Int → List Int → List Int → List Int → Int → Bool → List (S26) → Int → Int → List (S62) → Int → Int → Int → Int → Int → List (S62) → List (S80) → Option (Bool)
 | 0, _, _, _, _, _, _, _, _, _, _, _, _, _, _, _, _, _, _ => none
 | k + 1, x0, x1, x5, x6, x7, x9, x12, x36, x37, x38, x43, x44, x45, x327000, x327001, x327002, x327003, x327004 => if x45 < x44 then (if 0 ≤ x45 then (if x45 < (x43.length : Int) then (if x12 = true then (handshakerlaw15_SleepCells.l2 k x0 x1 x5 x6 x7 x9 true x36 x37 x38 x43 x44 (wrap64 (x45 + 1)) x327000 x327001 x327002 x327003 x327004) else (handshakerlaw15_SleepCells.l2 k x0 x1 x5 x6 x7 x9 (((rd_T62 x43 x45).f0) == x1) x36 x37 x38 x43 x44 (wrap64 (x45 + 1)) x327000 x327001 x327002 x327003 x327004)) else (none)) else (none)) else (if x12 = true then (if x9 ≥ (x5.length : Int) then (handshakerlaw15_SleepCells.j4 k x0 x1 x5 x6 x7 x9 x36 x37 x38 true x327000 x327001 x327002 x327003 x327004) else (if 0 ≤ x9 then (if x9 < (x5.length : Int) then (handshakerlaw15_SleepCells.j4 k x0 x1 x5 x6 x7 x9 x36 x37 x38 ((rd x5 x9) != x327000) x327000 x327001 x327002 x327003 x327004) else (none)) else (none))) else (if (x327003.length : Int) > 0 then (if x7.length < 17592186044416 then (handshakerlaw15_SleepCells.l1 k x0 x1 x5 x6 (x7 ++ [x327000]) x9 x36 x37 (wrap64 (x38 + 1))) else (none)) else (handshakerlaw15_SleepCells.l1 k x0 x1 x5 x6 x7 x9 x36 x37 (wrap64 (x38 + 1)))))
def handshakerlaw15_SleepCells.j4 : Nat → List (S26) → Int → List Int → List Int → List Int → Int → List (S26) → Int → Int → Bool → Int → Int → Int → List (S62) → List (S80) → Option (Bool)
 | 0, _, _, _, _, _, _, _, _, _, _, _, _, _, _, _ => none
 | k + 1, x0, x1, x5, x6, x7, x9, x36, x37, x38, x70, x327000, x327001, x327002, x327003, x327004 => if x70 = true then (some false) else (if (x327003.length : Int) > 0 then (if x7.length < 17592186044416 then (handshakerlaw15_SleepCells.l1 k x0 x1 x5 x6 (x7 ++ [x327000]) (wrap64 (x9 + 1)) x36 x37 (wrap64 (x38 + 1))) else (none)) else (handshakerlaw15_SleepCells.l1 k x0 x1 x5 x6 x7 (wrap64 (x9 + 1)) x36 x37 (wrap64 (x38 + 1))))
end
def handshakerlaw15_SleepCells.f (k : Nat) (l0 : List (S26)) (a1 : Int) : Option (Bool) := (handshakerlaw15_Small.f k l0).bind fun t313 => (if t313 < 0 then (handshakerlaw15_SleepCells.j0 k l0 a1 true) else ((sleep_Right.f k l0).bind fun t314 => (handshakerlaw15_SleepCells.j0 k l0 a1 (!t314))))
theorem handshakerlaw15_SleepCells.mono_l : ∀ k, (∀ y0 y1 y2, LeO (handshakerlaw15_SleepCells.j0 k y0 y1 y2) (handshakerlaw15_SleepCells.j0 (k + 1) y0 y1 y2)) ∧ (∀ y0 y1 y2 y3 y4, LeO (handshakerlaw15_SleepCells.l0 k y0 y1 y2 y3 y4) (handshakerlaw15_SleepCells.l0 (k + 1) y0 y1 y2 y3 y4)) ∧ (∀ y0 y1 y2 y3 y4 y5 y6 y7 y8, LeO (handshakerlaw15_SleepCells.l1 k y0 y1 y2 y3 y4 y5 y6 y7 y8) (handshakerlaw15_SleepCells.l1 (k + 1) y0 y1 y2 y3 y4 y5 y6 y7 y8)) ∧ (∀ y0 y1 y2 y3 y4 y5 y6 y7 y8 y9 y10 y11 y12 y13 y14 y15 y16 y17, LeO (handshakerlaw15_SleepCells.l2 k y0 y1 y2 y3 y4 y5 y6 y7 y8 y9 y10 y11 y12 y13 y14 y15 y16 y17) (handshakerlaw15_SleepCells.l2 (k + 1) y0 y1 y2 y3 y4 y5 y6 y7 y8 y9 y10 y11 y12 y13 y14 y15 y16 y17)) ∧ (∀ y0 y1 y2 y3 y4 y5 y6 y7 y8 y9 y10 y11 y12 y13 y14, LeO (handshakerlaw15_SleepCells.j4 k y0 y1 y2 y3 y4 y5 y6 y7 y8 y9 y10 y11 y12 y13 y14) (handshakerlaw15_SleepCells.j4 (k + 1) y0 y1 y2 y3 y4 y5 y6 y7 y8 y9 y10 y11 y12 y13 y14))
 | 0 => ⟨fun _ _ _ r h => by simp [handshakerlaw15_SleepCells.j0] at h, fun _ _ _ _ _ r h => by simp [handshakerlaw15_SleepCells.l0] at h, fun _ _ _ _ _ _ _ _ _ r h => by simp [handshakerlaw15_SleepCells.l1] at h, fun _ _ _ _ _ _ _ _ _ _ _ _ _ _ _ _ _ _ r h => by simp [handshakerlaw15_SleepCells.l2] at h, fun _ _ _ _ _ _ _ _ _ _ _ _ _ _ _ r h => by simp [handshakerlaw15_SleepCells.j4] at h⟩
 | k + 1 => by
  obtain ⟨ih0, ih1, ih2, ih3, ih4⟩ := handshakerlaw15_SleepCells.mono_l k
  refine ⟨?_, ?_, ?_, ?_, ?_⟩
  · intro y0 y1 y2
    unfold handshakerlaw15_SleepCells.j0
    repeat' first
    | (with_reducible exact ih0 _ _ _)
    | (with_reducible exact ih1 _ _ _ _ _)
    | (with_reducible exact ih2 _ _ _ _ _ _ _ _ _)
    | (with_reducible exact ih3 _ _ _ _ _ _ _ _ _ _ _ _ _ _ _ _ _ _)
    | (with_reducible exact ih4 _ _ _ _ _ _ _ _ _ _ _ _ _ _ _)
    | (with_reducible exact handshakerlaw15_Small.mono _ _)
    | (with_reducible exact handshakerlaw15_awake.mono _)
    | (with_reducible exact handshakerref03_Numbers.mono _ _ _)
    | (with_reducible exact sleep_Of.mono _ _ _)
    | (with_reducible exact sleep_Right.mono _ _)
    | (with_reducible exact LeO.refl _)
    | (with_reducible exact LeO.none _)
    | (with_reducible refine LeO.ite ?_ ?_)
    | (with_reducible refine LeO.bind ?_ (fun _ => ?_))
    | exact ih0 _ _ _
    | exact ih1 _ _ _ _ _
    | exact ih2 _ _ _ _ _ _ _ _ _
    | exact ih3 _ _ _ _ _ _ _ _ _ _ _ _ _ _ _ _ _ _
    | exact ih4 _ _ _ _ _ _ _ _ _ _ _ _ _ _ _
    | exact handshakerlaw15_Small.mono _ _
    | exact handshakerlaw15_awake.mono _
    | exact handshakerref03_Numbers.mono _ _ _
    | exact sleep_Of.mono _ _ _
    | exact sleep_Right.mono _ _
    | exact LeO.none _
    | refine LeO.ite ?_ ?_
    | refine LeO.bind ?_ (fun _ => ?_)
  · intro y0 y1 y2 y3 y4
    unfold handshakerlaw15_SleepCells.l0
    repeat' first
    | (with_reducible exact ih0 _ _ _)
    | (with_reducible exact ih1 _ _ _ _ _)
    | (with_reducible exact ih2 _ _ _ _ _ _ _ _ _)
    | (with_reducible exact ih3 _ _ _ _ _ _ _ _ _ _ _ _ _ _ _ _ _ _)
    | (with_reducible exact ih4 _ _ _ _ _ _ _ _ _ _ _ _ _ _ _)
    | (with_reducible exact handshakerlaw15_Small.mono _ _)
    | (with_reducible exact handshakerlaw15_awake.mono _)
    | (with_reducible exact handshakerref03_Numbers.mono _ _ _)
    | (with_reducible exact sleep_Of.mono _ _ _)
    | (with_reducible exact sleep_Right.mono _ _)
    | (with_reducible exact LeO.refl _)
    | (with_reducible exact LeO.none _)
    | (with_reducible refine LeO.ite ?_ ?_)
    | (with_reducible refine LeO.bind ?_ (fun _ => ?_))
    | exact ih0 _ _ _
    | exact ih1 _ _ _ _ _
    | exact ih2 _ _ _ _ _ _ _ _ _
    | exact ih3 _ _ _ _ _ _ _ _ _ _ _ _ _ _ _ _ _ _
    | exact ih4 _ _ _ _ _ _ _ _ _ _ _ _ _ _ _
    | exact handshakerlaw15_Small.mono _ _
    | exact handshakerlaw15_awake.mono _
    | exact handshakerref03_Numbers.mono _ _ _
    | exact sleep_Of.mono _ _ _
    | exact sleep_Right.mono _ _
    | exact LeO.none _
    | refine LeO.ite ?_ ?_
    | refine LeO.bind ?_ (fun _ => ?_)
  · intro y0 y1 y2 y3 y4 y5 y6 y7 y8
    unfold handshakerlaw15_SleepCells.l1
    repeat' first
    | (with_reducible exact ih0 _ _ _)
    | (with_reducible exact ih1 _ _ _ _ _)
    | (with_reducible exact ih2 _ _ _ _ _ _ _ _ _)
    | (with_reducible exact ih3 _ _ _ _ _ _ _ _ _ _ _ _ _ _ _ _ _ _)
    | (with_reducible exact ih4 _ _ _ _ _ _ _ _ _ _ _ _ _ _ _)
    | (with_reducible exact handshakerlaw15_Small.mono _ _)
    | (with_reducible exact handshakerlaw15_awake.mono _)
    | (with_reducible exact handshakerref03_Numbers.mono _ _ _)
    | (with_reducible exact sleep_Of.mono _ _ _)
    | (with_reducible exact sleep_Right.mono _ _)
    | (with_reducible exact LeO.refl _)
    | (with_reducible exact LeO.none _)
    | (with_reducible refine LeO.ite ?_ ?_)
    | (with_reducible refine LeO.bind ?_ (fun _ => ?_))
    | exact ih0 _ _ _
    | exact ih1 _ _ _ _ _
    | exact ih2 _ _ _ _ _ _ _ _ _
    | exact ih3 _ _ _ _ _ _ _ _ _ _ _ _ _ _ _ _ _ _
    | exact ih4 _ _ _ _ _ _ _ _ _ _ _ _ _ _ _
    | exact handshakerlaw15_Small.mono _ _
    | exact handshakerlaw15_awake.mono _
    | exact handshakerref03_Numbers.mono _ _ _
    | exact sleep_Of.mono _ _ _
    | exact sleep_Right.mono _ _
    | exact LeO.none _
    | refine LeO.ite ?_ ?_
    | refine LeO.bind ?_ (fun _ => ?_)
  · intro y0 y1 y2 y3 y4 y5 y6 y7 y8 y9 y10 y11 y12 y13 y14 y15 y16 y17
    unfold handshakerlaw15_SleepCells.l2
    repeat' first
    | (with_reducible exact ih0 _ _ _)
    | (with_reducible exact ih1 _ _ _ _ _)
    | (with_reducible exact ih2 _ _ _ _ _ _ _ _ _)
    | (with_reducible exact ih3 _ _ _ _ _ _ _ _ _ _ _ _ _ _ _ _ _ _)
    | (with_reducible exact ih4 _ _ _ _ _ _ _ _ _ _ _ _ _ _ _)
    | (with_reducible exact handshakerlaw15_Small.mono _ _)
    | (with_reducible exact handshakerlaw15_awake.mono _)
    | (with_reducible exact handshakerref03_Numbers.mono _ _ _)
    | (with_reducible exact sleep_Of.mono _ _ _)
    | (with_reducible exact sleep_Right.mono _ _)
    | (with_reducible exact LeO.refl _)
    | (with_reducible exact LeO.none _)
    | (with_reducible refine LeO.ite ?_ ?_)
    | (with_reducible refine LeO.bind ?_ (fun _ => ?_))
    | exact ih0 _ _ _
    | exact ih1 _ _ _ _ _
    | exact ih2 _ _ _ _ _ _ _ _ _
    | exact ih3 _ _ _ _ _ _ _ _ _ _ _ _ _ _ _ _ _ _
    | exact ih4 _ _ _ _ _ _ _ _ _ _ _ _ _ _ _
    | exact handshakerlaw15_Small.mono _ _
    | exact handshakerlaw15_awake.mono _
    | exact handshakerref03_Numbers.mono _ _ _
    | exact sleep_Of.mono _ _ _
    | exact sleep_Right.mono _ _
    | exact LeO.none _
    | refine LeO.ite ?_ ?_
    | refine LeO.bind ?_ (fun _ => ?_)
  · intro y0 y1 y2 y3 y4 y5 y6 y7 y8 y9 y10 y11 y12 y13 y14
    unfold handshakerlaw15_SleepCells.j4
    repeat' first
    | (with_reducible exact ih0 _ _ _)
    | (with_reducible exact ih1 _ _ _ _ _)
    | (with_reducible exact ih2 _ _ _ _ _ _ _ _ _)
    | (with_reducible exact ih3 _ _ _ _ _ _ _ _ _ _ _ _ _ _ _ _ _ _)
    | (with_reducible exact ih4 _ _ _ _ _ _ _ _ _ _ _ _ _ _ _)
    | (with_reducible exact handshakerlaw15_Small.mono _ _)
    | (with_reducible exact handshakerlaw15_awake.mono _)
    | (with_reducible exact handshakerref03_Numbers.mono _ _ _)
    | (with_reducible exact sleep_Of.mono _ _ _)
    | (with_reducible exact sleep_Right.mono _ _)
    | (with_reducible exact LeO.refl _)
    | (with_reducible exact LeO.none _)
    | (with_reducible refine LeO.ite ?_ ?_)
    | (with_reducible refine LeO.bind ?_ (fun _ => ?_))
    | exact ih0 _ _ _
    | exact ih1 _ _ _ _ _
    | exact ih2 _ _ _ _ _ _ _ _ _
    | exact ih3 _ _ _ _ _ _ _ _ _ _ _ _ _ _ _ _ _ _
    | exact ih4 _ _ _ _ _ _ _ _ _ _ _ _ _ _ _
    | exact handshakerlaw15_Small.mono _ _
    | exact handshakerlaw15_awake.mono _
    | exact handshakerref03_Numbers.mono _ _ _
    | exact sleep_Of.mono _ _ _
    | exact sleep_Right.mono _ _
    | exact LeO.none _
    | refine LeO.ite ?_ ?_
    | refine LeO.bind ?_ (fun _ => ?_)
theorem handshakerlaw15_SleepCells.mono : ∀ a0 a1 k, LeO (handshakerlaw15_SleepCells.f k a0 a1) (handshakerlaw15_SleepCells.f (k + 1) a0 a1) := by
 intro a0 a1 k
 obtain ⟨ih0, ih1, ih2, ih3, ih4⟩ := handshakerlaw15_SleepCells.mono_l k
 unfold handshakerlaw15_SleepCells.f
 repeat' first
  | (with_reducible exact ih0 _ _ _)
  | (with_reducible exact ih1 _ _ _ _ _)
  | (with_reducible exact ih2 _ _ _ _ _ _ _ _ _)
  | (with_reducible exact ih3 _ _ _ _ _ _ _ _ _ _ _ _ _ _ _ _ _ _)
  | (with_reducible exact ih4 _ _ _ _ _ _ _ _ _ _ _ _ _ _ _)
  | (with_reducible exact handshakerlaw15_Small.mono _ _)
  | (with_reducible exact handshakerlaw15_awake.mono _)
  | (with_reducible exact handshakerref03_Numbers.mono _ _ _)
  | (with_reducible exact sleep_Of.mono _ _ _)
  | (with_reducible exact sleep_Right.mono _ _)
  | (with_reducible exact LeO.refl _)
  | (with_reducible exact LeO.none _)
  | (with_reducible refine LeO.ite ?_ ?_)
  | (with_reducible refine LeO.bind ?_ (fun _ => ?_))
  | exact ih0 _ _ _
  | exact ih1 _ _ _ _ _
  | exact ih2 _ _ _ _ _ _ _ _ _
  | exact ih3 _ _ _ _ _ _ _ _ _ _ _ _ _ _ _ _ _ _
  | exact ih4 _ _ _ _ _ _ _ _ _ _ _ _ _ _ _
  | exact handshakerlaw15_Small.mono _ _
  | exact handshakerlaw15_awake.mono _
  | exact handshakerref03_Numbers.mono _ _ _
  | exact sleep_Of.mono _ _ _
  | exact sleep_Right.mono _ _
  | exact LeO.none _
  | refine LeO.ite ?_ ?_
  | refine LeO.bind ?_ (fun _ => ?_)
set_option maxHeartbeats 8000000 in
set_option maxRecDepth 100000 in
theorem handshakerlaw15_SleepCells.calls (k : Nat) (A0 : Option Addr) (c0 : Nat) (l0 : List (S26)) (a1 : Int) (r : Bool) (w : World) (HT : Aside0 (r = true)) (hr0 : Kd.C k26 w A0 l0.length l0) (hc0 : l0.length ≤ c0) (h : handshakerlaw15_SleepCells.f k l0 a1 = some r) :
 Calls Try.prog 6 #[.slice A0 l0.length c0, .int .i64 a1] w fun e w' => e = .returned (.bool r) ∧ Below w.heap.size w w' := by
 have hu26 := Try.underlying26
 have hu62 := Try.underlying62
 have HR0 := Aside0.mk hr0
 have HC0 := Aside0.mk hc0
 clear hr0 hc0
 have HB := Aside0.mk (Below.refl w.heap.size w)
 have H : ((handshakerlaw15_Small.f k l0).bind fun t313 => (if t313 < 0 then (handshakerlaw15_SleepCells.j0 k l0 a1 true) else ((sleep_Right.f k l0).bind fun t314 => (handshakerlaw15_SleepCells.j0 k l0 a1 (!t314))))) = some r := h
 clear h
 have HC3 := Aside0.mk H
 clear H
 go_enter Try.func6, Try.ntmps6
 go_upto_region 1 with (fail)
 repeat (go_quiet (fail); go_upto_region 1 with (fail))
 go_cut [22] (fun v22 wc => ∃ (kq : Nat) (x22_2 : Bool), v22 = .bool x22_2 ∧ Aside0 (handshakerlaw15_SleepCells.j0 kq l0 a1 x22_2 = some r) ∧ Aside0 (kq ≤ k) ∧ Aside0 (Below w.heap.size w wc))
 case first =>
  have H := HC3.out
  clear HC3
  replace H := Option.bind_eq_some_iff.mp H
  obtain ⟨t313, A40, H⟩ := H
  have A4 := Aside0.mk A40
  clear A40
  by_cases c5 : t313 < 0
  · rw [if_pos c5] at H
    have c5b0 : decide (t313 < 0) = true := decide_eq_true c5
    clear c5
    (first | rw [c5b0] | (simp only [i64_w, i32_w]; rw [c5b0]) | skip)
    have H' := Aside0.mk H
    clear H
    go_wp2_with (first | ((first | ((with_reducible refine gate_callee (f := 14) rfl ?_); refine goesL_ (some 16) rfl rfl Try.func14 (by kernel_rfl) rfl #[.slice A0 l0.length c0] rfl mp_ ?_; (with_reducible refine (handshakerlaw15_Small.calls k _ _ l0 t313 _ ?side1 ?side2 A4.out).mono ?_); (case side1 => repeat (first | exact (Kd.C_below HR0.out HB.out) | with_reducible first | refine Kd.C_alloc ?_ _ | refine Kd.C_drewN ?_ _ | refine Kd.C_drew ?_)); (case side2 => exact HC0.out); rintro e w6 ⟨rfl, hb⟩; refine ⟨_, rfl, ?_⟩; replace HB := Aside0.mk (bst_ hb); (try clear hb); (try clear hb2); (try clear hk); (try clear hi)) | (go_at_call 14; (with_reducible refine (handshakerlaw15_Small.calls k _ _ l0 t313 _ ?side1 ?side2 A4.out).mono ?_); (case side1 => repeat (first | exact (Kd.C_below HR0.out HB.out) | with_reducible first | refine Kd.C_alloc ?_ _ | refine Kd.C_drewN ?_ _ | refine Kd.C_drew ?_)); (case side2 => exact HC0.out); rintro e w6 ⟨rfl, hb⟩; replace HB := Aside0.mk (bst_ hb); (try clear hb); (try clear hb2); (try clear hk); (try clear hi)))))
    repeat (go_quiet (first | ((first | ((with_reducible refine gate_callee (f := 14) rfl ?_); refine goesL_ (some 16) rfl rfl Try.func14 (by kernel_rfl) rfl #[.slice A0 l0.length c0] rfl mp_ ?_; (with_reducible refine (handshakerlaw15_Small.calls k _ _ l0 t313 _ ?side1 ?side2 A4.out).mono ?_); (case side1 => repeat (first | exact (Kd.C_below HR0.out HB.out) | with_reducible first | refine Kd.C_alloc ?_ _ | refine Kd.C_drewN ?_ _ | refine Kd.C_drew ?_)); (case side2 => exact HC0.out); rintro e w6 ⟨rfl, hb⟩; refine ⟨_, rfl, ?_⟩; replace HB := Aside0.mk (bst_ hb); (try clear hb); (try clear hb2); (try clear hk); (try clear hi)) | (go_at_call 14; (with_reducible refine (handshakerlaw15_Small.calls k _ _ l0 t313 _ ?side1 ?side2 A4.out).mono ?_); (case side1 => repeat (first | exact (Kd.C_below HR0.out HB.out) | with_reducible first | refine Kd.C_alloc ?_ _ | refine Kd.C_drewN ?_ _ | refine Kd.C_drew ?_)); (case side2 => exact HC0.out); rintro e w6 ⟨rfl, hb⟩; replace HB := Aside0.mk (bst_ hb); (try clear hb); (try clear hb2); (try clear hk); (try clear hi))))); try go_wp2_with (first | ((first | ((with_reducible refine gate_callee (f := 14) rfl ?_); refine goesL_ (some 16) rfl rfl Try.func14 (by kernel_rfl) rfl #[.slice A0 l0.length c0] rfl mp_ ?_; (with_reducible refine (handshakerlaw15_Small.calls k _ _ l0 t313 _ ?side1 ?side2 A4.out).mono ?_); (case side1 => repeat (first | exact (Kd.C_below HR0.out HB.out) | with_reducible first | refine Kd.C_alloc ?_ _ | refine Kd.C_drewN ?_ _ | refine Kd.C_drew ?_)); (case side2 => exact HC0.out); rintro e w6 ⟨rfl, hb⟩; refine ⟨_, rfl, ?_⟩; replace HB := Aside0.mk (bst_ hb); (try clear hb); (try clear hb2); (try clear hk); (try clear hi)) | (go_at_call 14; (with_reducible refine (handshakerlaw15_Small.calls k _ _ l0 t313 _ ?side1 ?side2 A4.out).mono ?_); (case side1 => repeat (first | exact (Kd.C_below HR0.out HB.out) | with_reducible first | refine Kd.C_alloc ?_ _ | refine Kd.C_drewN ?_ _ | refine Kd.C_drew ?_)); (case side2 => exact HC0.out); rintro e w6 ⟨rfl, hb⟩; replace HB := Aside0.mk (bst_ hb); (try clear hb); (try clear hb2); (try clear hk); (try clear hi))))))
    go_meet
    case rel => exact ⟨_, (true), (by first | rfl | (simp; done) | (simp [*]; done)), H', ⟨by first | omega | exact Nat.le_refl _⟩, ⟨bsv_⟩⟩
  · rw [if_neg c5] at H
    have c5b0 : decide (t313 < 0) = false := decide_eq_false c5
    clear c5
    (first | rw [c5b0] | (simp only [i64_w, i32_w]; rw [c5b0]) | skip)
    replace H := Option.bind_eq_some_iff.mp H
    obtain ⟨t314, A70, H⟩ := H
    have A7 := Aside0.mk A70
    clear A70
    have H' := Aside0.mk H
    clear H
    go_wp2_with (first | ((first | ((with_reducible refine gate_callee (f := 14) rfl ?_); refine goesL_ (some 16) rfl rfl Try.func14 (by kernel_rfl) rfl #[.slice A0 l0.length c0] rfl mp_ ?_; (with_reducible refine (handshakerlaw15_Small.calls k _ _ l0 t313 _ ?side1 ?side2 A4.out).mono ?_); (case side1 => repeat (first | exact (Kd.C_below HR0.out HB.out) | with_reducible first | refine Kd.C_alloc ?_ _ | refine Kd.C_drewN ?_ _ | refine Kd.C_drew ?_)); (case side2 => exact HC0.out); rintro e w8 ⟨rfl, hb⟩; refine ⟨_, rfl, ?_⟩; replace HB := Aside0.mk (bst_ hb); (try clear hb); (try clear hb2); (try clear hk); (try clear hi)) | (go_at_call 14; (with_reducible refine (handshakerlaw15_Small.calls k _ _ l0 t313 _ ?side1 ?side2 A4.out).mono ?_); (case side1 => repeat (first | exact (Kd.C_below HR0.out HB.out) | with_reducible first | refine Kd.C_alloc ?_ _ | refine Kd.C_drewN ?_ _ | refine Kd.C_drew ?_)); (case side2 => exact HC0.out); rintro e w8 ⟨rfl, hb⟩; replace HB := Aside0.mk (bst_ hb); (try clear hb); (try clear hb2); (try clear hk); (try clear hi)))) | (go_at_call 26; (with_reducible refine (sleep_Right.calls k _ _ l0 t314 _ ?side1 ?side2 A7.out).mono ?_); (case side1 => repeat (first | exact (Kd.C_below HR0.out HB.out) | with_reducible first | refine Kd.C_alloc ?_ _ | refine Kd.C_drewN ?_ _ | refine Kd.C_drew ?_)); (case side2 => exact HC0.out); rintro e w9 ⟨rfl, hb⟩; replace HB := Aside0.mk (bst_ hb); (try clear hb); (try clear hb2); (try clear hk); (try clear hi)))
    repeat (go_quiet (first | ((first | ((with_reducible refine gate_callee (f := 14) rfl ?_); refine goesL_ (some 16) rfl rfl Try.func14 (by kernel_rfl) rfl #[.slice A0 l0.length c0] rfl mp_ ?_; (with_reducible refine (handshakerlaw15_Small.calls k _ _ l0 t313 _ ?side1 ?side2 A4.out).mono ?_); (case side1 => repeat (first | exact (Kd.C_below HR0.out HB.out) | with_reducible first | refine Kd.C_alloc ?_ _ | refine Kd.C_drewN ?_ _ | refine Kd.C_drew ?_)); (case side2 => exact HC0.out); rintro e w8 ⟨rfl, hb⟩; refine ⟨_, rfl, ?_⟩; replace HB := Aside0.mk (bst_ hb); (try clear hb); (try clear hb2); (try clear hk); (try clear hi)) | (go_at_call 14; (with_reducible refine (handshakerlaw15_Small.calls k _ _ l0 t313 _ ?side1 ?side2 A4.out).mono ?_); (case side1 => repeat (first | exact (Kd.C_below HR0.out HB.out) | with_reducible first | refine Kd.C_alloc ?_ _ | refine Kd.C_drewN ?_ _ | refine Kd.C_drew ?_)); (case side2 => exact HC0.out); rintro e w8 ⟨rfl, hb⟩; replace HB := Aside0.mk (bst_ hb); (try clear hb); (try clear hb2); (try clear hk); (try clear hi)))) | (go_at_call 26; (with_reducible refine (sleep_Right.calls k _ _ l0 t314 _ ?side1 ?side2 A7.out).mono ?_); (case side1 => repeat (first | exact (Kd.C_below HR0.out HB.out) | with_reducible first | refine Kd.C_alloc ?_ _ | refine Kd.C_drewN ?_ _ | refine Kd.C_drew ?_)); (case side2 => exact HC0.out); rintro e w9 ⟨rfl, hb⟩; replace HB := Aside0.mk (bst_ hb); (try clear hb); (try clear hb2); (try clear hk); (try clear hi))); try go_wp2_with (first | ((first | ((with_reducible refine gate_callee (f := 14) rfl ?_); refine goesL_ (some 16) rfl rfl Try.func14 (by kernel_rfl) rfl #[.slice A0 l0.length c0] rfl mp_ ?_; (with_reducible refine (handshakerlaw15_Small.calls k _ _ l0 t313 _ ?side1 ?side2 A4.out).mono ?_); (case side1 => repeat (first | exact (Kd.C_below HR0.out HB.out) | with_reducible first | refine Kd.C_alloc ?_ _ | refine Kd.C_drewN ?_ _ | refine Kd.C_drew ?_)); (case side2 => exact HC0.out); rintro e w8 ⟨rfl, hb⟩; refine ⟨_, rfl, ?_⟩; replace HB := Aside0.mk (bst_ hb); (try clear hb); (try clear hb2); (try clear hk); (try clear hi)) | (go_at_call 14; (with_reducible refine (handshakerlaw15_Small.calls k _ _ l0 t313 _ ?side1 ?side2 A4.out).mono ?_); (case side1 => repeat (first | exact (Kd.C_below HR0.out HB.out) | with_reducible first | refine Kd.C_alloc ?_ _ | refine Kd.C_drewN ?_ _ | refine Kd.C_drew ?_)); (case side2 => exact HC0.out); rintro e w8 ⟨rfl, hb⟩; replace HB := Aside0.mk (bst_ hb); (try clear hb); (try clear hb2); (try clear hk); (try clear hi)))) | (go_at_call 26; (with_reducible refine (sleep_Right.calls k _ _ l0 t314 _ ?side1 ?side2 A7.out).mono ?_); (case side1 => repeat (first | exact (Kd.C_below HR0.out HB.out) | with_reducible first | refine Kd.C_alloc ?_ _ | refine Kd.C_drewN ?_ _ | refine Kd.C_drew ?_)); (case side2 => exact HC0.out); rintro e w9 ⟨rfl, hb⟩; replace HB := Aside0.mk (bst_ hb); (try clear hb); (try clear hb2); (try clear hk); (try clear hi))))
    go_meet
    case rel => exact ⟨_, (!t314), (by first | rfl | (simp; done) | (simp [*]; done)), H', ⟨by first | omega | exact Nat.le_refl _⟩, ⟨bsv_⟩⟩
 case rest =>
  clear HC3
  try clear c1
  try clear p2
  try clear c5
  try clear c5b0
  try clear c6
  obtain ⟨kq, x22_2, rfl, HA, HJ2, HB⟩ := hcut
  cases kq with
  | zero => exact absurd HA.out (by simp [handshakerlaw15_SleepCells.j0])
  | succ kj2 =>
   have H := HA.out
   clear HA
   simp only [handshakerlaw15_SleepCells.j0] at H
   by_cases c10 : x22_2 = true
   · subst c10
     rw [if_pos rfl] at H
     replace H := Option.bind_eq_some_iff.mp H
     obtain ⟨t315, A110, H⟩ := H
     have A11 := Aside0.mk A110
     clear A110
     obtain rfl := Option.some.inj H
     go_wp2_with (first | ((first | ((with_reducible refine gate_callee (f := 15) rfl ?_); refine goesL_ (some 23) rfl rfl Try.func15 (by kernel_rfl) rfl #[] rfl mp_ ?_; (with_reducible refine (handshakerlaw15_awake.calls kj2  t315 _ A11.out).mono ?_); rintro e w12 ⟨rfl, hb⟩; refine ⟨_, rfl, ?_⟩; replace HB := Aside0.mk (bst_ hb); (try clear hb); (try clear hb2); (try clear hk); (try clear hi)) | (go_at_call 15; (with_reducible refine (handshakerlaw15_awake.calls kj2  t315 _ A11.out).mono ?_); rintro e w12 ⟨rfl, hb⟩; replace HB := Aside0.mk (bst_ hb); (try clear hb); (try clear hb2); (try clear hk); (try clear hi)))))
     repeat (go_quiet (first | ((first | ((with_reducible refine gate_callee (f := 15) rfl ?_); refine goesL_ (some 23) rfl rfl Try.func15 (by kernel_rfl) rfl #[] rfl mp_ ?_; (with_reducible refine (handshakerlaw15_awake.calls kj2  t315 _ A11.out).mono ?_); rintro e w12 ⟨rfl, hb⟩; refine ⟨_, rfl, ?_⟩; replace HB := Aside0.mk (bst_ hb); (try clear hb); (try clear hb2); (try clear hk); (try clear hi)) | (go_at_call 15; (with_reducible refine (handshakerlaw15_awake.calls kj2  t315 _ A11.out).mono ?_); rintro e w12 ⟨rfl, hb⟩; replace HB := Aside0.mk (bst_ hb); (try clear hb); (try clear hb2); (try clear hk); (try clear hi))))); try go_wp2_with (first | ((first | ((with_reducible refine gate_callee (f := 15) rfl ?_); refine goesL_ (some 23) rfl rfl Try.func15 (by kernel_rfl) rfl #[] rfl mp_ ?_; (with_reducible refine (handshakerlaw15_awake.calls kj2  t315 _ A11.out).mono ?_); rintro e w12 ⟨rfl, hb⟩; refine ⟨_, rfl, ?_⟩; replace HB := Aside0.mk (bst_ hb); (try clear hb); (try clear hb2); (try clear hk); (try clear hi)) | (go_at_call 15; (with_reducible refine (handshakerlaw15_awake.calls kj2  t315 _ A11.out).mono ?_); rintro e w12 ⟨rfl, hb⟩; replace HB := Aside0.mk (bst_ hb); (try clear hb); (try clear hb2); (try clear hk); (try clear hi))))))
     go_ret
     exact ⟨by first | rfl | (simp [errW_none, errW_some] <;> rfl) | (simp [*, errW_none, errW_some] <;> rfl), bsv_⟩
   · replace c10 := Bool.eq_false_iff.mpr c10
     subst c10
     rw [if_neg (show ¬ (false = true) by decide)] at H
     obtain ⟨y316, hy316⟩ : ∃ y_ : List Int, y_ = (([a1] : List Int)) := ⟨_, rfl⟩
     replace H : ((sleep_Of.f kj2 l0 y316).bind fun t319 => (handshakerlaw15_SleepCells.l0 kj2 l0 a1 t319 ([] : List Int) 0)) = some r := by first | (rw [hy316]; with_reducible exact H) | (have H2_ := (Option.bind_some _ _).symm.trans H; rw [hy316]; with_reducible exact H2_) | (have H2_ := (Option.bind_some _ _).symm.trans H; with_reducible exact H2_) | with_reducible exact H | (rw [hy316]; exact H) | exact H
     have Ny316 := Aside0.mk hy316
     clear hy316
     replace H := Option.bind_eq_some_iff.mp H
     obtain ⟨t319, A130, H⟩ := H
     have A13 := Aside0.mk A130
     clear A130
     have H' := Aside0.mk H
     clear H
     go_wp2_with (first | ((with_reducible refine gate_dst (N := 26) rfl ?_); (try (refine gate_guard (by rfl) ?_; dsimp only)); refine Kd.R_lit (Kd.int .i64) _ 3 ?hg (N := 26) ?hd (xs := ([a1] : List Int)) (inner := [.int .i64 a1]) (ok := fun _ => True) (okp := fun _ => True) ?hr ?hp (fun _ hk => hk) trivial (Below.refl _ _) (Nat.le_refl _) (by simp) ?_; (case hd => rfl); (case hg => rfl); (case hr => first | (go_simp; done) | (go_simp; rfl)); (case hp => exact (Reps.one (show Kd.M (Kd.int .i64) _ _ _ a1 [.int .i64 a1] from rfl) (Reps.none _ _))); intro v317 w14 ho15 hb hg_ hnew_; clear hg_ hnew_; (first | rw [← Ny316.out] at ho15 | (simp only [Int.reduceToNat] at ho15; rw [← Ny316.out] at ho15)); replace HO318 := Aside0.mk (Kd.R_lower ho15 bsz_); replace HB := Aside0.mk (bst_ hb); clear hb ho15; obtain ⟨Ao16, co16, eo16⟩ := Kd.R_slice HO318.out; subst eo16) | ((first | ((with_reducible refine gate_callee (f := 29) rfl ?_); refine goesL_ (some 27) rfl rfl Try.func29 (by kernel_rfl) rfl #[.slice A0 l0.length c0, .slice Ao16 y316.length co16] rfl mp_ ?_; (with_reducible refine (sleep_Of.calls kj2 _ _ l0 _ _ y316 t319 _ ?side1 ?side2 ?side3 ?side4 A13.out).mono ?_); (case side1 => repeat (first | exact (Kd.C_below HR0.out HB.out) | with_reducible first | refine Kd.C_alloc ?_ _ | refine Kd.C_drewN ?_ _ | refine Kd.C_drew ?_)); (case side2 => exact HC0.out); (case side3 => repeat (first | exact (Kd.R_reads' HO318.out).2.2 | with_reducible first | refine Kd.C_alloc ?_ _ | refine Kd.C_drewN ?_ _ | refine Kd.C_drew ?_)); (case side4 => exact (Kd.R_reads' HO318.out).2.1); rintro e w17 ⟨v320, rfl, ho0, hb⟩; refine ⟨_, rfl, ?_⟩; replace HO321 := Aside0.mk (Kd.R_lower (Kd.R_new' ho0 (Kd.R_lt (rq_ HO318))) bsz_); replace HO318 := Aside0.mk (Kd.R_elder' (rq_ HO318) (Kd.R_base ho0) hb); replace HB := Aside0.mk (bst_ hb); (try clear hb); (try clear hb2); (try clear hk); (try clear hi); (try clear ho0)) | (go_at_call 29; (with_reducible refine (sleep_Of.calls kj2 _ _ l0 _ _ y316 t319 _ ?side1 ?side2 ?side3 ?side4 A13.out).mono ?_); (case side1 => repeat (first | exact (Kd.C_below HR0.out HB.out) | with_reducible first | refine Kd.C_alloc ?_ _ | refine Kd.C_drewN ?_ _ | refine Kd.C_drew ?_)); (case side2 => exact HC0.out); (case side3 => repeat (first | exact (Kd.R_reads' HO318.out).2.2 | with_reducible first | refine Kd.C_alloc ?_ _ | refine Kd.C_drewN ?_ _ | refine Kd.C_drew ?_)); (case side4 => exact (Kd.R_reads' HO318.out).2.1); rintro e w17 ⟨v320, rfl, ho0, hb⟩; replace HO321 := Aside0.mk (Kd.R_lower (Kd.R_new' ho0 (Kd.R_lt (rq_ HO318))) bsz_); replace HO318 := Aside0.mk (Kd.R_elder' (rq_ HO318) (Kd.R_base ho0) hb); replace HB := Aside0.mk (bst_ hb); (try clear hb); (try clear hb2); (try clear hk); (try clear hi); (try clear ho0)))))
     repeat (go_quiet (first | ((with_reducible refine gate_dst (N := 26) rfl ?_); (try (refine gate_guard (by rfl) ?_; dsimp only)); refine Kd.R_lit (Kd.int .i64) _ 3 ?hg (N := 26) ?hd (xs := ([a1] : List Int)) (inner := [.int .i64 a1]) (ok := fun _ => True) (okp := fun _ => True) ?hr ?hp (fun _ hk => hk) trivial (Below.refl _ _) (Nat.le_refl _) (by simp) ?_; (case hd => rfl); (case hg => rfl); (case hr => first | (go_simp; done) | (go_simp; rfl)); (case hp => exact (Reps.one (show Kd.M (Kd.int .i64) _ _ _ a1 [.int .i64 a1] from rfl) (Reps.none _ _))); intro v317 w14 ho15 hb hg_ hnew_; clear hg_ hnew_; (first | rw [← Ny316.out] at ho15 | (simp only [Int.reduceToNat] at ho15; rw [← Ny316.out] at ho15)); replace HO318 := Aside0.mk (Kd.R_lower ho15 bsz_); replace HB := Aside0.mk (bst_ hb); clear hb ho15; obtain ⟨Ao16, co16, eo16⟩ := Kd.R_slice HO318.out; subst eo16) | ((first | ((with_reducible refine gate_callee (f := 29) rfl ?_); refine goesL_ (some 27) rfl rfl Try.func29 (by kernel_rfl) rfl #[.slice A0 l0.length c0, .slice Ao16 y316.length co16] rfl mp_ ?_; (with_reducible refine (sleep_Of.calls kj2 _ _ l0 _ _ y316 t319 _ ?side1 ?side2 ?side3 ?side4 A13.out).mono ?_); (case side1 => repeat (first | exact (Kd.C_below HR0.out HB.out) | with_reducible first | refine Kd.C_alloc ?_ _ | refine Kd.C_drewN ?_ _ | refine Kd.C_drew ?_)); (case side2 => exact HC0.out); (case side3 => repeat (first | exact (Kd.R_reads' HO318.out).2.2 | with_reducible first | refine Kd.C_alloc ?_ _ | refine Kd.C_drewN ?_ _ | refine Kd.C_drew ?_)); (case side4 => exact (Kd.R_reads' HO318.out).2.1); rintro e w17 ⟨v320, rfl, ho0, hb⟩; refine ⟨_, rfl, ?_⟩; replace HO321 := Aside0.mk (Kd.R_lower (Kd.R_new' ho0 (Kd.R_lt (rq_ HO318))) bsz_); replace HO318 := Aside0.mk (Kd.R_elder' (rq_ HO318) (Kd.R_base ho0) hb); replace HB := Aside0.mk (bst_ hb); (try clear hb); (try clear hb2); (try clear hk); (try clear hi); (try clear ho0)) | (go_at_call 29; (with_reducible refine (sleep_Of.calls kj2 _ _ l0 _ _ y316 t319 _ ?side1 ?side2 ?side3 ?side4 A13.out).mono ?_); (case side1 => repeat (first | exact (Kd.C_below HR0.out HB.out) | with_reducible first | refine Kd.C_alloc ?_ _ | refine Kd.C_drewN ?_ _ | refine Kd.C_drew ?_)); (case side2 => exact HC0.out); (case side3 => repeat (first | exact (Kd.R_reads' HO318.out).2.2 | with_reducible first | refine Kd.C_alloc ?_ _ | refine Kd.C_drewN ?_ _ | refine Kd.C_drew ?_)); (case side4 => exact (Kd.R_reads' HO318.out).2.1); rintro e w17 ⟨v320, rfl, ho0, hb⟩; replace HO321 := Aside0.mk (Kd.R_lower (Kd.R_new' ho0 (Kd.R_lt (rq_ HO318))) bsz_); replace HO318 := Aside0.mk (Kd.R_elder' (rq_ HO318) (Kd.R_base ho0) hb); replace HB := Aside0.mk (bst_ hb); (try clear hb); (try clear hb2); (try clear hk); (try clear hi); (try clear ho0))))); try go_wp2_with (first | ((with_reducible refine gate_dst (N := 26) rfl ?_); (try (refine gate_guard (by rfl) ?_; dsimp only)); refine Kd.R_lit (Kd.int .i64) _ 3 ?hg (N := 26) ?hd (xs := ([a1] : List Int)) (inner := [.int .i64 a1]) (ok := fun _ => True) (okp := fun _ => True) ?hr ?hp (fun _ hk => hk) trivial (Below.refl _ _) (Nat.le_refl _) (by simp) ?_; (case hd => rfl); (case hg => rfl); (case hr => first | (go_simp; done) | (go_simp; rfl)); (case hp => exact (Reps.one (show Kd.M (Kd.int .i64) _ _ _ a1 [.int .i64 a1] from rfl) (Reps.none _ _))); intro v317 w14 ho15 hb hg_ hnew_; clear hg_ hnew_; (first | rw [← Ny316.out] at ho15 | (simp only [Int.reduceToNat] at ho15; rw [← Ny316.out] at ho15)); replace HO318 := Aside0.mk (Kd.R_lower ho15 bsz_); replace HB := Aside0.mk (bst_ hb); clear hb ho15; obtain ⟨Ao16, co16, eo16⟩ := Kd.R_slice HO318.out; subst eo16) | ((first | ((with_reducible refine gate_callee (f := 29) rfl ?_); refine goesL_ (some 27) rfl rfl Try.func29 (by kernel_rfl) rfl #[.slice A0 l0.length c0, .slice Ao16 y316.length co16] rfl mp_ ?_; (with_reducible refine (sleep_Of.calls kj2 _ _ l0 _ _ y316 t319 _ ?side1 ?side2 ?side3 ?side4 A13.out).mono ?_); (case side1 => repeat (first | exact (Kd.C_below HR0.out HB.out) | with_reducible first | refine Kd.C_alloc ?_ _ | refine Kd.C_drewN ?_ _ | refine Kd.C_drew ?_)); (case side2 => exact HC0.out); (case side3 => repeat (first | exact (Kd.R_reads' HO318.out).2.2 | with_reducible first | refine Kd.C_alloc ?_ _ | refine Kd.C_drewN ?_ _ | refine Kd.C_drew ?_)); (case side4 => exact (Kd.R_reads' HO318.out).2.1); rintro e w17 ⟨v320, rfl, ho0, hb⟩; refine ⟨_, rfl, ?_⟩; replace HO321 := Aside0.mk (Kd.R_lower (Kd.R_new' ho0 (Kd.R_lt (rq_ HO318))) bsz_); replace HO318 := Aside0.mk (Kd.R_elder' (rq_ HO318) (Kd.R_base ho0) hb); replace HB := Aside0.mk (bst_ hb); (try clear hb); (try clear hb2); (try clear hk); (try clear hi); (try clear ho0)) | (go_at_call 29; (with_reducible refine (sleep_Of.calls kj2 _ _ l0 _ _ y316 t319 _ ?side1 ?side2 ?side3 ?side4 A13.out).mono ?_); (case side1 => repeat (first | exact (Kd.C_below HR0.out HB.out) | with_reducible first | refine Kd.C_alloc ?_ _ | refine Kd.C_drewN ?_ _ | refine Kd.C_drew ?_)); (case side2 => exact HC0.out); (case side3 => repeat (first | exact (Kd.R_reads' HO318.out).2.2 | with_reducible first | refine Kd.C_alloc ?_ _ | refine Kd.C_drewN ?_ _ | refine Kd.C_drew ?_)); (case side4 => exact (Kd.R_reads' HO318.out).2.1); rintro e w17 ⟨v320, rfl, ho0, hb⟩; replace HO321 := Aside0.mk (Kd.R_lower (Kd.R_new' ho0 (Kd.R_lt (rq_ HO318))) bsz_); replace HO318 := Aside0.mk (Kd.R_elder' (rq_ HO318) (Kd.R_base ho0) hb); replace HB := Aside0.mk (bst_ hb); (try clear hb); (try clear hb2); (try clear hk); (try clear hi); (try clear ho0))))))
     go_loopg [6, 28] kj2 (fun kq v6 v28 w' => ∃ (x6_2 : List Int) (x28_2 : Int), v28 = .int .i64 x28_2 ∧ Aside0 (handshakerlaw15_SleepCells.l0 kq l0 a1 t319 x6_2 x28_2 = some r) ∧ Aside0 (kq ≤ kj2) ∧ Aside0 (Kd.R (Kd.int .i64) 3 w' w.heap.size (fun k_ => some k_ ≠ (v6 : Value).ownBlock) v320 t319) ∧ Aside0 (Kd.R (Kd.int .i64) 3 w' w.heap.size (fun k_ => some k_ ≠ (v320 : Value).ownBlock) v6 x6_2) ∧ Aside0 (Below w.heap.size w w'))
     case atStart => exact ⟨(([] : List Int)), (0), (by first | rfl | (simp; done) | (simp [*]; done)), H', ⟨Nat.le_refl _⟩, ⟨Kd.R_mono (rq_ HO321) (fun _ hk => (by simp [Value.ownBlock]))⟩, ⟨by first | exact Kd.R_nil _ _ _ _ _ | exact Kd.N_nil _ _ _ _ _ | exact Kd.V_nil _ _ _ _ _ | exact Kd.Q_nil _ _ _ _ _ | exact Kd.S_nil _ _ _ _ _⟩, ⟨bsv_⟩⟩
     case round =>
      clear H'
      try clear c1
      try clear c2
      try clear p2
      try clear c5
      try clear c5b0
      try clear c6
      try clear c10
      try clear c14
      try clear c15
      try clear p2
      obtain ⟨x6_2, x28_2, rfl, HA, HK2, HO_5, HO_6, HB⟩ := hrel
      cases gk with
      | zero => exact absurd HA.out (by simp [handshakerlaw15_SleepCells.l0])
      | succ k2 =>
       have H := HA.out
       clear HA
       simp only [handshakerlaw15_SleepCells.l0] at H
       by_cases c18 : x28_2 < 64
       · rw [if_pos c18] at H
         have c18b0 : decide (x28_2 < 64) = true := decide_eq_true c18
         clear c18
         by_cases c19 : x6_2.length < 17592186044416
         · rw [if_pos c19] at H
           have LMc19 := Aside0.mk c19
           clear c19
           obtain ⟨y322, hy322⟩ : ∃ y_ : List Int, y_ = (x6_2 ++ [x28_2]) := ⟨_, rfl⟩
           replace H : (handshakerlaw15_SleepCells.l0 k2 l0 a1 t319 y322 (wrap64 (x28_2 + 1))) = some r := by first | (rw [hy322]; with_reducible exact H) | (have H2_ := (Option.bind_some _ _).symm.trans H; rw [hy322]; with_reducible exact H2_) | (have H2_ := (Option.bind_some _ _).symm.trans H; with_reducible exact H2_) | with_reducible exact H | (rw [hy322]; exact H) | exact H
           have Ny322 := Aside0.mk hy322
           clear hy322
           have H' := Aside0.mk H
           clear H
           go_wp2_with (first | ((with_reducible refine gate_builtin (b := .append) (xs := #[.tmp 31, .tmp 33]) rfl ?_); (try (refine gate_guard (by rfl) ?_; dsimp only)); at_builtin; refine Kd.R_append (Kd.int .i64) (w0 := w) w.heap.size rfl (.tmp 31) (.tmp 33) 27 3 (.int .i64 0) 8 rfl Try.underlying27 info3 rfl (by decide) (by omega) u6 x6_2 x28_2 [.int .i64 x28_2] (fun k_ => some k_ ≠ (v320 : Value).ownBlock) (fun _ => False) rfl rfl ?aP (fun _ hk => hk.elim) ?aF ?aO ?aB ?aS ?aL ?_; (case aP => exact rfl); (case aB => exact bsv_); (case aF => exact (fun k_ hk => Kd.fresh' (Kd.R_lt (rq_ HO_5)) k_ hk)); (case aO => exact (rq_ HO_6)); (case aS => exact bsz_); (case aL => have := LMc19.out; omega); intro v323 w20 ho hb hg hat; rw [← Ny322.out] at ho; replace HO_5 := Aside0.mk (Kd.R_after (ok := (fun _ => True)) (Kd.R_mono (rq_ HO_5) (fun _ hk => ⟨trivial, hk⟩)) hg hat); replace HB := Aside0.mk (hb); replace HO324 := Aside0.mk (ho); clear HO_6; clear ho hb hg hat))
           repeat (go_quiet (first | ((with_reducible refine gate_builtin (b := .append) (xs := #[.tmp 31, .tmp 33]) rfl ?_); (try (refine gate_guard (by rfl) ?_; dsimp only)); at_builtin; refine Kd.R_append (Kd.int .i64) (w0 := w) w.heap.size rfl (.tmp 31) (.tmp 33) 27 3 (.int .i64 0) 8 rfl Try.underlying27 info3 rfl (by decide) (by omega) u6 x6_2 x28_2 [.int .i64 x28_2] (fun k_ => some k_ ≠ (v320 : Value).ownBlock) (fun _ => False) rfl rfl ?aP (fun _ hk => hk.elim) ?aF ?aO ?aB ?aS ?aL ?_; (case aP => exact rfl); (case aB => exact bsv_); (case aF => exact (fun k_ hk => Kd.fresh' (Kd.R_lt (rq_ HO_5)) k_ hk)); (case aO => exact (rq_ HO_6)); (case aS => exact bsz_); (case aL => have := LMc19.out; omega); intro v323 w20 ho hb hg hat; rw [← Ny322.out] at ho; replace HO_5 := Aside0.mk (Kd.R_after (ok := (fun _ => True)) (Kd.R_mono (rq_ HO_5) (fun _ hk => ⟨trivial, hk⟩)) hg hat); replace HB := Aside0.mk (hb); replace HO324 := Aside0.mk (ho); clear HO_6; clear ho hb hg hat)); try go_wp2_with (first | ((with_reducible refine gate_builtin (b := .append) (xs := #[.tmp 31, .tmp 33]) rfl ?_); (try (refine gate_guard (by rfl) ?_; dsimp only)); at_builtin; refine Kd.R_append (Kd.int .i64) (w0 := w) w.heap.size rfl (.tmp 31) (.tmp 33) 27 3 (.int .i64 0) 8 rfl Try.underlying27 info3 rfl (by decide) (by omega) u6 x6_2 x28_2 [.int .i64 x28_2] (fun k_ => some k_ ≠ (v320 : Value).ownBlock) (fun _ => False) rfl rfl ?aP (fun _ hk => hk.elim) ?aF ?aO ?aB ?aS ?aL ?_; (case aP => exact rfl); (case aB => exact bsv_); (case aF => exact (fun k_ hk => Kd.fresh' (Kd.R_lt (rq_ HO_5)) k_ hk)); (case aO => exact (rq_ HO_6)); (case aS => exact bsz_); (case aL => have := LMc19.out; omega); intro v323 w20 ho hb hg hat; rw [← Ny322.out] at ho; replace HO_5 := Aside0.mk (Kd.R_after (ok := (fun _ => True)) (Kd.R_mono (rq_ HO_5) (fun _ hk => ⟨trivial, hk⟩)) hg hat); replace HB := Aside0.mk (hb); replace HO324 := Aside0.mk (ho); clear HO_6; clear ho hb hg hat)))
           go_roundg k2
           case measure => have := HJ2.out; have := HK2.out; omega
           case rel => exact ⟨(y322), (wrap64 (x28_2 + 1)), (by first | rfl | (simp; done) | (simp [*]; done)), H', ⟨by have := HJ2.out; have := HK2.out; omega⟩, ⟨Kd.R_mono (rq_ HO_5) (fun _ hk => hk.2)⟩, ⟨rq_ HO324⟩, ⟨bsv_⟩⟩
         · rw [if_neg c19] at H
           exact absurd H (by simp)
       · rw [if_neg c18] at H
         have c18b0 : decide (x28_2 < 64) = false := decide_eq_false c18
         clear c18
         have H' := Aside0.mk H
         clear H
         go_wp2
         repeat (go_quiet (fail); try go_wp2)
         go_loopg [7, 9, 38] k2 (fun kq v7 v9 v38 w' => ∃ (x7_3 : List Int) (x9_3 : Int) (x38_3 : Int), v9 = .int .i64 x9_3 ∧ v38 = .int .i64 x38_3 ∧ Aside0 (handshakerlaw15_SleepCells.l1 kq l0 a1 t319 x6_2 x7_3 x9_3 l0 (l0.length : Int) x38_3 = some r) ∧ Aside0 (kq ≤ k2) ∧ Aside0 (Kd.R (Kd.int .i64) 3 w' w.heap.size (fun k_ => some k_ ≠ (u6 : Value).ownBlock ∧ some k_ ≠ (v7 : Value).ownBlock) v320 t319) ∧ Aside0 (Kd.R (Kd.int .i64) 3 w' w.heap.size (fun k_ => some k_ ≠ (v320 : Value).ownBlock ∧ some k_ ≠ (v7 : Value).ownBlock) u6 x6_2) ∧ Aside0 (Kd.R (Kd.int .i64) 3 w' w.heap.size (fun k_ => some k_ ≠ (v320 : Value).ownBlock ∧ some k_ ≠ (u6 : Value).ownBlock) v7 x7_3) ∧ Aside0 (Below w.heap.size w w'))
         case atStart => exact ⟨(([] : List Int)), (0), (0), (by first | rfl | (simp; done) | (simp [*]; done)), (by first | rfl | (simp; done) | (simp [*]; done)), H', ⟨Nat.le_refl _⟩, ⟨Kd.R_mono (rq_ HO_5) (fun _ hk => ⟨hk, (by simp [Value.ownBlock])⟩)⟩, ⟨Kd.R_mono (rq_ HO_6) (fun _ hk => ⟨hk, (by simp [Value.ownBlock])⟩)⟩, ⟨by first | exact Kd.R_nil _ _ _ _ _ | exact Kd.N_nil _ _ _ _ _ | exact Kd.V_nil _ _ _ _ _ | exact Kd.Q_nil _ _ _ _ _ | exact Kd.S_nil _ _ _ _ _⟩, ⟨bsv_⟩⟩
         case round =>
          clear H'
          try clear c1
          try clear c2
          try clear p2
          try clear c5
          try clear c5b0
          try clear c6
          try clear p6
          try clear c10
          try clear c14
          try clear c15
          try clear c18
          try clear c18b0
          try clear c19
          try clear p2
          obtain ⟨x7_3, x9_3, x38_3, rfl, rfl, HA, HK3, HO_5, HO_6, HO_7, HB⟩ := hrel
          cases gk with
          | zero => exact absurd HA.out (by simp [handshakerlaw15_SleepCells.l1])
          | succ k3 =>
           have H := HA.out
           clear HA
           simp only [handshakerlaw15_SleepCells.l1] at H
           by_cases c21 : x38_3 < (l0.length : Int)
           · rw [if_pos c21] at H
             have c21b0 : decide (x38_3 < (l0.length : Int)) = true := decide_eq_true c21
             clear c21
             by_cases c22 : 0 ≤ x38_3
             · rw [if_pos c22] at H
               have c22b0 : decide (0 ≤ x38_3) = true := decide_eq_true c22
               clear c22
               by_cases c23 : x38_3 < (l0.length : Int)
               · rw [if_pos c23] at H
                 have c23b0 : decide (x38_3 < (l0.length : Int)) = true := decide_eq_true c23
                 clear c23
                 have H' := Aside0.mk H
                 clear H
                 have p325 : 0 ≤ (x38_3 : Int) := oda_
                 have q325 : x38_3 < (l0.length : Int) := oda_
                 obtain ⟨ad325, A325_3, c325_3, A325_4, c325_4, e325, hx325_0, hx325_1, hx325_2, hx325_3, hx325_4, hl325_3, hi325_3, hl325_4, hi325_4⟩ := at_T26 HR0.out x38_3 p325 q325
                 cases e325
                 replace hx325_0 := (HB.out.cell (World.block_lt_of_cell? w _ hx325_0)).trans hx325_0
                 replace hx325_1 := (HB.out.cell (World.block_lt_of_cell? w _ hx325_1)).trans hx325_1
                 replace hx325_2 := (HB.out.cell (World.block_lt_of_cell? w _ hx325_2)).trans hx325_2
                 replace hx325_3 := (HB.out.cell (World.block_lt_of_cell? w _ hx325_3)).trans hx325_3
                 replace hx325_4 := (HB.out.cell (World.block_lt_of_cell? w _ hx325_4)).trans hx325_4
                 have HR325_3 := Aside0.mk hi325_3
                 have HC325_3 := Aside0.mk hl325_3
                 clear hi325_3 hl325_3
                 have HR325_4 := Aside0.mk hi325_4
                 have HC325_4 := Aside0.mk hl325_4
                 clear hi325_4 hl325_4
                 replace p325 := eq_true p325
                 replace q325 := eq_true q325
                 go_wp2_with (first | ((with_reducible refine gate_dst (N := 11) rfl ?_); (try (refine gate_guard (by rfl) ?_; dsimp only)); refine box_event ?hg (N := 11) ?hd (cs := #[.int .i64 0, .int .i64 0, .int .i64 0, .slice none 0 0, .slice none 0 0]) (t := 26) ?hr ?_; (case hd => rfl); (case hg => rfl); (case hr => first | (go_simp; done) | (go_simp; rfl)); intro gb326 hg w24 hbox hb; replace HO_5 := rb_ HO_5 hb; replace HO_6 := rb_ HO_6 hb; replace HO_7 := rb_ HO_7 hb; replace BK326 := Aside0.mk (hbox); replace GW326 := Aside0.mk ((by rw [hg]; exact bsz_ : w.heap.size ≤ gb326)); replace HB := Aside0.mk (bst_ hb); replace GE326 := GW326; clear hb hbox hg; have hcz25_0 : w24.cell? ⟨gb326, 0, none⟩ = some (.int .i64 0) := (blk_cell BK326.out 0).trans rfl; have hcz25_1 : w24.cell? ⟨gb326, 1, none⟩ = some (.int .i64 0) := (blk_cell BK326.out 1).trans rfl; have hcz25_2 : w24.cell? ⟨gb326, 2, none⟩ = some (.int .i64 0) := (blk_cell BK326.out 2).trans rfl; have hcz25_3 : w24.cell? ⟨gb326, 3, none⟩ = some (.slice none 0 0) := (blk_cell BK326.out 3).trans rfl; have hcz25_4 : w24.cell? ⟨gb326, 4, none⟩ = some (.slice none 0 0) := (blk_cell BK326.out 4).trans rfl; have hfz25_0 := blk_frozen BK326.out 0; have hfz25_1 := blk_frozen BK326.out 1; have hfz25_2 := blk_frozen BK326.out 2; have hfz25_3 := blk_frozen BK326.out 3; have hfz25_4 := blk_frozen BK326.out 4))
                 repeat (go_quiet (first | ((with_reducible refine gate_dst (N := 11) rfl ?_); (try (refine gate_guard (by rfl) ?_; dsimp only)); refine box_event ?hg (N := 11) ?hd (cs := #[.int .i64 0, .int .i64 0, .int .i64 0, .slice none 0 0, .slice none 0 0]) (t := 26) ?hr ?_; (case hd => rfl); (case hg => rfl); (case hr => first | (go_simp; done) | (go_simp; rfl)); intro gb326 hg w24 hbox hb; replace HO_5 := rb_ HO_5 hb; replace HO_6 := rb_ HO_6 hb; replace HO_7 := rb_ HO_7 hb; replace BK326 := Aside0.mk (hbox); replace GW326 := Aside0.mk ((by rw [hg]; exact bsz_ : w.heap.size ≤ gb326)); replace HB := Aside0.mk (bst_ hb); replace GE326 := GW326; clear hb hbox hg; have hcz25_0 : w24.cell? ⟨gb326, 0, none⟩ = some (.int .i64 0) := (blk_cell BK326.out 0).trans rfl; have hcz25_1 : w24.cell? ⟨gb326, 1, none⟩ = some (.int .i64 0) := (blk_cell BK326.out 1).trans rfl; have hcz25_2 : w24.cell? ⟨gb326, 2, none⟩ = some (.int .i64 0) := (blk_cell BK326.out 2).trans rfl; have hcz25_3 : w24.cell? ⟨gb326, 3, none⟩ = some (.slice none 0 0) := (blk_cell BK326.out 3).trans rfl; have hcz25_4 : w24.cell? ⟨gb326, 4, none⟩ = some (.slice none 0 0) := (blk_cell BK326.out 4).trans rfl; have hfz25_0 := blk_frozen BK326.out 0; have hfz25_1 := blk_frozen BK326.out 1; have hfz25_2 := blk_frozen BK326.out 2; have hfz25_3 := blk_frozen BK326.out 3; have hfz25_4 := blk_frozen BK326.out 4)); try go_wp2_with (first | ((with_reducible refine gate_dst (N := 11) rfl ?_); (try (refine gate_guard (by rfl) ?_; dsimp only)); refine box_event ?hg (N := 11) ?hd (cs := #[.int .i64 0, .int .i64 0, .int .i64 0, .slice none 0 0, .slice none 0 0]) (t := 26) ?hr ?_; (case hd => rfl); (case hg => rfl); (case hr => first | (go_simp; done) | (go_simp; rfl)); intro gb326 hg w24 hbox hb; replace HO_5 := rb_ HO_5 hb; replace HO_6 := rb_ HO_6 hb; replace HO_7 := rb_ HO_7 hb; replace BK326 := Aside0.mk (hbox); replace GW326 := Aside0.mk ((by rw [hg]; exact bsz_ : w.heap.size ≤ gb326)); replace HB := Aside0.mk (bst_ hb); replace GE326 := GW326; clear hb hbox hg; have hcz25_0 : w24.cell? ⟨gb326, 0, none⟩ = some (.int .i64 0) := (blk_cell BK326.out 0).trans rfl; have hcz25_1 : w24.cell? ⟨gb326, 1, none⟩ = some (.int .i64 0) := (blk_cell BK326.out 1).trans rfl; have hcz25_2 : w24.cell? ⟨gb326, 2, none⟩ = some (.int .i64 0) := (blk_cell BK326.out 2).trans rfl; have hcz25_3 : w24.cell? ⟨gb326, 3, none⟩ = some (.slice none 0 0) := (blk_cell BK326.out 3).trans rfl; have hcz25_4 : w24.cell? ⟨gb326, 4, none⟩ = some (.slice none 0 0) := (blk_cell BK326.out 4).trans rfl; have hfz25_0 := blk_frozen BK326.out 0; have hfz25_1 := blk_frozen BK326.out 1; have hfz25_2 := blk_frozen BK326.out 2; have hfz25_3 := blk_frozen BK326.out 3; have hfz25_4 := blk_frozen BK326.out 4)))
                 go_loopg [12, 45] k3 (fun kq v12 v45 w' => ∃ (x12_4 : Bool) (x45_4 : Int), v12 = .bool x12_4 ∧ v45 = .int .i64 x45_4 ∧ Aside0 (handshakerlaw15_SleepCells.l2 kq l0 a1 t319 x6_2 x7_3 x9_3 x12_4 l0 (l0.length : Int) x38_3 ((rd_T26 l0 x38_3).f3) (((rd_T26 l0 x38_3).f3).length : Int) x45_4 ((rd_T26 l0 x38_3).f0) ((rd_T26 l0 x38_3).f1) ((rd_T26 l0 x38_3).f2) ((rd_T26 l0 x38_3).f3) ((rd_T26 l0 x38_3).f4) = some r) ∧ Aside0 (kq ≤ k3) ∧ Aside0 (Kd.R (Kd.int .i64) 3 w' w.heap.size (fun k_ => some k_ ≠ (u6 : Value).ownBlock ∧ some k_ ≠ (u7 : Value).ownBlock) v320 t319) ∧ Aside0 (Kd.R (Kd.int .i64) 3 w' w.heap.size (fun k_ => some k_ ≠ (v320 : Value).ownBlock ∧ some k_ ≠ (u7 : Value).ownBlock) u6 x6_2) ∧ Aside0 (Kd.R (Kd.int .i64) 3 w' w.heap.size (fun k_ => some k_ ≠ (v320 : Value).ownBlock ∧ some k_ ≠ (u6 : Value).ownBlock) u7 x7_3) ∧ Aside0 (w'.heap[gb326]? = some (.cells #[.int .i64 ((rd_T26 l0 x38_3).f0), .int .i64 ((rd_T26 l0 x38_3).f1), .int .i64 ((rd_T26 l0 x38_3).f2), (.slice A325_3 ((rd_T26 l0 x38_3).f3).length c325_3), (.slice A325_4 ((rd_T26 l0 x38_3).f4).length c325_4)] 26 (0, 0))) ∧ Aside0 (Below w.heap.size w w'))
                 case atStart => exact ⟨(false), (0), (by first | rfl | (simp; done) | (simp [*]; done)), (by first | rfl | (simp; done) | (simp [*]; done)), H', ⟨Nat.le_refl _⟩, ⟨by (with_reducible repeat (first | apply Kd.R_alloc | apply Kd.R_drewN | apply Kd.R_drew)); exact Kd.R_mono (Kd.R_far (p := ⟨gb326, 4, none⟩) (Kd.R_far (p := ⟨gb326, 3, none⟩) (Kd.R_far (p := ⟨gb326, 2, none⟩) (Kd.R_far (p := ⟨gb326, 1, none⟩) (Kd.R_far (p := ⟨gb326, 0, none⟩) (Kd.R_types HO_5.out BK326.out (by decide)) (fun _ hk => hk.2) (.int .i64 ((rd_T26 l0 x38_3).f0))) (fun _ hk => hk.2) (.int .i64 ((rd_T26 l0 x38_3).f1))) (fun _ hk => hk.2) (.int .i64 ((rd_T26 l0 x38_3).f2))) (fun _ hk => hk.2) (.slice A325_3 ((rd_T26 l0 x38_3).f3).length c325_3)) (fun _ hk => hk.2) (.slice A325_4 ((rd_T26 l0 x38_3).f4).length c325_4)) (fun _ hk => ⟨hk.1.1, hk.1.2⟩)⟩, ⟨by (with_reducible repeat (first | apply Kd.R_alloc | apply Kd.R_drewN | apply Kd.R_drew)); exact Kd.R_mono (Kd.R_far (p := ⟨gb326, 4, none⟩) (Kd.R_far (p := ⟨gb326, 3, none⟩) (Kd.R_far (p := ⟨gb326, 2, none⟩) (Kd.R_far (p := ⟨gb326, 1, none⟩) (Kd.R_far (p := ⟨gb326, 0, none⟩) (Kd.R_types HO_6.out BK326.out (by decide)) (fun _ hk => hk.2) (.int .i64 ((rd_T26 l0 x38_3).f0))) (fun _ hk => hk.2) (.int .i64 ((rd_T26 l0 x38_3).f1))) (fun _ hk => hk.2) (.int .i64 ((rd_T26 l0 x38_3).f2))) (fun _ hk => hk.2) (.slice A325_3 ((rd_T26 l0 x38_3).f3).length c325_3)) (fun _ hk => hk.2) (.slice A325_4 ((rd_T26 l0 x38_3).f4).length c325_4)) (fun _ hk => ⟨hk.1.1, hk.1.2⟩)⟩, ⟨by (with_reducible repeat (first | apply Kd.R_alloc | apply Kd.R_drewN | apply Kd.R_drew)); exact Kd.R_mono (Kd.R_far (p := ⟨gb326, 4, none⟩) (Kd.R_far (p := ⟨gb326, 3, none⟩) (Kd.R_far (p := ⟨gb326, 2, none⟩) (Kd.R_far (p := ⟨gb326, 1, none⟩) (Kd.R_far (p := ⟨gb326, 0, none⟩) (Kd.R_types HO_7.out BK326.out (by decide)) (fun _ hk => hk.2) (.int .i64 ((rd_T26 l0 x38_3).f0))) (fun _ hk => hk.2) (.int .i64 ((rd_T26 l0 x38_3).f1))) (fun _ hk => hk.2) (.int .i64 ((rd_T26 l0 x38_3).f2))) (fun _ hk => hk.2) (.slice A325_3 ((rd_T26 l0 x38_3).f3).length c325_3)) (fun _ hk => hk.2) (.slice A325_4 ((rd_T26 l0 x38_3).f4).length c325_4)) (fun _ hk => ⟨hk.1.1, hk.1.2⟩)⟩, ⟨by (with_reducible repeat (first | refine blk_drewN ?_ _ | refine blk_drew ?_ | refine blk_alloc ?_ _)); refine blk_put (cs := #[.int .i64 ((rd_T26 l0 x38_3).f0), .int .i64 ((rd_T26 l0 x38_3).f1), .int .i64 ((rd_T26 l0 x38_3).f2), .slice A325_3 ((rd_T26 l0 x38_3).f3).length c325_3, .slice none 0 0]) ?_ 4 _ rfl; (with_reducible repeat (first | refine blk_drewN ?_ _ | refine blk_drew ?_ | refine blk_alloc ?_ _)); refine blk_put (cs := #[.int .i64 ((rd_T26 l0 x38_3).f0), .int .i64 ((rd_T26 l0 x38_3).f1), .int .i64 ((rd_T26 l0 x38_3).f2), .slice none 0 0, .slice none 0 0]) ?_ 3 _ rfl; (with_reducible repeat (first | refine blk_drewN ?_ _ | refine blk_drew ?_ | refine blk_alloc ?_ _)); refine blk_put (cs := #[.int .i64 ((rd_T26 l0 x38_3).f0), .int .i64 ((rd_T26 l0 x38_3).f1), .int .i64 0, .slice none 0 0, .slice none 0 0]) ?_ 2 _ rfl; (with_reducible repeat (first | refine blk_drewN ?_ _ | refine blk_drew ?_ | refine blk_alloc ?_ _)); refine blk_put (cs := #[.int .i64 ((rd_T26 l0 x38_3).f0), .int .i64 0, .int .i64 0, .slice none 0 0, .slice none 0 0]) ?_ 1 _ rfl; (with_reducible repeat (first | refine blk_drewN ?_ _ | refine blk_drew ?_ | refine blk_alloc ?_ _)); refine blk_put (cs := #[.int .i64 0, .int .i64 0, .int .i64 0, .slice none 0 0, .slice none 0 0]) ?_ 0 _ rfl; (with_reducible repeat (first | refine blk_drewN ?_ _ | refine blk_drew ?_ | refine blk_alloc ?_ _)); exact BK326.out⟩, ⟨bsw_⟩⟩
                 case round =>
                  clear H'
                  try clear c1
                  try clear c2
                  try clear p2
                  try clear c3
                  try clear p3
                  try clear q3
                  try clear hx3
                  try clear c5
                  try clear c5b0
                  try clear c6
                  try clear p6
                  try clear c10
                  try clear c14
                  try clear c15
                  try clear c18
                  try clear c18b0
                  try clear c19
                  try clear c21
                  try clear c21b0
                  try clear c22
                  try clear c22b0
                  try clear c23
                  try clear c23b0
                  try clear hcz25_0
                  try clear hcz25_1
                  try clear hcz25_2
                  try clear hcz25_3
                  try clear hcz25_4
                  try clear hfz25_0
                  try clear hfz25_1
                  try clear hfz25_2
                  try clear hfz25_3
                  try clear hfz25_4
                  try clear hx325_0
                  try clear hx325_1
                  try clear hx325_2
                  try clear hx325_3
                  try clear hx325_4
                  try clear p2
                  try clear p325
                  try clear p6
                  try clear q325
                  obtain ⟨x12_4, x45_4, rfl, rfl, HA, HK4, HO_5, HO_6, HO_7, BK326, HB⟩ := hrel
                  cases gk with
                  | zero => exact absurd HA.out (by simp [handshakerlaw15_SleepCells.l2])
                  | succ k4 =>
                   have H := HA.out
                   clear HA
                   simp only [handshakerlaw15_SleepCells.l2] at H
                   by_cases c26 : x45_4 < (((rd_T26 l0 x38_3).f3).length : Int)
                   · rw [if_pos c26] at H
                     have c26b0 : decide (x45_4 < (((rd_T26 l0 x38_3).f3).length : Int)) = true := decide_eq_true c26
                     clear c26
                     by_cases c27 : 0 ≤ x45_4
                     · rw [if_pos c27] at H
                       have c27b0 : decide (0 ≤ x45_4) = true := decide_eq_true c27
                       clear c27
                       by_cases c28 : x45_4 < (((rd_T26 l0 x38_3).f3).length : Int)
                       · rw [if_pos c28] at H
                         have c28b0 : decide (x45_4 < (((rd_T26 l0 x38_3).f3).length : Int)) = true := decide_eq_true c28
                         clear c28
                         by_cases c29 : x12_4 = true
                         · subst c29
                           rw [if_pos rfl] at H
                           have H' := Aside0.mk H
                           clear H
                           have p327 : 0 ≤ (x45_4 : Int) := oda_
                           have q327 : x45_4 < (((rd_T26 l0 x38_3).f3).length : Int) := oda_
                           obtain ⟨ad327, e327, hx327_0, hx327_1⟩ := at_T62 HR325_3.out x45_4 p327 q327
                           cases e327
                           replace hx327_0 := (HB.out.cell (World.block_lt_of_cell? w _ hx327_0)).trans hx327_0
                           replace hx327_1 := (HB.out.cell (World.block_lt_of_cell? w _ hx327_1)).trans hx327_1
                           replace p327 := eq_true p327
                           replace q327 := eq_true q327
                           go_wp2_with (first | ((with_reducible refine gate_dst (N := 14) rfl ?_); (try (refine gate_guard (by rfl) ?_; dsimp only)); refine box_event ?hg (N := 14) ?hd (cs := #[.int .i64 0, .int .i64 0]) (t := 62) ?hr ?_; (case hd => rfl); (case hg => rfl); (case hr => first | (go_simp; done) | (go_simp; rfl)); intro gb328 hg w30 hbox hb; replace HO_5 := rb_ HO_5 hb; replace HO_6 := rb_ HO_6 hb; replace HO_7 := rb_ HO_7 hb; replace BK328 := Aside0.mk (hbox); replace GW328 := Aside0.mk ((by rw [hg]; exact (below_size bsw_) : w.heap.size ≤ gb328)); replace HB := Aside0.mk (below_step bsw_ hb); replace GE328 := GW328; replace NB326_328 := Aside0.mk ((by rw [hg]; exact Nat.ne_of_lt (blk_lt (g := gb326) (o := .cells #[.int .i64 ((rd_T26 l0 x38_3).f0), .int .i64 ((rd_T26 l0 x38_3).f1), .int .i64 ((rd_T26 l0 x38_3).f2), .slice (some ad327) ((rd_T26 l0 x38_3).f3).length c325_3, .slice A325_4 ((rd_T26 l0 x38_3).f4).length c325_4] 26 (0, 0)) (bq_ BK326)) : gb326 ≠ gb328)); replace NB328_326 := Aside0.mk ((by rw [hg]; exact Nat.ne_of_gt (blk_lt (g := gb326) (o := .cells #[.int .i64 ((rd_T26 l0 x38_3).f0), .int .i64 ((rd_T26 l0 x38_3).f1), .int .i64 ((rd_T26 l0 x38_3).f2), .slice (some ad327) ((rd_T26 l0 x38_3).f3).length c325_3, .slice A325_4 ((rd_T26 l0 x38_3).f4).length c325_4] 26 (0, 0)) (bq_ BK326)) : gb328 ≠ gb326)); replace BK326 := bb_ BK326 hb; clear hb hbox hg; have hnb31 := NB328_326.out; have hnc31 := NB326_328.out; have hcz32_0 : w30.cell? ⟨gb328, 0, none⟩ = some (.int .i64 0) := (blk_cell BK328.out 0).trans rfl; have hcz32_1 : w30.cell? ⟨gb328, 1, none⟩ = some (.int .i64 0) := (blk_cell BK328.out 1).trans rfl; have hfz32_0 := blk_frozen BK328.out 0; have hfz32_1 := blk_frozen BK328.out 1))
                           repeat (go_quiet (first | ((with_reducible refine gate_dst (N := 14) rfl ?_); (try (refine gate_guard (by rfl) ?_; dsimp only)); refine box_event ?hg (N := 14) ?hd (cs := #[.int .i64 0, .int .i64 0]) (t := 62) ?hr ?_; (case hd => rfl); (case hg => rfl); (case hr => first | (go_simp; done) | (go_simp; rfl)); intro gb328 hg w30 hbox hb; replace HO_5 := rb_ HO_5 hb; replace HO_6 := rb_ HO_6 hb; replace HO_7 := rb_ HO_7 hb; replace BK328 := Aside0.mk (hbox); replace GW328 := Aside0.mk ((by rw [hg]; exact (below_size bsw_) : w.heap.size ≤ gb328)); replace HB := Aside0.mk (below_step bsw_ hb); replace GE328 := GW328; replace NB326_328 := Aside0.mk ((by rw [hg]; exact Nat.ne_of_lt (blk_lt (g := gb326) (o := .cells #[.int .i64 ((rd_T26 l0 x38_3).f0), .int .i64 ((rd_T26 l0 x38_3).f1), .int .i64 ((rd_T26 l0 x38_3).f2), .slice (some ad327) ((rd_T26 l0 x38_3).f3).length c325_3, .slice A325_4 ((rd_T26 l0 x38_3).f4).length c325_4] 26 (0, 0)) (bq_ BK326)) : gb326 ≠ gb328)); replace NB328_326 := Aside0.mk ((by rw [hg]; exact Nat.ne_of_gt (blk_lt (g := gb326) (o := .cells #[.int .i64 ((rd_T26 l0 x38_3).f0), .int .i64 ((rd_T26 l0 x38_3).f1), .int .i64 ((rd_T26 l0 x38_3).f2), .slice (some ad327) ((rd_T26 l0 x38_3).f3).length c325_3, .slice A325_4 ((rd_T26 l0 x38_3).f4).length c325_4] 26 (0, 0)) (bq_ BK326)) : gb328 ≠ gb326)); replace BK326 := bb_ BK326 hb; clear hb hbox hg; have hnb31 := NB328_326.out; have hnc31 := NB326_328.out; have hcz32_0 : w30.cell? ⟨gb328, 0, none⟩ = some (.int .i64 0) := (blk_cell BK328.out 0).trans rfl; have hcz32_1 : w30.cell? ⟨gb328, 1, none⟩ = some (.int .i64 0) := (blk_cell BK328.out 1).trans rfl; have hfz32_0 := blk_frozen BK328.out 0; have hfz32_1 := blk_frozen BK328.out 1)); try go_wp2_with (first | ((with_reducible refine gate_dst (N := 14) rfl ?_); (try (refine gate_guard (by rfl) ?_; dsimp only)); refine box_event ?hg (N := 14) ?hd (cs := #[.int .i64 0, .int .i64 0]) (t := 62) ?hr ?_; (case hd => rfl); (case hg => rfl); (case hr => first | (go_simp; done) | (go_simp; rfl)); intro gb328 hg w30 hbox hb; replace HO_5 := rb_ HO_5 hb; replace HO_6 := rb_ HO_6 hb; replace HO_7 := rb_ HO_7 hb; replace BK328 := Aside0.mk (hbox); replace GW328 := Aside0.mk ((by rw [hg]; exact (below_size bsw_) : w.heap.size ≤ gb328)); replace HB := Aside0.mk (below_step bsw_ hb); replace GE328 := GW328; replace NB326_328 := Aside0.mk ((by rw [hg]; exact Nat.ne_of_lt (blk_lt (g := gb326) (o := .cells #[.int .i64 ((rd_T26 l0 x38_3).f0), .int .i64 ((rd_T26 l0 x38_3).f1), .int .i64 ((rd_T26 l0 x38_3).f2), .slice (some ad327) ((rd_T26 l0 x38_3).f3).length c325_3, .slice A325_4 ((rd_T26 l0 x38_3).f4).length c325_4] 26 (0, 0)) (bq_ BK326)) : gb326 ≠ gb328)); replace NB328_326 := Aside0.mk ((by rw [hg]; exact Nat.ne_of_gt (blk_lt (g := gb326) (o := .cells #[.int .i64 ((rd_T26 l0 x38_3).f0), .int .i64 ((rd_T26 l0 x38_3).f1), .int .i64 ((rd_T26 l0 x38_3).f2), .slice (some ad327) ((rd_T26 l0 x38_3).f3).length c325_3, .slice A325_4 ((rd_T26 l0 x38_3).f4).length c325_4] 26 (0, 0)) (bq_ BK326)) : gb328 ≠ gb326)); replace BK326 := bb_ BK326 hb; clear hb hbox hg; have hnb31 := NB328_326.out; have hnc31 := NB326_328.out; have hcz32_0 : w30.cell? ⟨gb328, 0, none⟩ = some (.int .i64 0) := (blk_cell BK328.out 0).trans rfl; have hcz32_1 : w30.cell? ⟨gb328, 1, none⟩ = some (.int .i64 0) := (blk_cell BK328.out 1).trans rfl; have hfz32_0 := blk_frozen BK328.out 0; have hfz32_1 := blk_frozen BK328.out 1)))
                           go_roundg k4
                           case measure => have := HJ2.out; have := HK2.out; have := HK3.out; have := HK4.out; omega
                           case rel => exact ⟨(true), (wrap64 (x45_4 + 1)), (by first | rfl | (simp; done) | (simp [*]; done)), (by first | rfl | (simp; done) | (simp [*]; done)), H', ⟨by have := HJ2.out; have := HK2.out; have := HK3.out; have := HK4.out; omega⟩, ⟨by (with_reducible repeat (first | apply Kd.R_alloc | apply Kd.R_drewN | apply Kd.R_drew)); exact Kd.R_mono (Kd.R_far (p := ⟨gb328, 1, none⟩) (Kd.R_far (p := ⟨gb328, 0, none⟩) (Kd.R_types HO_5.out BK328.out (by decide)) (fun _ hk => hk.2) (.int .i64 ((rd_T62 ((rd_T26 l0 x38_3).f3) x45_4).f0))) (fun _ hk => hk.2) (.int .i64 ((rd_T62 ((rd_T26 l0 x38_3).f3) x45_4).f1))) (fun _ hk => ⟨hk.1.1, hk.1.2⟩)⟩, ⟨by (with_reducible repeat (first | apply Kd.R_alloc | apply Kd.R_drewN | apply Kd.R_drew)); exact Kd.R_mono (Kd.R_far (p := ⟨gb328, 1, none⟩) (Kd.R_far (p := ⟨gb328, 0, none⟩) (Kd.R_types HO_6.out BK328.out (by decide)) (fun _ hk => hk.2) (.int .i64 ((rd_T62 ((rd_T26 l0 x38_3).f3) x45_4).f0))) (fun _ hk => hk.2) (.int .i64 ((rd_T62 ((rd_T26 l0 x38_3).f3) x45_4).f1))) (fun _ hk => ⟨hk.1.1, hk.1.2⟩)⟩, ⟨by (with_reducible repeat (first | apply Kd.R_alloc | apply Kd.R_drewN | apply Kd.R_drew)); exact Kd.R_mono (Kd.R_far (p := ⟨gb328, 1, none⟩) (Kd.R_far (p := ⟨gb328, 0, none⟩) (Kd.R_types HO_7.out BK328.out (by decide)) (fun _ hk => hk.2) (.int .i64 ((rd_T62 ((rd_T26 l0 x38_3).f3) x45_4).f0))) (fun _ hk => hk.2) (.int .i64 ((rd_T62 ((rd_T26 l0 x38_3).f3) x45_4).f1))) (fun _ hk => ⟨hk.1.1, hk.1.2⟩)⟩, ⟨by (with_reducible repeat (first | refine blk_drewN ?_ _ | refine blk_drew ?_ | refine blk_alloc ?_ _)); refine blk_far ?_ NB326_328.out _; (with_reducible repeat (first | refine blk_drewN ?_ _ | refine blk_drew ?_ | refine blk_alloc ?_ _)); refine blk_far ?_ NB326_328.out _; (with_reducible repeat (first | refine blk_drewN ?_ _ | refine blk_drew ?_ | refine blk_alloc ?_ _)); exact BK326.out⟩, ⟨by repeat (first | (with_reducible first | exact HB.out | apply below_alloc | apply pw_below_drewN | apply below_drew1 | refine below_set ?_ GE326.out | refine below_set ?_ GE328.out) | exact HB.out)⟩⟩
                         · replace c29 := Bool.eq_false_iff.mpr c29
                           subst c29
                           rw [if_neg (show ¬ (false = true) by decide)] at H
                           have H' := Aside0.mk H
                           clear H
                           have p327 : 0 ≤ (x45_4 : Int) := oda_
                           have q327 : x45_4 < (((rd_T26 l0 x38_3).f3).length : Int) := oda_
                           obtain ⟨ad327, e327, hx327_0, hx327_1⟩ := at_T62 HR325_3.out x45_4 p327 q327
                           cases e327
                           replace hx327_0 := (HB.out.cell (World.block_lt_of_cell? w _ hx327_0)).trans hx327_0
                           replace hx327_1 := (HB.out.cell (World.block_lt_of_cell? w _ hx327_1)).trans hx327_1
                           replace p327 := eq_true p327
                           replace q327 := eq_true q327
                           go_wp2_with (first | ((with_reducible refine gate_dst (N := 14) rfl ?_); (try (refine gate_guard (by rfl) ?_; dsimp only)); refine box_event ?hg (N := 14) ?hd (cs := #[.int .i64 0, .int .i64 0]) (t := 62) ?hr ?_; (case hd => rfl); (case hg => rfl); (case hr => first | (go_simp; done) | (go_simp; rfl)); intro gb328 hg w33 hbox hb; replace HO_5 := rb_ HO_5 hb; replace HO_6 := rb_ HO_6 hb; replace HO_7 := rb_ HO_7 hb; replace BK328 := Aside0.mk (hbox); replace GW328 := Aside0.mk ((by rw [hg]; exact (below_size bsw_) : w.heap.size ≤ gb328)); replace HB := Aside0.mk (below_step bsw_ hb); replace GE328 := GW328; replace NB326_328 := Aside0.mk ((by rw [hg]; exact Nat.ne_of_lt (blk_lt (g := gb326) (o := .cells #[.int .i64 ((rd_T26 l0 x38_3).f0), .int .i64 ((rd_T26 l0 x38_3).f1), .int .i64 ((rd_T26 l0 x38_3).f2), .slice (some ad327) ((rd_T26 l0 x38_3).f3).length c325_3, .slice A325_4 ((rd_T26 l0 x38_3).f4).length c325_4] 26 (0, 0)) (bq_ BK326)) : gb326 ≠ gb328)); replace NB328_326 := Aside0.mk ((by rw [hg]; exact Nat.ne_of_gt (blk_lt (g := gb326) (o := .cells #[.int .i64 ((rd_T26 l0 x38_3).f0), .int .i64 ((rd_T26 l0 x38_3).f1), .int .i64 ((rd_T26 l0 x38_3).f2), .slice (some ad327) ((rd_T26 l0 x38_3).f3).length c325_3, .slice A325_4 ((rd_T26 l0 x38_3).f4).length c325_4] 26 (0, 0)) (bq_ BK326)) : gb328 ≠ gb326)); replace BK326 := bb_ BK326 hb; clear hb hbox hg; have hnb34 := NB328_326.out; have hnc34 := NB326_328.out; have hcz35_0 : w33.cell? ⟨gb328, 0, none⟩ = some (.int .i64 0) := (blk_cell BK328.out 0).trans rfl; have hcz35_1 : w33.cell? ⟨gb328, 1, none⟩ = some (.int .i64 0) := (blk_cell BK328.out 1).trans rfl; have hfz35_0 := blk_frozen BK328.out 0; have hfz35_1 := blk_frozen BK328.out 1))
                           repeat (go_quiet (first | ((with_reducible refine gate_dst (N := 14) rfl ?_); (try (refine gate_guard (by rfl) ?_; dsimp only)); refine box_event ?hg (N := 14) ?hd (cs := #[.int .i64 0, .int .i64 0]) (t := 62) ?hr ?_; (case hd => rfl); (case hg => rfl); (case hr => first | (go_simp; done) | (go_simp; rfl)); intro gb328 hg w33 hbox hb; replace HO_5 := rb_ HO_5 hb; replace HO_6 := rb_ HO_6 hb; replace HO_7 := rb_ HO_7 hb; replace BK328 := Aside0.mk (hbox); replace GW328 := Aside0.mk ((by rw [hg]; exact (below_size bsw_) : w.heap.size ≤ gb328)); replace HB := Aside0.mk (below_step bsw_ hb); replace GE328 := GW328; replace NB326_328 := Aside0.mk ((by rw [hg]; exact Nat.ne_of_lt (blk_lt (g := gb326) (o := .cells #[.int .i64 ((rd_T26 l0 x38_3).f0), .int .i64 ((rd_T26 l0 x38_3).f1), .int .i64 ((rd_T26 l0 x38_3).f2), .slice (some ad327) ((rd_T26 l0 x38_3).f3).length c325_3, .slice A325_4 ((rd_T26 l0 x38_3).f4).length c325_4] 26 (0, 0)) (bq_ BK326)) : gb326 ≠ gb328)); replace NB328_326 := Aside0.mk ((by rw [hg]; exact Nat.ne_of_gt (blk_lt (g := gb326) (o := .cells #[.int .i64 ((rd_T26 l0 x38_3).f0), .int .i64 ((rd_T26 l0 x38_3).f1), .int .i64 ((rd_T26 l0 x38_3).f2), .slice (some ad327) ((rd_T26 l0 x38_3).f3).length c325_3, .slice A325_4 ((rd_T26 l0 x38_3).f4).length c325_4] 26 (0, 0)) (bq_ BK326)) : gb328 ≠ gb326)); replace BK326 := bb_ BK326 hb; clear hb hbox hg; have hnb34 := NB328_326.out; have hnc34 := NB326_328.out; have hcz35_0 : w33.cell? ⟨gb328, 0, none⟩ = some (.int .i64 0) := (blk_cell BK328.out 0).trans rfl; have hcz35_1 : w33.cell? ⟨gb328, 1, none⟩ = some (.int .i64 0) := (blk_cell BK328.out 1).trans rfl; have hfz35_0 := blk_frozen BK328.out 0; have hfz35_1 := blk_frozen BK328.out 1)); try go_wp2_with (first | ((with_reducible refine gate_dst (N := 14) rfl ?_); (try (refine gate_guard (by rfl) ?_; dsimp only)); refine box_event ?hg (N := 14) ?hd (cs := #[.int .i64 0, .int .i64 0]) (t := 62) ?hr ?_; (case hd => rfl); (case hg => rfl); (case hr => first | (go_simp; done) | (go_simp; rfl)); intro gb328 hg w33 hbox hb; replace HO_5 := rb_ HO_5 hb; replace HO_6 := rb_ HO_6 hb; replace HO_7 := rb_ HO_7 hb; replace BK328 := Aside0.mk (hbox); replace GW328 := Aside0.mk ((by rw [hg]; exact (below_size bsw_) : w.heap.size ≤ gb328)); replace HB := Aside0.mk (below_step bsw_ hb); replace GE328 := GW328; replace NB326_328 := Aside0.mk ((by rw [hg]; exact Nat.ne_of_lt (blk_lt (g := gb326) (o := .cells #[.int .i64 ((rd_T26 l0 x38_3).f0), .int .i64 ((rd_T26 l0 x38_3).f1), .int .i64 ((rd_T26 l0 x38_3).f2), .slice (some ad327) ((rd_T26 l0 x38_3).f3).length c325_3, .slice A325_4 ((rd_T26 l0 x38_3).f4).length c325_4] 26 (0, 0)) (bq_ BK326)) : gb326 ≠ gb328)); replace NB328_326 := Aside0.mk ((by rw [hg]; exact Nat.ne_of_gt (blk_lt (g := gb326) (o := .cells #[.int .i64 ((rd_T26 l0 x38_3).f0), .int .i64 ((rd_T26 l0 x38_3).f1), .int .i64 ((rd_T26 l0 x38_3).f2), .slice (some ad327) ((rd_T26 l0 x38_3).f3).length c325_3, .slice A325_4 ((rd_T26 l0 x38_3).f4).length c325_4] 26 (0, 0)) (bq_ BK326)) : gb328 ≠ gb326)); replace BK326 := bb_ BK326 hb; clear hb hbox hg; have hnb34 := NB328_326.out; have hnc34 := NB326_328.out; have hcz35_0 : w33.cell? ⟨gb328, 0, none⟩ = some (.int .i64 0) := (blk_cell BK328.out 0).trans rfl; have hcz35_1 : w33.cell? ⟨gb328, 1, none⟩ = some (.int .i64 0) := (blk_cell BK328.out 1).trans rfl; have hfz35_0 := blk_frozen BK328.out 0; have hfz35_1 := blk_frozen BK328.out 1)))
                           go_roundg k4
                           case measure => have := HJ2.out; have := HK2.out; have := HK3.out; have := HK4.out; omega
                           case rel => exact ⟨((((rd_T62 ((rd_T26 l0 x38_3).f3) x45_4).f0) == a1)), (wrap64 (x45_4 + 1)), (by first | rfl | (simp; done) | (simp [*]; done)), (by first | rfl | (simp; done) | (simp [*]; done)), H', ⟨by have := HJ2.out; have := HK2.out; have := HK3.out; have := HK4.out; omega⟩, ⟨by (with_reducible repeat (first | apply Kd.R_alloc | apply Kd.R_drewN | apply Kd.R_drew)); exact Kd.R_mono (Kd.R_far (p := ⟨gb328, 1, none⟩) (Kd.R_far (p := ⟨gb328, 0, none⟩) (Kd.R_types HO_5.out BK328.out (by decide)) (fun _ hk => hk.2) (.int .i64 ((rd_T62 ((rd_T26 l0 x38_3).f3) x45_4).f0))) (fun _ hk => hk.2) (.int .i64 ((rd_T62 ((rd_T26 l0 x38_3).f3) x45_4).f1))) (fun _ hk => ⟨hk.1.1, hk.1.2⟩)⟩, ⟨by (with_reducible repeat (first | apply Kd.R_alloc | apply Kd.R_drewN | apply Kd.R_drew)); exact Kd.R_mono (Kd.R_far (p := ⟨gb328, 1, none⟩) (Kd.R_far (p := ⟨gb328, 0, none⟩) (Kd.R_types HO_6.out BK328.out (by decide)) (fun _ hk => hk.2) (.int .i64 ((rd_T62 ((rd_T26 l0 x38_3).f3) x45_4).f0))) (fun _ hk => hk.2) (.int .i64 ((rd_T62 ((rd_T26 l0 x38_3).f3) x45_4).f1))) (fun _ hk => ⟨hk.1.1, hk.1.2⟩)⟩, ⟨by (with_reducible repeat (first | apply Kd.R_alloc | apply Kd.R_drewN | apply Kd.R_drew)); exact Kd.R_mono (Kd.R_far (p := ⟨gb328, 1, none⟩) (Kd.R_far (p := ⟨gb328, 0, none⟩) (Kd.R_types HO_7.out BK328.out (by decide)) (fun _ hk => hk.2) (.int .i64 ((rd_T62 ((rd_T26 l0 x38_3).f3) x45_4).f0))) (fun _ hk => hk.2) (.int .i64 ((rd_T62 ((rd_T26 l0 x38_3).f3) x45_4).f1))) (fun _ hk => ⟨hk.1.1, hk.1.2⟩)⟩, ⟨by (with_reducible repeat (first | refine blk_drewN ?_ _ | refine blk_drew ?_ | refine blk_alloc ?_ _)); refine blk_far ?_ NB326_328.out _; (with_reducible repeat (first | refine blk_drewN ?_ _ | refine blk_drew ?_ | refine blk_alloc ?_ _)); refine blk_far ?_ NB326_328.out _; (with_reducible repeat (first | refine blk_drewN ?_ _ | refine blk_drew ?_ | refine blk_alloc ?_ _)); exact BK326.out⟩, ⟨by repeat (first | (with_reducible first | exact HB.out | apply below_alloc | apply pw_below_drewN | apply below_drew1 | refine below_set ?_ GE326.out | refine below_set ?_ GE328.out) | exact HB.out)⟩⟩
                       · rw [if_neg c28] at H
                         exact absurd H (by simp)
                     · rw [if_neg c27] at H
                       exact absurd H (by simp)
                   · rw [if_neg c26] at H
                     have c26b0 : decide (x45_4 < (((rd_T26 l0 x38_3).f3).length : Int)) = false := decide_eq_false c26
                     clear c26
                     by_cases c36 : x12_4 = true
                     · subst c36
                       rw [if_pos rfl] at H
                       have HC37 := Aside0.mk H
                       clear H
                       go_upto_region 21 with (fail)
                       repeat (go_quiet (fail); go_upto_region 21 with (fail))
                       go_cut [70] (fun v70 wc => ∃ (kq : Nat) (x70_36 : Bool), v70 = .bool x70_36 ∧ Aside0 (handshakerlaw15_SleepCells.j4 kq l0 a1 t319 x6_2 x7_3 x9_3 l0 (l0.length : Int) x38_3 x70_36 ((rd_T26 l0 x38_3).f0) ((rd_T26 l0 x38_3).f1) ((rd_T26 l0 x38_3).f2) ((rd_T26 l0 x38_3).f3) ((rd_T26 l0 x38_3).f4) = some r) ∧ Aside0 (kq ≤ k4) ∧ Aside0 (Kd.R (Kd.int .i64) 3 wc w.heap.size (fun k_ => some k_ ≠ (u6 : Value).ownBlock ∧ some k_ ≠ (u7 : Value).ownBlock) v320 t319) ∧ Aside0 (Kd.R (Kd.int .i64) 3 wc w.heap.size (fun k_ => some k_ ≠ (v320 : Value).ownBlock ∧ some k_ ≠ (u7 : Value).ownBlock) u6 x6_2) ∧ Aside0 (Kd.R (Kd.int .i64) 3 wc w.heap.size (fun k_ => some k_ ≠ (v320 : Value).ownBlock ∧ some k_ ≠ (u6 : Value).ownBlock) u7 x7_3) ∧ Aside0 (wc.heap[gb326]? = some (.cells #[.int .i64 ((rd_T26 l0 x38_3).f0), .int .i64 ((rd_T26 l0 x38_3).f1), .int .i64 ((rd_T26 l0 x38_3).f2), (.slice A325_3 ((rd_T26 l0 x38_3).f3).length c325_3), (.slice A325_4 ((rd_T26 l0 x38_3).f4).length c325_4)] 26 (0, 0))) ∧ Aside0 (Below w.heap.size w wc))
                       case first =>
                        have H := HC37.out
                        clear HC37
                        by_cases c38 : x9_3 ≥ (t319.length : Int)
                        · rw [if_pos c38] at H
                          have c38b0 : decide ((t319.length : Int) ≤ x9_3) = true := decide_eq_true c38
                          clear c38
                          (first | rw [c38b0] | (simp only [i64_w, i32_w]; rw [c38b0]) | skip)
                          have H' := Aside0.mk H
                          clear H
                          obtain ⟨Ao39, co39, eo39⟩ := Kd.R_slice HO_5.out
                          subst eo39
                          go_wp2
                          repeat (go_quiet (fail); try go_wp2)
                          go_meet
                          case rel => exact ⟨_, (true), (by first | rfl | (simp; done) | (simp [*]; done)), H', ⟨by have := HJ2.out; have := HK2.out; have := HK3.out; have := HK4.out; first | omega | exact Nat.le_refl _⟩, ⟨rq_ HO_5⟩, ⟨rq_ HO_6⟩, ⟨rq_ HO_7⟩, ⟨bq_ BK326⟩, ⟨bsw_⟩⟩
                        · rw [if_neg c38] at H
                          have c38b0 : decide ((t319.length : Int) ≤ x9_3) = false := decide_eq_false c38
                          clear c38
                          (first | rw [c38b0] | (simp only [i64_w, i32_w]; rw [c38b0]) | skip)
                          by_cases c40 : 0 ≤ x9_3
                          · rw [if_pos c40] at H
                            have c40b0 : decide (0 ≤ x9_3) = true := decide_eq_true c40
                            clear c40
                            by_cases c41 : x9_3 < (t319.length : Int)
                            · rw [if_pos c41] at H
                              have c41b0 : decide (x9_3 < (t319.length : Int)) = true := decide_eq_true c41
                              clear c41
                              have H' := Aside0.mk H
                              clear H
                              obtain ⟨Ao42, co42, eo42⟩ := Kd.R_slice HO_5.out
                              subst eo42
                              have p329 : 0 ≤ (x9_3 : Int) := oda_
                              have q329 : x9_3 < (t319.length : Int) := oda_
                              obtain ⟨ad329, e329, hx329_0⟩ := Kd.at_int (Kd.R_reads' HO_5.out).2.2 x9_3 p329 q329
                              cases e329
                              replace p329 := eq_true p329
                              replace q329 := eq_true q329
                              have hcz43_0 : wr.cell? ⟨gb326, 0, none⟩ = some (.int .i64 ((rd_T26 l0 x38_3).f0)) := (blk_cell BK326.out 0).trans rfl
                              have hcz43_1 : wr.cell? ⟨gb326, 1, none⟩ = some (.int .i64 ((rd_T26 l0 x38_3).f1)) := (blk_cell BK326.out 1).trans rfl
                              have hcz43_2 : wr.cell? ⟨gb326, 2, none⟩ = some (.int .i64 ((rd_T26 l0 x38_3).f2)) := (blk_cell BK326.out 2).trans rfl
                              have hcz43_3 : wr.cell? ⟨gb326, 3, none⟩ = some (.slice A325_3 ((rd_T26 l0 x38_3).f3).length c325_3) := (blk_cell BK326.out 3).trans rfl
                              have hcz43_4 : wr.cell? ⟨gb326, 4, none⟩ = some (.slice A325_4 ((rd_T26 l0 x38_3).f4).length c325_4) := (blk_cell BK326.out 4).trans rfl
                              have hfz43_0 := blk_frozen BK326.out 0
                              have hfz43_1 := blk_frozen BK326.out 1
                              have hfz43_2 := blk_frozen BK326.out 2
                              have hfz43_3 := blk_frozen BK326.out 3
                              have hfz43_4 := blk_frozen BK326.out 4
                              go_wp2
                              repeat (go_quiet (fail); try go_wp2)
                              go_meet
                              case rel => exact ⟨_, (((rd t319 x9_3) != ((rd_T26 l0 x38_3).f0))), (by first | rfl | (simp; done) | (simp [*]; done)), H', ⟨by have := HJ2.out; have := HK2.out; have := HK3.out; have := HK4.out; first | omega | exact Nat.le_refl _⟩, ⟨rq_ HO_5⟩, ⟨rq_ HO_6⟩, ⟨rq_ HO_7⟩, ⟨bq_ BK326⟩, ⟨bsw_⟩⟩
                            · rw [if_neg c41] at H
                              exact absurd H (by simp)
                          · rw [if_neg c40] at H
                            exact absurd H (by simp)
                       case rest =>
                        clear HC37
                        try clear c1
                        try clear c2
                        try clear p2
                        try clear c3
                        try clear p3
                        try clear q3
                        try clear hx3
                        try clear c4
                        try clear c5
                        try clear c5b0
                        try clear c6
                        try clear p6
                        try clear c10
                        try clear c14
                        try clear c15
                        try clear c18
                        try clear c18b0
                        try clear c19
                        try clear c21
                        try clear c21b0
                        try clear c22
                        try clear c22b0
                        try clear c23
                        try clear c23b0
                        try clear c26
                        try clear c26b0
                        try clear c27
                        try clear c27b0
                        try clear c28
                        try clear c28b0
                        try clear c29
                        try clear c31
                        try clear c32
                        try clear p32
                        try clear q32
                        try clear hx32
                        try clear c34
                        try clear c36
                        try clear c38
                        try clear c38b0
                        try clear c40
                        try clear c40b0
                        try clear c41
                        try clear c41b0
                        try clear hcz25_0
                        try clear hcz25_1
                        try clear hcz25_2
                        try clear hcz25_3
                        try clear hcz25_4
                        try clear hcz32_0
                        try clear hcz32_1
                        try clear hcz35_0
                        try clear hcz35_1
                        try clear hcz43_0
                        try clear hcz43_1
                        try clear hcz43_2
                        try clear hcz43_3
                        try clear hcz43_4
                        try clear hfz25_0
                        try clear hfz25_1
                        try clear hfz25_2
                        try clear hfz25_3
                        try clear hfz25_4
                        try clear hfz32_0
                        try clear hfz32_1
                        try clear hfz35_0
                        try clear hfz35_1
                        try clear hfz43_0
                        try clear hfz43_1
                        try clear hfz43_2
                        try clear hfz43_3
                        try clear hfz43_4
                        try clear hx325_0
                        try clear hx325_1
                        try clear hx325_2
                        try clear hx325_3
                        try clear hx325_4
                        try clear hx327_0
                        try clear hx327_1
                        try clear hx329_0
                        try clear p2
                        try clear p3
                        try clear p325
                        try clear p327
                        try clear p329
                        try clear p6
                        try clear q3
                        try clear q325
                        try clear q327
                        try clear q329
                        obtain ⟨kq, x70_36, rfl, HA, HJ36, HO_5, HO_6, HO_7, BK326, HB⟩ := hcut
                        cases kq with
                        | zero => exact absurd HA.out (by simp [handshakerlaw15_SleepCells.j4])
                        | succ kj36 =>
                         have H := HA.out
                         clear HA
                         simp only [handshakerlaw15_SleepCells.j4] at H
                         by_cases c44 : x70_36 = true
                         · subst c44
                           rw [if_pos rfl] at H
                           exact absurd (Option.some.inj H) (by rw [HT.out]; decide)
                         · replace c44 := Bool.eq_false_iff.mpr c44
                           subst c44
                           rw [if_neg (show ¬ (false = true) by decide)] at H
                           by_cases c45 : (((rd_T26 l0 x38_3).f3).length : Int) > 0
                           · rw [if_pos c45] at H
                             have c45b0 : decide (0 < (((rd_T26 l0 x38_3).f3).length : Int)) = true := decide_eq_true c45
                             have c45b1 : decide (0 < ((rd_T26 l0 x38_3).f3).length) = true := decide_eq_true (by omega)
                             clear c45
                             by_cases c46 : x7_3.length < 17592186044416
                             · rw [if_pos c46] at H
                               have LMc46 := Aside0.mk c46
                               clear c46
                               obtain ⟨y330, hy330⟩ : ∃ y_ : List Int, y_ = (x7_3 ++ [((rd_T26 l0 x38_3).f0)]) := ⟨_, rfl⟩
                               replace H : (handshakerlaw15_SleepCells.l1 kj36 l0 a1 t319 x6_2 y330 (wrap64 (x9_3 + 1)) l0 (l0.length : Int) (wrap64 (x38_3 + 1))) = some r := by first | (rw [hy330]; with_reducible exact H) | (have H2_ := (Option.bind_some _ _).symm.trans H; rw [hy330]; with_reducible exact H2_) | (have H2_ := (Option.bind_some _ _).symm.trans H; with_reducible exact H2_) | with_reducible exact H | (rw [hy330]; exact H) | exact H
                               have Ny330 := Aside0.mk hy330
                               clear hy330
                               have H' := Aside0.mk H
                               clear H
                               have hcz47_0 : wc.cell? ⟨gb326, 0, none⟩ = some (.int .i64 ((rd_T26 l0 x38_3).f0)) := (blk_cell BK326.out 0).trans rfl
                               have hcz47_1 : wc.cell? ⟨gb326, 1, none⟩ = some (.int .i64 ((rd_T26 l0 x38_3).f1)) := (blk_cell BK326.out 1).trans rfl
                               have hcz47_2 : wc.cell? ⟨gb326, 2, none⟩ = some (.int .i64 ((rd_T26 l0 x38_3).f2)) := (blk_cell BK326.out 2).trans rfl
                               have hcz47_3 : wc.cell? ⟨gb326, 3, none⟩ = some (.slice A325_3 ((rd_T26 l0 x38_3).f3).length c325_3) := (blk_cell BK326.out 3).trans rfl
                               have hcz47_4 : wc.cell? ⟨gb326, 4, none⟩ = some (.slice A325_4 ((rd_T26 l0 x38_3).f4).length c325_4) := (blk_cell BK326.out 4).trans rfl
                               have hfz47_0 := blk_frozen BK326.out 0
                               have hfz47_1 := blk_frozen BK326.out 1
                               have hfz47_2 := blk_frozen BK326.out 2
                               have hfz47_3 := blk_frozen BK326.out 3
                               have hfz47_4 := blk_frozen BK326.out 4
                               go_wp2_with (first | ((with_reducible refine gate_builtin (b := .append) (xs := #[.tmp 77, .tmp 80]) rfl ?_); (try (refine gate_guard (by rfl) ?_; dsimp only)); at_builtin; refine Kd.R_append (Kd.int .i64) (w0 := w) w.heap.size rfl (.tmp 77) (.tmp 80) 27 3 (.int .i64 0) 8 rfl Try.underlying27 info3 rfl (by decide) (by omega) u7 x7_3 ((rd_T26 l0 x38_3).f0) [.int .i64 ((rd_T26 l0 x38_3).f0)] (fun k_ => some k_ ≠ (v320 : Value).ownBlock ∧ some k_ ≠ (u6 : Value).ownBlock) (fun _ => False) rfl rfl ?aP (fun _ hk => hk.elim) ?aF ?aO ?aB ?aS ?aL ?_; (case aP => exact rfl); (case aB => exact bsw_); (case aF => exact (fun k_ hk => ⟨Kd.fresh' (Kd.R_lt (rq_ HO_5)) k_ hk, Kd.fresh' (Kd.R_lt (rq_ HO_6)) k_ hk⟩)); (case aO => exact (rq_ HO_7)); (case aS => exact (below_size bsw_)); (case aL => have := LMc46.out; omega); intro v331 w48 ho hb hg hat; rw [← Ny330.out] at ho; replace HO_5 := Aside0.mk (Kd.R_after (ok := (fun k_ => some k_ ≠ (u6 : Value).ownBlock)) (rq_ HO_5) hg hat); replace HO_6 := Aside0.mk (Kd.R_after (ok := (fun k_ => some k_ ≠ (v320 : Value).ownBlock)) (rq_ HO_6) hg hat); replace BK326 := Aside0.mk (blk_grown (g := gb326) (o := .cells #[.int .i64 ((rd_T26 l0 x38_3).f0), .int .i64 ((rd_T26 l0 x38_3).f1), .int .i64 ((rd_T26 l0 x38_3).f2), .slice A325_3 ((rd_T26 l0 x38_3).f3).length c325_3, .slice A325_4 ((rd_T26 l0 x38_3).f4).length c325_4] 26 (0, 0)) (bq_ BK326) hg (Kd.R_ne HO_7.out BK326.out (by decide))); replace HB := Aside0.mk (hb); replace HO332 := Aside0.mk (ho); clear HO_7; clear ho hb hg hat))
                               repeat (go_quiet (first | ((with_reducible refine gate_builtin (b := .append) (xs := #[.tmp 77, .tmp 80]) rfl ?_); (try (refine gate_guard (by rfl) ?_; dsimp only)); at_builtin; refine Kd.R_append (Kd.int .i64) (w0 := w) w.heap.size rfl (.tmp 77) (.tmp 80) 27 3 (.int .i64 0) 8 rfl Try.underlying27 info3 rfl (by decide) (by omega) u7 x7_3 ((rd_T26 l0 x38_3).f0) [.int .i64 ((rd_T26 l0 x38_3).f0)] (fun k_ => some k_ ≠ (v320 : Value).ownBlock ∧ some k_ ≠ (u6 : Value).ownBlock) (fun _ => False) rfl rfl ?aP (fun _ hk => hk.elim) ?aF ?aO ?aB ?aS ?aL ?_; (case aP => exact rfl); (case aB => exact bsw_); (case aF => exact (fun k_ hk => ⟨Kd.fresh' (Kd.R_lt (rq_ HO_5)) k_ hk, Kd.fresh' (Kd.R_lt (rq_ HO_6)) k_ hk⟩)); (case aO => exact (rq_ HO_7)); (case aS => exact (below_size bsw_)); (case aL => have := LMc46.out; omega); intro v331 w48 ho hb hg hat; rw [← Ny330.out] at ho; replace HO_5 := Aside0.mk (Kd.R_after (ok := (fun k_ => some k_ ≠ (u6 : Value).ownBlock)) (rq_ HO_5) hg hat); replace HO_6 := Aside0.mk (Kd.R_after (ok := (fun k_ => some k_ ≠ (v320 : Value).ownBlock)) (rq_ HO_6) hg hat); replace BK326 := Aside0.mk (blk_grown (g := gb326) (o := .cells #[.int .i64 ((rd_T26 l0 x38_3).f0), .int .i64 ((rd_T26 l0 x38_3).f1), .int .i64 ((rd_T26 l0 x38_3).f2), .slice A325_3 ((rd_T26 l0 x38_3).f3).length c325_3, .slice A325_4 ((rd_T26 l0 x38_3).f4).length c325_4] 26 (0, 0)) (bq_ BK326) hg (Kd.R_ne HO_7.out BK326.out (by decide))); replace HB := Aside0.mk (hb); replace HO332 := Aside0.mk (ho); clear HO_7; clear ho hb hg hat)); try go_wp2_with (first | ((with_reducible refine gate_builtin (b := .append) (xs := #[.tmp 77, .tmp 80]) rfl ?_); (try (refine gate_guard (by rfl) ?_; dsimp only)); at_builtin; refine Kd.R_append (Kd.int .i64) (w0 := w) w.heap.size rfl (.tmp 77) (.tmp 80) 27 3 (.int .i64 0) 8 rfl Try.underlying27 info3 rfl (by decide) (by omega) u7 x7_3 ((rd_T26 l0 x38_3).f0) [.int .i64 ((rd_T26 l0 x38_3).f0)] (fun k_ => some k_ ≠ (v320 : Value).ownBlock ∧ some k_ ≠ (u6 : Value).ownBlock) (fun _ => False) rfl rfl ?aP (fun _ hk => hk.elim) ?aF ?aO ?aB ?aS ?aL ?_; (case aP => exact rfl); (case aB => exact bsw_); (case aF => exact (fun k_ hk => ⟨Kd.fresh' (Kd.R_lt (rq_ HO_5)) k_ hk, Kd.fresh' (Kd.R_lt (rq_ HO_6)) k_ hk⟩)); (case aO => exact (rq_ HO_7)); (case aS => exact (below_size bsw_)); (case aL => have := LMc46.out; omega); intro v331 w48 ho hb hg hat; rw [← Ny330.out] at ho; replace HO_5 := Aside0.mk (Kd.R_after (ok := (fun k_ => some k_ ≠ (u6 : Value).ownBlock)) (rq_ HO_5) hg hat); replace HO_6 := Aside0.mk (Kd.R_after (ok := (fun k_ => some k_ ≠ (v320 : Value).ownBlock)) (rq_ HO_6) hg hat); replace BK326 := Aside0.mk (blk_grown (g := gb326) (o := .cells #[.int .i64 ((rd_T26 l0 x38_3).f0), .int .i64 ((rd_T26 l0 x38_3).f1), .int .i64 ((rd_T26 l0 x38_3).f2), .slice A325_3 ((rd_T26 l0 x38_3).f3).length c325_3, .slice A325_4 ((rd_T26 l0 x38_3).f4).length c325_4] 26 (0, 0)) (bq_ BK326) hg (Kd.R_ne HO_7.out BK326.out (by decide))); replace HB := Aside0.mk (hb); replace HO332 := Aside0.mk (ho); clear HO_7; clear ho hb hg hat)))
                               go_roundg kj36
                               case measure => have := HJ2.out; have := HK2.out; have := HK3.out; have := HK4.out; have := HJ36.out; omega
                               case rel => exact ⟨(y330), (wrap64 (x9_3 + 1)), (wrap64 (x38_3 + 1)), (by first | rfl | (simp; done) | (simp [*]; done)), (by first | rfl | (simp; done) | (simp [*]; done)), H', ⟨by have := HJ2.out; have := HK2.out; have := HK3.out; have := HK4.out; have := HJ36.out; omega⟩, ⟨rq_ HO_5⟩, ⟨rq_ HO_6⟩, ⟨rq_ HO332⟩, ⟨bsw_⟩⟩
                             · rw [if_neg c46] at H
                               exact absurd H (by simp)
                           · rw [if_neg c45] at H
                             have c45b0 : decide (0 < (((rd_T26 l0 x38_3).f3).length : Int)) = false := decide_eq_false c45
                             have c45b1 : decide (0 < ((rd_T26 l0 x38_3).f3).length) = false := decide_eq_false (by omega)
                             clear c45
                             have H' := Aside0.mk H
                             clear H
                             have hcz49_0 : wc.cell? ⟨gb326, 0, none⟩ = some (.int .i64 ((rd_T26 l0 x38_3).f0)) := (blk_cell BK326.out 0).trans rfl
                             have hcz49_1 : wc.cell? ⟨gb326, 1, none⟩ = some (.int .i64 ((rd_T26 l0 x38_3).f1)) := (blk_cell BK326.out 1).trans rfl
                             have hcz49_2 : wc.cell? ⟨gb326, 2, none⟩ = some (.int .i64 ((rd_T26 l0 x38_3).f2)) := (blk_cell BK326.out 2).trans rfl
                             have hcz49_3 : wc.cell? ⟨gb326, 3, none⟩ = some (.slice A325_3 ((rd_T26 l0 x38_3).f3).length c325_3) := (blk_cell BK326.out 3).trans rfl
                             have hcz49_4 : wc.cell? ⟨gb326, 4, none⟩ = some (.slice A325_4 ((rd_T26 l0 x38_3).f4).length c325_4) := (blk_cell BK326.out 4).trans rfl
                             have hfz49_0 := blk_frozen BK326.out 0
                             have hfz49_1 := blk_frozen BK326.out 1
                             have hfz49_2 := blk_frozen BK326.out 2
                             have hfz49_3 := blk_frozen BK326.out 3
                             have hfz49_4 := blk_frozen BK326.out 4
                             go_wp2
                             repeat (go_quiet (fail); try go_wp2)
                             go_roundg kj36
                             case measure => have := HJ2.out; have := HK2.out; have := HK3.out; have := HK4.out; have := HJ36.out; omega
                             case rel => exact ⟨(x7_3), (wrap64 (x9_3 + 1)), (wrap64 (x38_3 + 1)), (by first | rfl | (simp; done) | (simp [*]; done)), (by first | rfl | (simp; done) | (simp [*]; done)), H', ⟨by have := HJ2.out; have := HK2.out; have := HK3.out; have := HK4.out; have := HJ36.out; omega⟩, ⟨rq_ HO_5⟩, ⟨rq_ HO_6⟩, ⟨rq_ HO_7⟩, ⟨bsw_⟩⟩
                     · replace c36 := Bool.eq_false_iff.mpr c36
                       subst c36
                       rw [if_neg (show ¬ (false = true) by decide)] at H
                       by_cases c50 : (((rd_T26 l0 x38_3).f3).length : Int) > 0
                       · rw [if_pos c50] at H
                         have c50b0 : decide (0 < (((rd_T26 l0 x38_3).f3).length : Int)) = true := decide_eq_true c50
                         have c50b1 : decide (0 < ((rd_T26 l0 x38_3).f3).length) = true := decide_eq_true (by omega)
                         clear c50
                         by_cases c51 : x7_3.length < 17592186044416
                         · rw [if_pos c51] at H
                           have LMc51 := Aside0.mk c51
                           clear c51
                           obtain ⟨y333, hy333⟩ : ∃ y_ : List Int, y_ = (x7_3 ++ [((rd_T26 l0 x38_3).f0)]) := ⟨_, rfl⟩
                           replace H : (handshakerlaw15_SleepCells.l1 k4 l0 a1 t319 x6_2 y333 x9_3 l0 (l0.length : Int) (wrap64 (x38_3 + 1))) = some r := by first | (rw [hy333]; with_reducible exact H) | (have H2_ := (Option.bind_some _ _).symm.trans H; rw [hy333]; with_reducible exact H2_) | (have H2_ := (Option.bind_some _ _).symm.trans H; with_reducible exact H2_) | with_reducible exact H | (rw [hy333]; exact H) | exact H
                           have Ny333 := Aside0.mk hy333
                           clear hy333
                           have H' := Aside0.mk H
                           clear H
                           have hcz52_0 : wr.cell? ⟨gb326, 0, none⟩ = some (.int .i64 ((rd_T26 l0 x38_3).f0)) := (blk_cell BK326.out 0).trans rfl
                           have hcz52_1 : wr.cell? ⟨gb326, 1, none⟩ = some (.int .i64 ((rd_T26 l0 x38_3).f1)) := (blk_cell BK326.out 1).trans rfl
                           have hcz52_2 : wr.cell? ⟨gb326, 2, none⟩ = some (.int .i64 ((rd_T26 l0 x38_3).f2)) := (blk_cell BK326.out 2).trans rfl
                           have hcz52_3 : wr.cell? ⟨gb326, 3, none⟩ = some (.slice A325_3 ((rd_T26 l0 x38_3).f3).length c325_3) := (blk_cell BK326.out 3).trans rfl
                           have hcz52_4 : wr.cell? ⟨gb326, 4, none⟩ = some (.slice A325_4 ((rd_T26 l0 x38_3).f4).length c325_4) := (blk_cell BK326.out 4).trans rfl
                           have hfz52_0 := blk_frozen BK326.out 0
                           have hfz52_1 := blk_frozen BK326.out 1
                           have hfz52_2 := blk_frozen BK326.out 2
                           have hfz52_3 := blk_frozen BK326.out 3
                           have hfz52_4 := blk_frozen BK326.out 4
                           go_wp2_with (first | ((with_reducible refine gate_builtin (b := .append) (xs := #[.tmp 77, .tmp 80]) rfl ?_); (try (refine gate_guard (by rfl) ?_; dsimp only)); at_builtin; refine Kd.R_append (Kd.int .i64) (w0 := w) w.heap.size rfl (.tmp 77) (.tmp 80) 27 3 (.int .i64 0) 8 rfl Try.underlying27 info3 rfl (by decide) (by omega) u7 x7_3 ((rd_T26 l0 x38_3).f0) [.int .i64 ((rd_T26 l0 x38_3).f0)] (fun k_ => some k_ ≠ (v320 : Value).ownBlock ∧ some k_ ≠ (u6 : Value).ownBlock) (fun _ => False) rfl rfl ?aP (fun _ hk => hk.elim) ?aF ?aO ?aB ?aS ?aL ?_; (case aP => exact rfl); (case aB => exact bsw_); (case aF => exact (fun k_ hk => ⟨Kd.fresh' (Kd.R_lt (rq_ HO_5)) k_ hk, Kd.fresh' (Kd.R_lt (rq_ HO_6)) k_ hk⟩)); (case aO => exact (rq_ HO_7)); (case aS => exact (below_size bsw_)); (case aL => have := LMc51.out; omega); intro v334 w53 ho hb hg hat; rw [← Ny333.out] at ho; replace HO_5 := Aside0.mk (Kd.R_after (ok := (fun k_ => some k_ ≠ (u6 : Value).ownBlock)) (rq_ HO_5) hg hat); replace HO_6 := Aside0.mk (Kd.R_after (ok := (fun k_ => some k_ ≠ (v320 : Value).ownBlock)) (rq_ HO_6) hg hat); replace BK326 := Aside0.mk (blk_grown (g := gb326) (o := .cells #[.int .i64 ((rd_T26 l0 x38_3).f0), .int .i64 ((rd_T26 l0 x38_3).f1), .int .i64 ((rd_T26 l0 x38_3).f2), .slice A325_3 ((rd_T26 l0 x38_3).f3).length c325_3, .slice A325_4 ((rd_T26 l0 x38_3).f4).length c325_4] 26 (0, 0)) (bq_ BK326) hg (Kd.R_ne HO_7.out BK326.out (by decide))); replace HB := Aside0.mk (hb); replace HO335 := Aside0.mk (ho); clear HO_7; clear ho hb hg hat))
                           repeat (go_quiet (first | ((with_reducible refine gate_builtin (b := .append) (xs := #[.tmp 77, .tmp 80]) rfl ?_); (try (refine gate_guard (by rfl) ?_; dsimp only)); at_builtin; refine Kd.R_append (Kd.int .i64) (w0 := w) w.heap.size rfl (.tmp 77) (.tmp 80) 27 3 (.int .i64 0) 8 rfl Try.underlying27 info3 rfl (by decide) (by omega) u7 x7_3 ((rd_T26 l0 x38_3).f0) [.int .i64 ((rd_T26 l0 x38_3).f0)] (fun k_ => some k_ ≠ (v320 : Value).ownBlock ∧ some k_ ≠ (u6 : Value).ownBlock) (fun _ => False) rfl rfl ?aP (fun _ hk => hk.elim) ?aF ?aO ?aB ?aS ?aL ?_; (case aP => exact rfl); (case aB => exact bsw_); (case aF => exact (fun k_ hk => ⟨Kd.fresh' (Kd.R_lt (rq_ HO_5)) k_ hk, Kd.fresh' (Kd.R_lt (rq_ HO_6)) k_ hk⟩)); (case aO => exact (rq_ HO_7)); (case aS => exact (below_size bsw_)); (case aL => have := LMc51.out; omega); intro v334 w53 ho hb hg hat; rw [← Ny333.out] at ho; replace HO_5 := Aside0.mk (Kd.R_after (ok := (fun k_ => some k_ ≠ (u6 : Value).ownBlock)) (rq_ HO_5) hg hat); replace HO_6 := Aside0.mk (Kd.R_after (ok := (fun k_ => some k_ ≠ (v320 : Value).ownBlock)) (rq_ HO_6) hg hat); replace BK326 := Aside0.mk (blk_grown (g := gb326) (o := .cells #[.int .i64 ((rd_T26 l0 x38_3).f0), .int .i64 ((rd_T26 l0 x38_3).f1), .int .i64 ((rd_T26 l0 x38_3).f2), .slice A325_3 ((rd_T26 l0 x38_3).f3).length c325_3, .slice A325_4 ((rd_T26 l0 x38_3).f4).length c325_4] 26 (0, 0)) (bq_ BK326) hg (Kd.R_ne HO_7.out BK326.out (by decide))); replace HB := Aside0.mk (hb); replace HO335 := Aside0.mk (ho); clear HO_7; clear ho hb hg hat)); try go_wp2_with (first | ((with_reducible refine gate_builtin (b := .append) (xs := #[.tmp 77, .tmp 80]) rfl ?_); (try (refine gate_guard (by rfl) ?_; dsimp only)); at_builtin; refine Kd.R_append (Kd.int .i64) (w0 := w) w.heap.size rfl (.tmp 77) (.tmp 80) 27 3 (.int .i64 0) 8 rfl Try.underlying27 info3 rfl (by decide) (by omega) u7 x7_3 ((rd_T26 l0 x38_3).f0) [.int .i64 ((rd_T26 l0 x38_3).f0)] (fun k_ => some k_ ≠ (v320 : Value).ownBlock ∧ some k_ ≠ (u6 : Value).ownBlock) (fun _ => False) rfl rfl ?aP (fun _ hk => hk.elim) ?aF ?aO ?aB ?aS ?aL ?_; (case aP => exact rfl); (case aB => exact bsw_); (case aF => exact (fun k_ hk => ⟨Kd.fresh' (Kd.R_lt (rq_ HO_5)) k_ hk, Kd.fresh' (Kd.R_lt (rq_ HO_6)) k_ hk⟩)); (case aO => exact (rq_ HO_7)); (case aS => exact (below_size bsw_)); (case aL => have := LMc51.out; omega); intro v334 w53 ho hb hg hat; rw [← Ny333.out] at ho; replace HO_5 := Aside0.mk (Kd.R_after (ok := (fun k_ => some k_ ≠ (u6 : Value).ownBlock)) (rq_ HO_5) hg hat); replace HO_6 := Aside0.mk (Kd.R_after (ok := (fun k_ => some k_ ≠ (v320 : Value).ownBlock)) (rq_ HO_6) hg hat); replace BK326 := Aside0.mk (blk_grown (g := gb326) (o := .cells #[.int .i64 ((rd_T26 l0 x38_3).f0), .int .i64 ((rd_T26 l0 x38_3).f1), .int .i64 ((rd_T26 l0 x38_3).f2), .slice A325_3 ((rd_T26 l0 x38_3).f3).length c325_3, .slice A325_4 ((rd_T26 l0 x38_3).f4).length c325_4] 26 (0, 0)) (bq_ BK326) hg (Kd.R_ne HO_7.out BK326.out (by decide))); replace HB := Aside0.mk (hb); replace HO335 := Aside0.mk (ho); clear HO_7; clear ho hb hg hat)))
                           go_roundg k4
                           case measure => have := HJ2.out; have := HK2.out; have := HK3.out; have := HK4.out; omega
                           case rel => exact ⟨(y333), (x9_3), (wrap64 (x38_3 + 1)), (by first | rfl | (simp; done) | (simp [*]; done)), (by first | rfl | (simp; done) | (simp [*]; done)), H', ⟨by have := HJ2.out; have := HK2.out; have := HK3.out; have := HK4.out; omega⟩, ⟨rq_ HO_5⟩, ⟨rq_ HO_6⟩, ⟨rq_ HO335⟩, ⟨bsw_⟩⟩
                         · rw [if_neg c51] at H
                           exact absurd H (by simp)
                       · rw [if_neg c50] at H
                         have c50b0 : decide (0 < (((rd_T26 l0 x38_3).f3).length : Int)) = false := decide_eq_false c50
                         have c50b1 : decide (0 < ((rd_T26 l0 x38_3).f3).length) = false := decide_eq_false (by omega)
                         clear c50
                         have H' := Aside0.mk H
                         clear H
                         have hcz54_0 : wr.cell? ⟨gb326, 0, none⟩ = some (.int .i64 ((rd_T26 l0 x38_3).f0)) := (blk_cell BK326.out 0).trans rfl
                         have hcz54_1 : wr.cell? ⟨gb326, 1, none⟩ = some (.int .i64 ((rd_T26 l0 x38_3).f1)) := (blk_cell BK326.out 1).trans rfl
                         have hcz54_2 : wr.cell? ⟨gb326, 2, none⟩ = some (.int .i64 ((rd_T26 l0 x38_3).f2)) := (blk_cell BK326.out 2).trans rfl
                         have hcz54_3 : wr.cell? ⟨gb326, 3, none⟩ = some (.slice A325_3 ((rd_T26 l0 x38_3).f3).length c325_3) := (blk_cell BK326.out 3).trans rfl
                         have hcz54_4 : wr.cell? ⟨gb326, 4, none⟩ = some (.slice A325_4 ((rd_T26 l0 x38_3).f4).length c325_4) := (blk_cell BK326.out 4).trans rfl
                         have hfz54_0 := blk_frozen BK326.out 0
                         have hfz54_1 := blk_frozen BK326.out 1
                         have hfz54_2 := blk_frozen BK326.out 2
                         have hfz54_3 := blk_frozen BK326.out 3
                         have hfz54_4 := blk_frozen BK326.out 4
                         go_wp2
                         repeat (go_quiet (fail); try go_wp2)
                         go_roundg k4
                         case measure => have := HJ2.out; have := HK2.out; have := HK3.out; have := HK4.out; omega
                         case rel => exact ⟨(x7_3), (x9_3), (wrap64 (x38_3 + 1)), (by first | rfl | (simp; done) | (simp [*]; done)), (by first | rfl | (simp; done) | (simp [*]; done)), H', ⟨by have := HJ2.out; have := HK2.out; have := HK3.out; have := HK4.out; omega⟩, ⟨rq_ HO_5⟩, ⟨rq_ HO_6⟩, ⟨rq_ HO_7⟩, ⟨bsw_⟩⟩
               · rw [if_neg c23] at H
                 exact absurd H (by simp)
             · rw [if_neg c22] at H
               exact absurd H (by simp)
           · rw [if_neg c21] at H
             have c21b0 : decide (x38_3 < (l0.length : Int)) = false := decide_eq_false c21
             clear c21
             by_cases c55 : x9_3 = (t319.length : Int)
             · rw [if_pos c55] at H
               have c55b0 : (x9_3 == (t319.length : Int)) = true := beq_iff_eq.mpr c55
               have c55b1 : (x9_3 != (t319.length : Int)) = false := bne_eq_false_iff_eq.mpr c55
               clear c55
               replace H := Option.bind_eq_some_iff.mp H
               obtain ⟨t336, A560, H⟩ := H
               have A56 := Aside0.mk A560
               clear A560
               replace H := Option.bind_eq_some_iff.mp H
               obtain ⟨t339, A570, H⟩ := H
               have A57 := Aside0.mk A570
               clear A570
               by_cases c58 : t339 = true
               · subst c58
                 rw [if_pos rfl] at H
                 replace H := Option.bind_eq_some_iff.mp H
                 obtain ⟨t340, A590, H⟩ := H
                 have A59 := Aside0.mk A590
                 clear A590
                 by_cases c60 : (t340.length : Int) = 0
                 · rw [if_pos c60] at H
                   have c60b0 : ((t340.length : Int) == 0) = true := beq_iff_eq.mpr c60
                   have c60b1 : ((t340.length : Int) != 0) = false := bne_eq_false_iff_eq.mpr c60
                   clear c60
                   replace H := Option.bind_eq_some_iff.mp H
                   obtain ⟨t343, A610, H⟩ := H
                   have A61 := Aside0.mk A610
                   clear A610
                   obtain rfl := Option.some.inj H
                   obtain ⟨Ao62, co62, eo62⟩ := Kd.R_slice HO_5.out
                   subst eo62
                   obtain ⟨Ao63, co63, eo63⟩ := Kd.R_slice HO_6.out
                   subst eo63
                   go_wp2_with (first | (go_at_call 29; (with_reducible refine (sleep_Of.calls k3 _ _ l0 _ _ x6_2 t336 _ ?side1 ?side2 ?side3 ?side4 A56.out).mono ?_); (case side1 => repeat (first | exact (Kd.C_below HR0.out HB.out) | with_reducible first | refine Kd.C_alloc ?_ _ | refine Kd.C_drewN ?_ _ | refine Kd.C_drew ?_)); (case side2 => exact HC0.out); (case side3 => repeat (first | exact (Kd.R_reads' HO_6.out).2.2 | with_reducible first | refine Kd.C_alloc ?_ _ | refine Kd.C_drewN ?_ _ | refine Kd.C_drew ?_)); (case side4 => exact (Kd.R_reads' HO_6.out).2.1); rintro e w64 ⟨v337, rfl, ho0, hb⟩; replace HO338 := Aside0.mk (Kd.R_lower (Kd.R_new' (Kd.R_new' (Kd.R_new' ho0 (Kd.R_lt (rq_ HO_5))) (Kd.R_lt (rq_ HO_6))) (Kd.R_lt (rq_ HO_7))) bsz_); replace HO_5 := Aside0.mk (Kd.R_elder' (rq_ HO_5) (Kd.R_base ho0) hb); replace HO_6 := Aside0.mk (Kd.R_elder' (rq_ HO_6) (Kd.R_base ho0) hb); replace HO_7 := Aside0.mk (Kd.R_elder' (rq_ HO_7) (Kd.R_base ho0) hb); replace HB := Aside0.mk (bst_ hb); (try clear hb); (try clear hb2); (try clear hk); (try clear hi); (try clear ho0); obtain ⟨Ao65, co65, eo65⟩ := Kd.R_slice HO338.out; subst eo65; obtain ⟨Ao66, co66, eo66⟩ := Kd.R_slice HO_7.out; subst eo66) | (go_at_call 28; (with_reducible refine (handshakerref03_Numbers.calls k3 _ _ t336 _ _ x7_3 true _ ?side1 ?side2 ?side3 ?side4 A57.out).mono ?_); (case side1 => repeat (first | exact (Kd.R_reads' HO338.out).2.2 | with_reducible first | refine Kd.C_alloc ?_ _ | refine Kd.C_drewN ?_ _ | refine Kd.C_drew ?_)); (case side2 => exact (Kd.R_reads' HO338.out).2.1); (case side3 => repeat (first | exact (Kd.R_reads' HO_7.out).2.2 | with_reducible first | refine Kd.C_alloc ?_ _ | refine Kd.C_drewN ?_ _ | refine Kd.C_drew ?_)); (case side4 => exact (Kd.R_reads' HO_7.out).2.1); rintro e w' ⟨rfl, ⟨nd, rfl⟩⟩; (try first | exact ⟨rfl, _, World.drewN_drewN _ _ _⟩ | exact ⟨rfl, _, Eq.trans (World.drewN_drewN _ _ _) (congrArg (World.drewN _) (Nat.add_assoc _ _ _))⟩)) | (go_at_call 29; refine calls_of_args (args' := #[.slice A0 l0.length c0, .slice none 0 0]) (by first | done | rfl) ?_; (refine (sleep_Of.calls k3 _ _ l0 _ _ ([] : List Int) t340 _ ?side1 ?side2 ?side3 ?side4 A59.out).mono ?_); (case side1 => repeat (first | exact (Kd.C_below HR0.out bsv_) | with_reducible first | refine Kd.C_alloc ?_ _ | refine Kd.C_drewN ?_ _ | refine Kd.C_drew ?_)); (case side2 => exact HC0.out); (case side3 => exact Kd.C_nil _ _); (case side4 => exact Nat.le_refl _); rintro e w67 ⟨v341, rfl, ho0, hb⟩; replace HO342 := Aside0.mk (Kd.R_lower (Kd.R_new' (Kd.R_new' (Kd.R_new' (Kd.R_new' ho0 (Kd.R_lt (rq_ HO_5))) (Kd.R_lt (rq_ HO_6))) (Kd.R_lt (rq_ HO_7))) (Kd.R_lt (rq_ HO338))) bsz_); replace HO_5 := Aside0.mk (Kd.R_elder' (rq_ HO_5) (Kd.R_base ho0) hb); replace HO_6 := Aside0.mk (Kd.R_elder' (rq_ HO_6) (Kd.R_base ho0) hb); replace HO_7 := Aside0.mk (Kd.R_elder' (rq_ HO_7) (Kd.R_base ho0) hb); replace HO338 := Aside0.mk (Kd.R_elder' (rq_ HO338) (Kd.R_base ho0) hb); replace HB := Aside0.mk (bst_ hb); (try clear hb); (try clear hb2); (try clear hk); (try clear hi); (try clear ho0); obtain ⟨Ao68, co68, eo68⟩ := Kd.R_slice HO342.out; subst eo68) | (go_at_call 15; (with_reducible refine (handshakerlaw15_awake.calls k3  t343 _ A61.out).mono ?_); rintro e w69 ⟨rfl, hb⟩; replace HO_5 := rb_ HO_5 hb; replace HO_6 := rb_ HO_6 hb; replace HO_7 := rb_ HO_7 hb; replace HO338 := rb_ HO338 hb; replace HO342 := rb_ HO342 hb; replace HB := Aside0.mk (bst_ hb); (try clear hb); (try clear hb2); (try clear hk); (try clear hi)))
                   repeat (go_quiet (first | (go_at_call 29; (with_reducible refine (sleep_Of.calls k3 _ _ l0 _ _ x6_2 t336 _ ?side1 ?side2 ?side3 ?side4 A56.out).mono ?_); (case side1 => repeat (first | exact (Kd.C_below HR0.out HB.out) | with_reducible first | refine Kd.C_alloc ?_ _ | refine Kd.C_drewN ?_ _ | refine Kd.C_drew ?_)); (case side2 => exact HC0.out); (case side3 => repeat (first | exact (Kd.R_reads' HO_6.out).2.2 | with_reducible first | refine Kd.C_alloc ?_ _ | refine Kd.C_drewN ?_ _ | refine Kd.C_drew ?_)); (case side4 => exact (Kd.R_reads' HO_6.out).2.1); rintro e w64 ⟨v337, rfl, ho0, hb⟩; replace HO338 := Aside0.mk (Kd.R_lower (Kd.R_new' (Kd.R_new' (Kd.R_new' ho0 (Kd.R_lt (rq_ HO_5))) (Kd.R_lt (rq_ HO_6))) (Kd.R_lt (rq_ HO_7))) bsz_); replace HO_5 := Aside0.mk (Kd.R_elder' (rq_ HO_5) (Kd.R_base ho0) hb); replace HO_6 := Aside0.mk (Kd.R_elder' (rq_ HO_6) (Kd.R_base ho0) hb); replace HO_7 := Aside0.mk (Kd.R_elder' (rq_ HO_7) (Kd.R_base ho0) hb); replace HB := Aside0.mk (bst_ hb); (try clear hb); (try clear hb2); (try clear hk); (try clear hi); (try clear ho0); obtain ⟨Ao65, co65, eo65⟩ := Kd.R_slice HO338.out; subst eo65; obtain ⟨Ao66, co66, eo66⟩ := Kd.R_slice HO_7.out; subst eo66) | (go_at_call 28; (with_reducible refine (handshakerref03_Numbers.calls k3 _ _ t336 _ _ x7_3 true _ ?side1 ?side2 ?side3 ?side4 A57.out).mono ?_); (case side1 => repeat (first | exact (Kd.R_reads' HO338.out).2.2 | with_reducible first | refine Kd.C_alloc ?_ _ | refine Kd.C_drewN ?_ _ | refine Kd.C_drew ?_)); (case side2 => exact (Kd.R_reads' HO338.out).2.1); (case side3 => repeat (first | exact (Kd.R_reads' HO_7.out).2.2 | with_reducible first | refine Kd.C_alloc ?_ _ | refine Kd.C_drewN ?_ _ | refine Kd.C_drew ?_)); (case side4 => exact (Kd.R_reads' HO_7.out).2.1); rintro e w' ⟨rfl, ⟨nd, rfl⟩⟩; (try first | exact ⟨rfl, _, World.drewN_drewN _ _ _⟩ | exact ⟨rfl, _, Eq.trans (World.drewN_drewN _ _ _) (congrArg (World.drewN _) (Nat.add_assoc _ _ _))⟩)) | (go_at_call 29; refine calls_of_args (args' := #[.slice A0 l0.length c0, .slice none 0 0]) (by first | done | rfl) ?_; (refine (sleep_Of.calls k3 _ _ l0 _ _ ([] : List Int) t340 _ ?side1 ?side2 ?side3 ?side4 A59.out).mono ?_); (case side1 => repeat (first | exact (Kd.C_below HR0.out bsv_) | with_reducible first | refine Kd.C_alloc ?_ _ | refine Kd.C_drewN ?_ _ | refine Kd.C_drew ?_)); (case side2 => exact HC0.out); (case side3 => exact Kd.C_nil _ _); (case side4 => exact Nat.le_refl _); rintro e w67 ⟨v341, rfl, ho0, hb⟩; replace HO342 := Aside0.mk (Kd.R_lower (Kd.R_new' (Kd.R_new' (Kd.R_new' (Kd.R_new' ho0 (Kd.R_lt (rq_ HO_5))) (Kd.R_lt (rq_ HO_6))) (Kd.R_lt (rq_ HO_7))) (Kd.R_lt (rq_ HO338))) bsz_); replace HO_5 := Aside0.mk (Kd.R_elder' (rq_ HO_5) (Kd.R_base ho0) hb); replace HO_6 := Aside0.mk (Kd.R_elder' (rq_ HO_6) (Kd.R_base ho0) hb); replace HO_7 := Aside0.mk (Kd.R_elder' (rq_ HO_7) (Kd.R_base ho0) hb); replace HO338 := Aside0.mk (Kd.R_elder' (rq_ HO338) (Kd.R_base ho0) hb); replace HB := Aside0.mk (bst_ hb); (try clear hb); (try clear hb2); (try clear hk); (try clear hi); (try clear ho0); obtain ⟨Ao68, co68, eo68⟩ := Kd.R_slice HO342.out; subst eo68) | (go_at_call 15; (with_reducible refine (handshakerlaw15_awake.calls k3  t343 _ A61.out).mono ?_); rintro e w69 ⟨rfl, hb⟩; replace HO_5 := rb_ HO_5 hb; replace HO_6 := rb_ HO_6 hb; replace HO_7 := rb_ HO_7 hb; replace HO338 := rb_ HO338 hb; replace HO342 := rb_ HO342 hb; replace HB := Aside0.mk (bst_ hb); (try clear hb); (try clear hb2); (try clear hk); (try clear hi))); try go_wp2_with (first | (go_at_call 29; (with_reducible refine (sleep_Of.calls k3 _ _ l0 _ _ x6_2 t336 _ ?side1 ?side2 ?side3 ?side4 A56.out).mono ?_); (case side1 => repeat (first | exact (Kd.C_below HR0.out HB.out) | with_reducible first | refine Kd.C_alloc ?_ _ | refine Kd.C_drewN ?_ _ | refine Kd.C_drew ?_)); (case side2 => exact HC0.out); (case side3 => repeat (first | exact (Kd.R_reads' HO_6.out).2.2 | with_reducible first | refine Kd.C_alloc ?_ _ | refine Kd.C_drewN ?_ _ | refine Kd.C_drew ?_)); (case side4 => exact (Kd.R_reads' HO_6.out).2.1); rintro e w64 ⟨v337, rfl, ho0, hb⟩; replace HO338 := Aside0.mk (Kd.R_lower (Kd.R_new' (Kd.R_new' (Kd.R_new' ho0 (Kd.R_lt (rq_ HO_5))) (Kd.R_lt (rq_ HO_6))) (Kd.R_lt (rq_ HO_7))) bsz_); replace HO_5 := Aside0.mk (Kd.R_elder' (rq_ HO_5) (Kd.R_base ho0) hb); replace HO_6 := Aside0.mk (Kd.R_elder' (rq_ HO_6) (Kd.R_base ho0) hb); replace HO_7 := Aside0.mk (Kd.R_elder' (rq_ HO_7) (Kd.R_base ho0) hb); replace HB := Aside0.mk (bst_ hb); (try clear hb); (try clear hb2); (try clear hk); (try clear hi); (try clear ho0); obtain ⟨Ao65, co65, eo65⟩ := Kd.R_slice HO338.out; subst eo65; obtain ⟨Ao66, co66, eo66⟩ := Kd.R_slice HO_7.out; subst eo66) | (go_at_call 28; (with_reducible refine (handshakerref03_Numbers.calls k3 _ _ t336 _ _ x7_3 true _ ?side1 ?side2 ?side3 ?side4 A57.out).mono ?_); (case side1 => repeat (first | exact (Kd.R_reads' HO338.out).2.2 | with_reducible first | refine Kd.C_alloc ?_ _ | refine Kd.C_drewN ?_ _ | refine Kd.C_drew ?_)); (case side2 => exact (Kd.R_reads' HO338.out).2.1); (case side3 => repeat (first | exact (Kd.R_reads' HO_7.out).2.2 | with_reducible first | refine Kd.C_alloc ?_ _ | refine Kd.C_drewN ?_ _ | refine Kd.C_drew ?_)); (case side4 => exact (Kd.R_reads' HO_7.out).2.1); rintro e w' ⟨rfl, ⟨nd, rfl⟩⟩; (try first | exact ⟨rfl, _, World.drewN_drewN _ _ _⟩ | exact ⟨rfl, _, Eq.trans (World.drewN_drewN _ _ _) (congrArg (World.drewN _) (Nat.add_assoc _ _ _))⟩)) | (go_at_call 29; refine calls_of_args (args' := #[.slice A0 l0.length c0, .slice none 0 0]) (by first | done | rfl) ?_; (refine (sleep_Of.calls k3 _ _ l0 _ _ ([] : List Int) t340 _ ?side1 ?side2 ?side3 ?side4 A59.out).mono ?_); (case side1 => repeat (first | exact (Kd.C_below HR0.out bsv_) | with_reducible first | refine Kd.C_alloc ?_ _ | refine Kd.C_drewN ?_ _ | refine Kd.C_drew ?_)); (case side2 => exact HC0.out); (case side3 => exact Kd.C_nil _ _); (case side4 => exact Nat.le_refl _); rintro e w67 ⟨v341, rfl, ho0, hb⟩; replace HO342 := Aside0.mk (Kd.R_lower (Kd.R_new' (Kd.R_new' (Kd.R_new' (Kd.R_new' ho0 (Kd.R_lt (rq_ HO_5))) (Kd.R_lt (rq_ HO_6))) (Kd.R_lt (rq_ HO_7))) (Kd.R_lt (rq_ HO338))) bsz_); replace HO_5 := Aside0.mk (Kd.R_elder' (rq_ HO_5) (Kd.R_base ho0) hb); replace HO_6 := Aside0.mk (Kd.R_elder' (rq_ HO_6) (Kd.R_base ho0) hb); replace HO_7 := Aside0.mk (Kd.R_elder' (rq_ HO_7) (Kd.R_base ho0) hb); replace HO338 := Aside0.mk (Kd.R_elder' (rq_ HO338) (Kd.R_base ho0) hb); replace HB := Aside0.mk (bst_ hb); (try clear hb); (try clear hb2); (try clear hk); (try clear hi); (try clear ho0); obtain ⟨Ao68, co68, eo68⟩ := Kd.R_slice HO342.out; subst eo68) | (go_at_call 15; (with_reducible refine (handshakerlaw15_awake.calls k3  t343 _ A61.out).mono ?_); rintro e w69 ⟨rfl, hb⟩; replace HO_5 := rb_ HO_5 hb; replace HO_6 := rb_ HO_6 hb; replace HO_7 := rb_ HO_7 hb; replace HO338 := rb_ HO338 hb; replace HO342 := rb_ HO342 hb; replace HB := Aside0.mk (bst_ hb); (try clear hb); (try clear hb2); (try clear hk); (try clear hi))))
                   go_ret
                   exact ⟨by first | rfl | (simp [errW_none, errW_some] <;> rfl) | (simp [*, errW_none, errW_some] <;> rfl), bsv_⟩
                 · rw [if_neg c60] at H
                   have c60b0 : ((t340.length : Int) == 0) = false := beq_eq_false_iff_ne.mpr c60
                   have c60b1 : ((t340.length : Int) != 0) = true := bne_iff_ne.mpr c60
                   have c60b2 : ¬ (t340 = []) := fun h_ => c60 (by rw [h_]; rfl)
                   exact absurd (Option.some.inj H) (by rw [HT.out]; decide)
               · replace c58 := Bool.eq_false_iff.mpr c58
                 subst c58
                 rw [if_neg (show ¬ (false = true) by decide)] at H
                 exact absurd (Option.some.inj H) (by rw [HT.out]; decide)
             · rw [if_neg c55] at H
               have c55b0 : (x9_3 == (t319.length : Int)) = false := beq_eq_false_iff_ne.mpr c55
               have c55b1 : (x9_3 != (t319.length : Int)) = true := bne_iff_ne.mpr c55
               exact absurd (Option.some.inj H) (by rw [HT.out]; decide)

/-- THE ONE PURE STATEMENT of handshakerlaw15_SleepCells. -/
def handshakerlaw15_SleepCells.Pure : Prop := ∀ (l0 : List (S26)) (a1 : Int), l0.length ≤ maxLen → l0.length * 72 ≤ 140737488351232 → (∀ y ∈ l0, wfS26 y) → (Lit.int .i64 a1).wf = true → ∃ k, handshakerlaw15_SleepCells.f k l0 a1 = some true

end Go.Proofs.Ytjnkpocfmpbpoaa.Sc
