-- PRINTED by print.py (a twelfth state) out of the translation. Not trusted: Lean checks it.
import Derived.Test.YtjnkpocfmpbpoaaSex0
import Derived.Test.YtjnkpocfmpbpoaaSex2
import Derived.Test.YtjnkpocfmpbpoaaSex5
namespace Go.Proofs.Ytjnkpocfmpbpoaa.Se
open Go.Proofs.Ytjnkpocfmpbpoaa.Ho
open Go.RowKit Go.Proofs.YtjnkpocfmpbpoaaW.PrintWords Go.Proofs.YtjnkpocfmpbpoaaW.PrintLast Go.Proofs.YtjnkpocfmpbpoaaW.PrintMore
attribute [local go_sem] max2_int min2_int max_two min_two max_three min_three max_four min_four   -- for this text's walks alone
set_option linter.unusedVariables false
set_option linter.unusedSimpArgs false

/-! ### handshakerref03_Numbers: function 28 -/
def handshakerref03_Numbers.l0 : Nat → List Int → List Int → Int → Option (Bool)
 | 0, _, _, _ => none
 | k + 1, x0, x1, x5 => if x5 < (x0.length : Int) then (if 0 ≤ x5 then (if x5 < (x1.length : Int) then (if (rd x0 x5) = (rd x1 x5) then (handshakerref03_Numbers.l0 k x0 x1 (wrap64 (x5 + 1))) else (some false)) else (none)) else (none)) else (some true)
def handshakerref03_Numbers.f (k : Nat) (l0 : List Int) (l1 : List Int) : Option (Bool) := if (l0.length : Int) = (l1.length : Int) then (handshakerref03_Numbers.l0 k l0 l1 0) else (some false)
theorem handshakerref03_Numbers.mono_l : ∀ k, (∀ y0 y1 y2, LeO (handshakerref03_Numbers.l0 k y0 y1 y2) (handshakerref03_Numbers.l0 (k + 1) y0 y1 y2))
 | 0 => fun _ _ _ r h => by simp [handshakerref03_Numbers.l0] at h
 | k + 1 => by
  have ih0 := handshakerref03_Numbers.mono_l k
  · intro y0 y1 y2
    unfold handshakerref03_Numbers.l0
    repeat' first
    | (with_reducible exact ih0 _ _ _)
    | (with_reducible exact LeO.refl _)
    | (with_reducible exact LeO.none _)
    | (with_reducible refine LeO.ite ?_ ?_)
    | (with_reducible refine LeO.bind ?_ (fun _ => ?_))
    | exact ih0 _ _ _
    | exact LeO.none _
    | refine LeO.ite ?_ ?_
    | refine LeO.bind ?_ (fun _ => ?_)
theorem handshakerref03_Numbers.mono : ∀ a0 a1 k, LeO (handshakerref03_Numbers.f k a0 a1) (handshakerref03_Numbers.f (k + 1) a0 a1) := by
 intro a0 a1 k
 have ih0 := handshakerref03_Numbers.mono_l k
 unfold handshakerref03_Numbers.f
 repeat' first
  | (with_reducible exact ih0 _ _ _)
  | (with_reducible exact LeO.refl _)
  | (with_reducible exact LeO.none _)
  | (with_reducible refine LeO.ite ?_ ?_)
  | (with_reducible refine LeO.bind ?_ (fun _ => ?_))
  | exact ih0 _ _ _
  | exact LeO.none _
  | refine LeO.ite ?_ ?_
  | refine LeO.bind ?_ (fun _ => ?_)
set_option maxHeartbeats 8000000 in
set_option maxRecDepth 100000 in
theorem handshakerref03_Numbers.calls (k : Nat) (A0 : Option Addr) (c0 : Nat) (l0 : List Int) (A1 : Option Addr) (c1 : Nat) (l1 : List Int) (r : Bool) (w : World) (hr0 : Kd.C (Kd.int .i64) w A0 l0.length l0) (hc0 : l0.length ≤ c0) (hr1 : Kd.C (Kd.int .i64) w A1 l1.length l1) (hc1 : l1.length ≤ c1) (h : handshakerref03_Numbers.f k l0 l1 = some r) :
 Calls Try.prog 28 #[.slice A0 l0.length c0, .slice A1 l1.length c1] w fun e w' => e = .returned (.bool r) ∧ Drawn0 w w' := by
 have HR0 := Aside0.mk hr0
 have HC0 := Aside0.mk hc0
 clear hr0 hc0
 have HR1 := Aside0.mk hr1
 have HC1 := Aside0.mk hc1
 clear hr1 hc1
 have H : (if (l0.length : Int) = (l1.length : Int) then (handshakerref03_Numbers.l0 k l0 l1 0) else (some false)) = some r := h
 clear h
 by_cases c3 : (l0.length : Int) = (l1.length : Int)
 · rw [if_pos c3] at H
   have c3b0 : ((l0.length : Int) == (l1.length : Int)) = true := beq_iff_eq.mpr c3
   have c3b1 : ((l0.length : Int) != (l1.length : Int)) = false := bne_eq_false_iff_eq.mpr c3
   have c3b2 : (l0.length == l1.length) = true := by first | simpa using c3 | (simp at c3 ⊢; omega)
   clear c3
   have H' := Aside0.mk H
   clear H
   go_enter Try.func28, Try.ntmps28
   go_wp2
   repeat (go_quiet (fail); try go_wp2)
   go_loopg [5] k (fun kq v5 w' => ∃ (x5_1 : Int), v5 = .int .i64 x5_1 ∧ Aside0 (handshakerref03_Numbers.l0 kq l0 l1 x5_1 = some r) ∧ Aside0 (kq ≤ k) ∧ Drawn0 w w')
   case atStart => exact ⟨(0), (by first | rfl | (simp; done) | (simp [*]; done)), H', ⟨Nat.le_refl _⟩, by repeat (first | exact Drawn0.refl _ | apply Drawn0.step)⟩
   case round =>
    clear H'
    try clear c1
    try clear c2
    try clear p2
    try clear c3
    try clear c3b0
    try clear c3b1
    try clear c3b2
    obtain ⟨x5_1, rfl, HA, HK1, ⟨m1, rfl⟩⟩ := hrel
    cases gk with
    | zero => exact absurd HA.out (by simp [handshakerref03_Numbers.l0])
    | succ k1 =>
     have H := HA.out
     clear HA
     simp only [handshakerref03_Numbers.l0] at H
     by_cases c4 : x5_1 < (l0.length : Int)
     · rw [if_pos c4] at H
       have c4b0 : decide (x5_1 < (l0.length : Int)) = true := decide_eq_true c4
       clear c4
       by_cases c5 : 0 ≤ x5_1
       · rw [if_pos c5] at H
         have c5b0 : decide (0 ≤ x5_1) = true := decide_eq_true c5
         clear c5
         by_cases c6 : x5_1 < (l1.length : Int)
         · rw [if_pos c6] at H
           have c6b0 : decide (x5_1 < (l1.length : Int)) = true := decide_eq_true c6
           clear c6
           by_cases c7 : (rd l0 x5_1) = (rd l1 x5_1)
           · rw [if_pos c7] at H
             have c7b0 : ((rd l0 x5_1) == (rd l1 x5_1)) = true := beq_iff_eq.mpr c7
             have c7b1 : ((rd l0 x5_1) != (rd l1 x5_1)) = false := bne_eq_false_iff_eq.mpr c7
             clear c7
             have H' := Aside0.mk H
             clear H
             have p198 : 0 ≤ (x5_1 : Int) := oda_
             have q198 : x5_1 < (l0.length : Int) := oda_
             obtain ⟨ad198, e198, hx198_0⟩ := Kd.at_int HR0.out x5_1 p198 q198
             cases e198
             replace p198 := eq_true p198
             replace q198 := eq_true q198
             have p199 : 0 ≤ (x5_1 : Int) := oda_
             have q199 : x5_1 < (l1.length : Int) := oda_
             obtain ⟨ad199, e199, hx199_0⟩ := Kd.at_int HR1.out x5_1 p199 q199
             cases e199
             replace p199 := eq_true p199
             replace q199 := eq_true q199
             go_wp2
             repeat (go_quiet (fail); try go_wp2)
             go_roundg k1
             case measure => have := HK1.out; omega
             case rel => exact ⟨(wrap64 (x5_1 + 1)), (by first | rfl | (simp; done) | (simp [*]; done)), H', ⟨by have := HK1.out; omega⟩, by repeat (first | exact Drawn0.refl _ | apply Drawn0.step)⟩
           · rw [if_neg c7] at H
             have c7b0 : ((rd l0 x5_1) == (rd l1 x5_1)) = false := beq_eq_false_iff_ne.mpr c7
             have c7b1 : ((rd l0 x5_1) != (rd l1 x5_1)) = true := bne_iff_ne.mpr c7
             obtain rfl := Option.some.inj H
             have p198 : 0 ≤ (x5_1 : Int) := oda_
             have q198 : x5_1 < (l0.length : Int) := oda_
             obtain ⟨ad198, e198, hx198_0⟩ := Kd.at_int HR0.out x5_1 p198 q198
             cases e198
             replace p198 := eq_true p198
             replace q198 := eq_true q198
             have p199 : 0 ≤ (x5_1 : Int) := oda_
             have q199 : x5_1 < (l1.length : Int) := oda_
             obtain ⟨ad199, e199, hx199_0⟩ := Kd.at_int HR1.out x5_1 p199 q199
             cases e199
             replace p199 := eq_true p199
             replace q199 := eq_true q199
             go_wp2
             repeat (go_quiet (fail); try go_wp2)
             go_ret
             exact ⟨by first | rfl | (simp; done) | (simp [*]; done), by repeat (first | exact Drawn0.refl _ | apply Drawn0.step)⟩
         · rw [if_neg c6] at H
           exact absurd H (by simp)
       · rw [if_neg c5] at H
         exact absurd H (by simp)
     · rw [if_neg c4] at H
       have c4b0 : decide (x5_1 < (l0.length : Int)) = false := decide_eq_false c4
       clear c4
       obtain rfl := Option.some.inj H
       go_wp2
       repeat (go_quiet (fail); try go_wp2)
       go_ret
       exact ⟨by first | rfl | (simp; done) | (simp [*]; done), by repeat (first | exact Drawn0.refl _ | apply Drawn0.step)⟩
 · rw [if_neg c3] at H
   have c3b0 : ((l0.length : Int) == (l1.length : Int)) = false := beq_eq_false_iff_ne.mpr c3
   have c3b1 : ((l0.length : Int) != (l1.length : Int)) = true := bne_iff_ne.mpr c3
   have c3b2 : (l0.length == l1.length) = false := by first | simpa using c3 | (simp at c3 ⊢; omega)
   obtain rfl := Option.some.inj H
   go_enter Try.func28, Try.ntmps28
   go_wp2
   repeat (go_quiet (fail); try go_wp2)
   go_ret
   exact ⟨by first | rfl | (simp; done) | (simp [*]; done), by repeat (first | exact Drawn0.refl _ | apply Drawn0.step)⟩

-- NOT PRINTED: function 82 (slices_IndexFunc_82)

-- NOT PRINTED: function 49 (slices_ContainsFunc_49)

/-! ### slices_Index: function 83 -/
def slices_Index.l0 : Nat → List Int → Int → Int → Int → Option (Int)
 | 0, _, _, _, _ => none
 | k + 1, x0, x1, x7, x8 => if x8 < x7 then (if 0 ≤ x8 then (if x8 < (x0.length : Int) then (if x1 = (rd x0 x8) then (some x8) else (slices_Index.l0 k x0 x1 x7 (wrap64 (x8 + 1)))) else (none)) else (none)) else (some (-1))
def slices_Index.f (k : Nat) (l0 : List Int) (a1 : Int) : Option (Int) := slices_Index.l0 k l0 a1 (l0.length : Int) 0
theorem slices_Index.mono_l : ∀ k, (∀ y0 y1 y2 y3, LeO (slices_Index.l0 k y0 y1 y2 y3) (slices_Index.l0 (k + 1) y0 y1 y2 y3))
 | 0 => fun _ _ _ _ r h => by simp [slices_Index.l0] at h
 | k + 1 => by
  have ih0 := slices_Index.mono_l k
  · intro y0 y1 y2 y3
    unfold slices_Index.l0
    repeat' first
    | (with_reducible exact ih0 _ _ _ _)
    | (with_reducible exact LeO.refl _)
    | (with_reducible exact LeO.none _)
    | (with_reducible refine LeO.ite ?_ ?_)
    | (with_reducible refine LeO.bind ?_ (fun _ => ?_))
    | exact ih0 _ _ _ _
    | exact LeO.none _
    | refine LeO.ite ?_ ?_
    | refine LeO.bind ?_ (fun _ => ?_)
theorem slices_Index.mono : ∀ a0 a1 k, LeO (slices_Index.f k a0 a1) (slices_Index.f (k + 1) a0 a1) := by
 intro a0 a1 k
 have ih0 := slices_Index.mono_l k
 unfold slices_Index.f
 repeat' first
  | (with_reducible exact ih0 _ _ _ _)
  | (with_reducible exact LeO.refl _)
  | (with_reducible exact LeO.none _)
  | (with_reducible refine LeO.ite ?_ ?_)
  | (with_reducible refine LeO.bind ?_ (fun _ => ?_))
  | exact ih0 _ _ _ _
  | exact LeO.none _
  | refine LeO.ite ?_ ?_
  | refine LeO.bind ?_ (fun _ => ?_)
set_option maxHeartbeats 8000000 in
set_option maxRecDepth 100000 in
theorem slices_Index.calls (k : Nat) (A0 : Option Addr) (c0 : Nat) (l0 : List Int) (a1 : Int) (r : Int) (w : World) (hr0 : Kd.C (Kd.int .i64) w A0 l0.length l0) (hc0 : l0.length ≤ c0) (h : slices_Index.f k l0 a1 = some r) :
 Calls Try.prog 83 #[.slice A0 l0.length c0, .int .i64 a1] w fun e w' => e = .returned (.int .i64 r) ∧ Drawn0 w w' := by
 have HR0 := Aside0.mk hr0
 have HC0 := Aside0.mk hc0
 clear hr0 hc0
 have H : (slices_Index.l0 k l0 a1 (l0.length : Int) 0) = some r := h
 clear h
 have H' := Aside0.mk H
 clear H
 go_enter Try.func83, Try.ntmps83
 go_wp2
 go_loopg [8] k (fun kq v8 w' => ∃ (x8_1 : Int), v8 = .int .i64 x8_1 ∧ Aside0 (slices_Index.l0 kq l0 a1 (l0.length : Int) x8_1 = some r) ∧ Aside0 (kq ≤ k) ∧ Drawn0 w w')
 case atStart => exact ⟨(0), (by first | rfl | (simp; done) | (simp [*]; done)), H', ⟨Nat.le_refl _⟩, by repeat (first | exact Drawn0.refl _ | apply Drawn0.step)⟩
 case round =>
  clear H'
  try clear p2
  obtain ⟨x8_1, rfl, HA, HK1, ⟨m1, rfl⟩⟩ := hrel
  cases gk with
  | zero => exact absurd HA.out (by simp [slices_Index.l0])
  | succ k1 =>
   have H := HA.out
   clear HA
   simp only [slices_Index.l0] at H
   by_cases c3 : x8_1 < (l0.length : Int)
   · rw [if_pos c3] at H
     have c3b0 : decide (x8_1 < (l0.length : Int)) = true := decide_eq_true c3
     clear c3
     by_cases c4 : 0 ≤ x8_1
     · rw [if_pos c4] at H
       have c4b0 : decide (0 ≤ x8_1) = true := decide_eq_true c4
       clear c4
       by_cases c5 : x8_1 < (l0.length : Int)
       · rw [if_pos c5] at H
         have c5b0 : decide (x8_1 < (l0.length : Int)) = true := decide_eq_true c5
         clear c5
         by_cases c6 : a1 = (rd l0 x8_1)
         · rw [if_pos c6] at H
           have c6b0 : (a1 == (rd l0 x8_1)) = true := beq_iff_eq.mpr c6
           have c6b1 : (a1 != (rd l0 x8_1)) = false := bne_eq_false_iff_eq.mpr c6
           clear c6
           obtain rfl := Option.some.inj H
           have p200 : 0 ≤ (x8_1 : Int) := oda_
           have q200 : x8_1 < (l0.length : Int) := oda_
           obtain ⟨ad200, e200, hx200_0⟩ := Kd.at_int HR0.out x8_1 p200 q200
           cases e200
           replace p200 := eq_true p200
           replace q200 := eq_true q200
           go_wp2
           go_ret
           exact ⟨by first | rfl | (simp; done) | (simp [*]; done), by repeat (first | exact Drawn0.refl _ | apply Drawn0.step)⟩
         · rw [if_neg c6] at H
           have c6b0 : (a1 == (rd l0 x8_1)) = false := beq_eq_false_iff_ne.mpr c6
           have c6b1 : (a1 != (rd l0 x8_1)) = true := bne_iff_ne.mpr c6
           have H' := Aside0.mk H
           clear H
           have p200 : 0 ≤ (x8_1 : Int) := oda_
           have q200 : x8_1 < (l0.length : Int) := oda_
           obtain ⟨ad200, e200, hx200_0⟩ := Kd.at_int HR0.out x8_1 p200 q200
           cases e200
           replace p200 := eq_true p200
           replace q200 := eq_true q200
           go_wp2
           go_roundg k1
           case measure => have := HK1.out; omega
           case rel => exact ⟨(wrap64 (x8_1 + 1)), (by first | rfl | (simp; done) | (simp [*]; done)), H', ⟨by have := HK1.out; omega⟩, by repeat (first | exact Drawn0.refl _ | apply Drawn0.step)⟩
       · rw [if_neg c5] at H
         exact absurd H (by simp)
     · rw [if_neg c4] at H
       exact absurd H (by simp)
   · rw [if_neg c3] at H
     have c3b0 : decide (x8_1 < (l0.length : Int)) = false := decide_eq_false c3
     clear c3
     obtain rfl := Option.some.inj H
     go_wp2
     go_ret
     exact ⟨by first | rfl | (simp; done) | (simp [*]; done), by repeat (first | exact Drawn0.refl _ | apply Drawn0.step)⟩

/-! ### slices_Contains: function 52 -/
def slices_Contains.f (k : Nat) (l0 : List Int) (a1 : Int) : Option (Bool) := (slices_Index.f k l0 a1).bind fun t201 => (some (decide (t201 ≥ 0)))
theorem slices_Contains.mono : ∀ a0 a1 k, LeO (slices_Contains.f k a0 a1) (slices_Contains.f (k + 1) a0 a1) := by
 intro a0 a1 k
 unfold slices_Contains.f
 repeat' first
  | (with_reducible exact slices_Index.mono _ _ _)
  | (with_reducible exact LeO.refl _)
  | (with_reducible exact LeO.none _)
  | (with_reducible refine LeO.ite ?_ ?_)
  | (with_reducible refine LeO.bind ?_ (fun _ => ?_))
  | exact slices_Index.mono _ _ _
  | exact LeO.none _
  | refine LeO.ite ?_ ?_
  | refine LeO.bind ?_ (fun _ => ?_)
set_option maxHeartbeats 8000000 in
set_option maxRecDepth 100000 in
theorem slices_Contains.calls (k : Nat) (A0 : Option Addr) (c0 : Nat) (l0 : List Int) (a1 : Int) (r : Bool) (w : World) (hr0 : Kd.C (Kd.int .i64) w A0 l0.length l0) (hc0 : l0.length ≤ c0) (h : slices_Contains.f k l0 a1 = some r) :
 Calls Try.prog 52 #[.slice A0 l0.length c0, .int .i64 a1] w fun e w' => e = .returned (.bool r) ∧ Drawn0 w w' := by
 have HR0 := Aside0.mk hr0
 have HC0 := Aside0.mk hc0
 clear hr0 hc0
 have H : ((slices_Index.f k l0 a1).bind fun t201 => (some (decide (t201 ≥ 0)))) = some r := h
 clear h
 replace H := Option.bind_eq_some_iff.mp H
 obtain ⟨t201, A30, H⟩ := H
 have A3 := Aside0.mk A30
 clear A30
 obtain rfl := Option.some.inj H
 go_enter Try.func52, Try.ntmps52
 go_wp2_with (first | ((with_reducible refine gate_callee (f := 83) rfl ?_); refine goesL_ (some 7) rfl rfl Try.func83 (by kernel_rfl) rfl #[.slice A0 l0.length c0, .int .i64 a1] rfl mp_ ?_; (with_reducible refine (slices_Index.calls k _ _ l0 a1 t201 _ ?side1 ?side2 A3.out).mono ?_); (case side1 => repeat (first | exact HR0.out | with_reducible first | refine Kd.C_alloc ?_ _ | refine Kd.C_drewN ?_ _ | refine Kd.C_drew ?_)); (case side2 => exact HC0.out); rintro e w' ⟨rfl, ⟨nd, rfl⟩⟩; refine ⟨_, rfl, ?_⟩))
 go_ret
 exact ⟨by first | rfl | (simp; done) | (simp [*]; done), by repeat (first | exact Drawn0.refl _ | apply Drawn0.step)⟩

/-! ### sleep_Of_1: function 51 -/
def sleep_Of_1.f (k : Nat) (a0 : Int) (l1 : List Int) : Option (Bool) := (slices_Contains.f k l1 a0).bind fun t202 => (some t202)
theorem sleep_Of_1.mono : ∀ a0 a1 k, LeO (sleep_Of_1.f k a0 a1) (sleep_Of_1.f (k + 1) a0 a1) := by
 intro a0 a1 k
 unfold sleep_Of_1.f
 repeat' first
  | (with_reducible exact slices_Contains.mono _ _ _)
  | (with_reducible exact LeO.refl _)
  | (with_reducible exact LeO.none _)
  | (with_reducible refine LeO.ite ?_ ?_)
  | (with_reducible refine LeO.bind ?_ (fun _ => ?_))
  | exact slices_Contains.mono _ _ _
  | exact LeO.none _
  | refine LeO.ite ?_ ?_
  | refine LeO.bind ?_ (fun _ => ?_)
set_option maxHeartbeats 8000000 in
set_option maxRecDepth 100000 in
theorem sleep_Of_1.calls (k : Nat) (a0 : Int) (g1 : Nat) (A1 : Option Addr) (c1 : Nat) (l1 : List Int) (r : Bool) (w : World) (hr1 : Kd.C (Kd.int .i64) w A1 l1.length l1) (hc1 : l1.length ≤ c1) (hb1 : w.heap[g1]? = some (.cells #[.slice A1 l1.length c1] 27 (0, 0))) (h : sleep_Of_1.f k a0 l1 = some r) :
 Calls Try.prog 51 #[.int .i64 a0, .pointer (some ⟨g1, 0, none⟩)] w fun e w' => e = .returned (.bool r) ∧ Drawn0 w w' := by
 have HR1 := Aside0.mk hr1
 have HC1 := Aside0.mk hc1
 clear hr1 hc1
 have BK1 := Aside0.mk hb1
 clear hb1
 have H : ((slices_Contains.f k l1 a0).bind fun t202 => (some t202)) = some r := h
 clear h
 replace H := Option.bind_eq_some_iff.mp H
 obtain ⟨t202, A30, H⟩ := H
 have A3 := Aside0.mk A30
 clear A30
 obtain rfl := Option.some.inj H
 have hcz4_0 : w.cell? ⟨g1, 0, none⟩ = some (.slice A1 l1.length c1) := (blk_cell BK1.out 0).trans rfl
 have hfz4_0 := blk_frozen BK1.out 0
 go_enter Try.func51, Try.ntmps51
 go_wp2_with (first | ((with_reducible refine gate_callee (f := 52) rfl ?_); refine goesL_ (some 6) rfl rfl Try.func52 (by kernel_rfl) rfl #[.slice A1 l1.length c1, .int .i64 a0] rfl mp_ ?_; (with_reducible refine (slices_Contains.calls k _ _ l1 a0 t202 _ ?side1 ?side2 A3.out).mono ?_); (case side1 => repeat (first | exact HR1.out | with_reducible first | refine Kd.C_alloc ?_ _ | refine Kd.C_drewN ?_ _ | refine Kd.C_drew ?_)); (case side2 => exact HC1.out); rintro e w' ⟨rfl, ⟨nd, rfl⟩⟩; refine ⟨_, rfl, ?_⟩))
 go_ret
 exact ⟨by first | rfl | (simp; done) | (simp [*]; done), by repeat (first | exact Drawn0.refl _ | apply Drawn0.step)⟩

/-! ### ho82: slices.IndexFunc, function 82, at whatever function value that reads -/
set_option maxHeartbeats 2000000 in
theorem ho82 (p : Int → Option Bool) (g : Nat) (la lb : Array Value) (eg : ∀ args w, (callFunc g args).run Try.prog w = .ok (.enter g args) w) (A0 : Option Addr) (c0 : Nat) (l0 : List Int) (r : Int) (w : World)
 (hr0 : Kd.C (Kd.int .i64) w A0 l0.length l0)
 (hp : ∀ (W : World) (x : Int) (b : Bool), Below w.heap.size w W → p x = some b → Calls Try.prog g (la ++ #[.int .i64 x] ++ lb) W fun e W' => e = .returned (.bool b) ∧ Below W.heap.size W W')
 (h : idxF p l0 0 = some r) :
 Calls Try.prog 82 #[.slice A0 l0.length c0, .func (.func g) la lb] w fun e w' => e = .returned (.int .i64 r) ∧ Below w.heap.size w w' := by
 have hmax : l0.length ≤ 9223372036854775807 := Kd.C_max hr0
 have hread : ∀ (W : World), Below w.heap.size w W → ∀ j : Nat, j < l0.length → ∃ ad, A0 = some ad ∧ W.cell? (ad.add j) = some (.int .i64 (rd l0 j)) := by
  intro W hW j hj
  have := Kd.at_int (Kd.C_below hr0 hW) (j : Int) (by omega) (by omega)
  simpa only [Int.toNat_natCast] using this
 generalize hn : l0.length = n at *
 have HR := Aside0.mk hread
 have HP := Aside0.mk hp
 have HH := Aside0.mk h
 clear hread hp h hr0
 have HN := Aside0.mk hn
 clear hn
 go_enter Try.func82, Try.ntmps82
 go_wp2
 go_loopg [5, 8] n (fun gg _ s8 wr => ∃ kk : Nat, kk ≤ n ∧ n - kk ≤ gg ∧ s8 = .int .i64 kk ∧ Aside0 (Below w.heap.size w wr) ∧ Aside0 (idxF p (l0.drop kk) kk = some r))
 case atStart => exact ⟨0, Nat.zero_le _, by omega, rfl, ⟨Below.refl _ w⟩, ⟨HH.out⟩⟩
 case round =>
  obtain ⟨kk, hkk, hg, rfl, BW, HI⟩ := hrel
  by_cases hlt : kk < n
  · have hltz : (kk : Int) < (n : Int) := by omega
    obtain ⟨ad, e0, q0⟩ := HR.out wr BW.out kk hlt
    have hi := HI.out
    rw [idxF_drop p l0 0 kk (by rw [HN.out]; exact hlt)] at hi
    obtain ⟨b, hb, hi⟩ := Option.bind_eq_some_iff.mp hi
    have hcall := HP.out wr _ b BW.out hb
    (try rw [show l0.getD kk 0 = rd l0 kk from rfl] at hcall)
    generalize rd l0 kk = y at q0 hcall
    subst e0
    clear hb HI
    cases b with
    | true =>
     have hi2 : (kk : Int) = r := by simpa using hi
     clear hi
     have HE := Aside0.mk hi2
     clear hi2
     go_wp2_with (go_at_fn g; refine hcall.mono ?_; rintro e w' ⟨rfl, hb'⟩)
     go_ret
     exact ⟨by first | rfl | (rw [← HE.out]; rfl) | simp [HE.out], BW.out.trans (hb'.mono BW.out.size)⟩
    | false =>
     have hi2 : idxF p (l0.drop (kk + 1)) (kk + 1) = some r := by simpa using hi
     clear hi
     have HE := Aside0.mk hi2
     clear hi2
     go_wp2_with (go_at_fn g; refine hcall.mono ?_; rintro e w' ⟨rfl, hb'⟩)
     go_roundg (n - (kk + 1))
     case measure => omega
     case rel =>
      exact ⟨kk + 1, by omega, by omega, by go_num, ⟨BW.out.trans (hb'.mono BW.out.size)⟩, ⟨HE.out⟩⟩
  · have hltz : ¬ (kk : Int) < (n : Int) := by omega
    have : kk = n := by omega
    subst this
    have hi := HI.out
    rw [List.drop_of_length_le (by rw [HN.out]; omega)] at hi
    have hi2 : -1 = r := by simpa [idxF] using hi
    clear hi HI
    have HE := Aside0.mk hi2
    clear hi2
    go_wp2
    go_ret
    exact ⟨by first | rfl | (rw [← HE.out]; rfl) | simp [HE.out], BW.out⟩

/-! ### ho49: slices.ContainsFunc, function 49 -/
set_option maxHeartbeats 2000000 in
theorem ho49 (p : Int → Option Bool) (g : Nat) (la lb : Array Value) (eg : ∀ args w, (callFunc g args).run Try.prog w = .ok (.enter g args) w) (A0 : Option Addr) (c0 : Nat) (l0 : List Int) (r : Bool) (w : World)
 (hr0 : Kd.C (Kd.int .i64) w A0 l0.length l0)
 (hp : ∀ (W : World) (x : Int) (b : Bool), Below w.heap.size w W → p x = some b → Calls Try.prog g (la ++ #[.int .i64 x] ++ lb) W fun e W' => e = .returned (.bool b) ∧ Below W.heap.size W W')
 (h : anyF p l0 = some r) :
 Calls Try.prog 49 #[.slice A0 l0.length c0, .func (.func g) la lb] w fun e w' => e = .returned (.bool r) ∧ Below w.heap.size w w' := by
 obtain ⟨i, hi, hd⟩ := any_idx l0 0 r (by decide) h
 have hc := Aside0.mk (ho82 p g la lb eg A0 c0 l0 i w hr0 hp hi)
 have HD := Aside0.mk hd
 clear hd hi h hp hr0 eg
 go_enter Try.func49, Try.ntmps49
 go_wp2_with (go_at_call 82; refine hc.out.mono ?_; rintro e w' ⟨rfl, hb⟩)
 go_ret
 exact ⟨by first | rfl | (rw [← HD.out]; rfl) | simp [HD.out], hb⟩

/-! ### any_at_sleep_Of_1: function 49 at the function value 51 -/
def any_at_sleep_Of_1.f (k : Nat) (l0 : List (Int)) (l1 : List Int) : Option (Bool) := anyF (fun x => sleep_Of_1.f k  x l1) l0
theorem any_at_sleep_Of_1.mono : ∀ a0 a1 k, LeO (any_at_sleep_Of_1.f k a0 a1) (any_at_sleep_Of_1.f (k + 1) a0 a1) := by
 intro a0 a1 k
 unfold any_at_sleep_Of_1.f
 exact anyF_mono (fun x => sleep_Of_1.mono  x a1 k) a0
theorem any_at_sleep_Of_1.calls (k : Nat) (A0 : Option Addr) (c0 : Nat) (l0 : List (Int)) (g1 : Nat) (A1 : Option Addr) (c1 : Nat) (l1 : List Int) (r : Bool) (w : World) (hr0 : Kd.C (Kd.int .i64) w A0 l0.length l0) (hc0 : l0.length ≤ c0) (hr1 : Kd.C (Kd.int .i64) w A1 l1.length l1) (hc1 : l1.length ≤ c1) (hb1 : w.heap[g1]? = some (.cells #[.slice A1 l1.length c1] 27 (0, 0))) (h : any_at_sleep_Of_1.f k l0 l1 = some r) :
 Calls Try.prog 49 #[.slice A0 l0.length c0, .func (.func 51) #[] #[.pointer (some ⟨g1, 0, none⟩)]] w fun e w' => e = .returned (.bool r) ∧ Below w.heap.size w w' :=
 ho49 (fun x => sleep_Of_1.f k  x l1) 51 #[] #[.pointer (some ⟨g1, 0, none⟩)] (enters_of Try.func51 (by kernel_rfl) rfl) A0 c0 l0 r w hr0 (fun W x b hW_ hx => by
  show Calls Try.prog 51 #[.int .i64 x, .pointer (some ⟨g1, 0, none⟩)] W _
  exact (sleep_Of_1.calls k  x g1 A1 c1 l1 b W (Kd.C_below hr1 hW_) hc1 (hW_.block g1 (by have := (Array.getElem?_eq_some_iff.1 hb1).1; exact this) ▸ hb1) hx).mono (fun e W' ⟨he, hd⟩ => ⟨he, hd.below⟩)) h

/-! ### sleep_Of: function 29 -/
def sleep_Of.l0 : Nat → List Int → List (S26) → Int → Int → List Int → Option (List Int)
 | 0, _, _, _, _, _ => none
 | k + 1, x5, x11, x12, x13, x204000 => if x13 < x12 then (if 0 ≤ x13 then (if x13 < (x11.length : Int) then ((sleep_Sleeper_cells.f k ((rd_T26 x11 x13).f0) ((rd_T26 x11 x13).f1) ((rd_T26 x11 x13).f2) ((rd_T26 x11 x13).f3) ((rd_T26 x11 x13).f4)).bind fun t207 => ((any_at_sleep_Of_1.f k t207 x204000).bind fun t210 => (if t210 = true then (if x5.length < 17592186044416 then (sleep_Of.l0 k (x5 ++ [(rd_T26 x11 x13).f0]) x11 x12 (wrap64 (x13 + 1)) x204000) else (none)) else (sleep_Of.l0 k x5 x11 x12 (wrap64 (x13 + 1)) x204000)))) else (none)) else (none)) else (some x5)
def sleep_Of.f (k : Nat) (l0 : List (S26)) (l1 : List Int) : Option (List Int) := (sleep_Right.f k l0).bind fun t204 => (if t204 = true then (sleep_Of.l0 k ([] : List Int) l0 (l0.length : Int) 0 l1) else (some ([] : List Int)))
theorem sleep_Of.mono_l : ∀ k, (∀ y0 y1 y2 y3 y4, LeO (sleep_Of.l0 k y0 y1 y2 y3 y4) (sleep_Of.l0 (k + 1) y0 y1 y2 y3 y4))
 | 0 => fun _ _ _ _ _ r h => by simp [sleep_Of.l0] at h
 | k + 1 => by
  have ih0 := sleep_Of.mono_l k
  · intro y0 y1 y2 y3 y4
    unfold sleep_Of.l0
    repeat' first
    | (with_reducible exact ih0 _ _ _ _ _)
    | (with_reducible exact any_at_sleep_Of_1.mono _ _ _)
    | (with_reducible exact sleep_Right.mono _ _)
    | (with_reducible exact sleep_Sleeper_cells.mono _ _ _ _ _ _)
    | (with_reducible exact LeO.refl _)
    | (with_reducible exact LeO.none _)
    | (with_reducible refine LeO.ite ?_ ?_)
    | (with_reducible refine LeO.bind ?_ (fun _ => ?_))
    | exact ih0 _ _ _ _ _
    | exact any_at_sleep_Of_1.mono _ _ _
    | exact sleep_Right.mono _ _
    | exact sleep_Sleeper_cells.mono _ _ _ _ _ _
    | exact LeO.none _
    | refine LeO.ite ?_ ?_
    | refine LeO.bind ?_ (fun _ => ?_)
theorem sleep_Of.mono : ∀ a0 a1 k, LeO (sleep_Of.f k a0 a1) (sleep_Of.f (k + 1) a0 a1) := by
 intro a0 a1 k
 have ih0 := sleep_Of.mono_l k
 unfold sleep_Of.f
 repeat' first
  | (with_reducible exact ih0 _ _ _ _ _)
  | (with_reducible exact any_at_sleep_Of_1.mono _ _ _)
  | (with_reducible exact sleep_Right.mono _ _)
  | (with_reducible exact sleep_Sleeper_cells.mono _ _ _ _ _ _)
  | (with_reducible exact LeO.refl _)
  | (with_reducible exact LeO.none _)
  | (with_reducible refine LeO.ite ?_ ?_)
  | (with_reducible refine LeO.bind ?_ (fun _ => ?_))
  | exact ih0 _ _ _ _ _
  | exact any_at_sleep_Of_1.mono _ _ _
  | exact sleep_Right.mono _ _
  | exact sleep_Sleeper_cells.mono _ _ _ _ _ _
  | exact LeO.none _
  | refine LeO.ite ?_ ?_
  | refine LeO.bind ?_ (fun _ => ?_)
set_option maxHeartbeats 8000000 in
set_option maxRecDepth 100000 in
theorem sleep_Of.calls (k : Nat) (A0 : Option Addr) (c0 : Nat) (l0 : List (S26)) (A1 : Option Addr) (c1 : Nat) (l1 : List Int) (r : List Int) (w : World) (hr0 : Kd.C k26 w A0 l0.length l0) (hc0 : l0.length ≤ c0) (hr1 : Kd.C (Kd.int .i64) w A1 l1.length l1) (hc1 : l1.length ≤ c1) (h : sleep_Of.f k l0 l1 = some r) :
 Calls Try.prog 29 #[.slice A0 l0.length c0, .slice A1 l1.length c1] w fun e w' => ∃ v0_ : Value, e = .returned (v0_) ∧ Kd.R (Kd.int .i64) 3 w' w.heap.size (fun _ => True) v0_ r ∧ Below w.heap.size w w' := by
 have hu26 := Try.underlying26
 have HR0 := Aside0.mk hr0
 have HC0 := Aside0.mk hc0
 clear hr0 hc0
 have HR1 := Aside0.mk hr1
 have HC1 := Aside0.mk hc1
 clear hr1 hc1
 have HB := Aside0.mk (Below.refl w.heap.size w)
 have H : ((sleep_Right.f k l0).bind fun t204 => (if t204 = true then (sleep_Of.l0 k ([] : List Int) l0 (l0.length : Int) 0 l1) else (some ([] : List Int)))) = some r := h
 clear h
 replace H := Option.bind_eq_some_iff.mp H
 obtain ⟨t204, A30, H⟩ := H
 have A3 := Aside0.mk A30
 clear A30
 by_cases c4 : t204 = true
 · subst c4
   rw [if_pos rfl] at H
   have H' := Aside0.mk H
   clear H
   go_enter Try.func29, Try.ntmps29
   go_wp2_with (first | ((with_reducible refine gate_dst (N := 3) rfl ?_); refine box_event ?hg (N := 3) ?hd (cs := #[.slice A1 l1.length c1]) (t := 27) ?hr ?_; (case hd => rfl); (case hg => rfl); (case hr => first | (go_simp; done) | (go_simp; rfl)); intro gb203 hg w5 hbox hb; replace BK203 := Aside0.mk (hbox); replace GW203 := Aside0.mk ((by rw [hg]; exact bsz_ : w.heap.size ≤ gb203)); replace HB := Aside0.mk (bst_ hb); replace GE203 := GW203; clear hb hbox hg) | ((with_reducible refine gate_callee (f := 26) rfl ?_); refine goesL_ (some 9) rfl rfl Try.func26 (by kernel_rfl) rfl #[.slice A0 l0.length c0] rfl mp_ ?_; (with_reducible refine (sleep_Right.calls k _ _ l0 true _ ?side1 ?side2 A3.out).mono ?_); (case side1 => repeat (first | exact (Kd.C_below HR0.out HB.out) | with_reducible first | refine Kd.C_alloc ?_ _ | refine Kd.C_drewN ?_ _ | refine Kd.C_drew ?_)); (case side2 => exact HC0.out); rintro e w6 ⟨rfl, hb⟩; refine ⟨_, rfl, ?_⟩; replace BK203 := bb_ BK203 hb; replace HB := Aside0.mk (below_step bsw_ hb); (try clear hb); (try clear hb2); (try clear hk); (try clear hi)))
   go_loopg [5, 13] k (fun kq v5 v13 w' => ∃ (x5_1 : List Int) (x13_1 : Int), v13 = .int .i64 x13_1 ∧ Aside0 (sleep_Of.l0 kq x5_1 l0 (l0.length : Int) x13_1 l1 = some r) ∧ Aside0 (kq ≤ k) ∧ Aside0 (Kd.R (Kd.int .i64) 3 w' w.heap.size (fun _ => True) v5 x5_1) ∧ Aside0 (w'.heap[gb203]? = some (.cells #[(.slice A1 l1.length c1)] 27 (0, 0))) ∧ Aside0 (Below w.heap.size w w'))
   case atStart => exact ⟨(([] : List Int)), (0), (by first | rfl | (simp; done) | (simp [*]; done)), H', ⟨Nat.le_refl _⟩, ⟨by first | exact Kd.R_nil _ _ _ _ _ | exact Kd.N_nil _ _ _ _ _ | exact Kd.V_nil _ _ _ _ _ | exact Kd.Q_nil _ _ _ _ _ | exact Kd.S_nil _ _ _ _ _⟩, ⟨bq_ BK203⟩, ⟨bsw_⟩⟩
   case round =>
    clear H'
    try clear c1
    try clear c2
    try clear p2
    try clear c4
    obtain ⟨x5_1, x13_1, rfl, HA, HK1, HO_5, BK203, HB⟩ := hrel
    cases gk with
    | zero => exact absurd HA.out (by simp [sleep_Of.l0])
    | succ k1 =>
     have H := HA.out
     clear HA
     simp only [sleep_Of.l0] at H
     by_cases c7 : x13_1 < (l0.length : Int)
     · rw [if_pos c7] at H
       have c7b0 : decide (x13_1 < (l0.length : Int)) = true := decide_eq_true c7
       clear c7
       by_cases c8 : 0 ≤ x13_1
       · rw [if_pos c8] at H
         have c8b0 : decide (0 ≤ x13_1) = true := decide_eq_true c8
         clear c8
         by_cases c9 : x13_1 < (l0.length : Int)
         · rw [if_pos c9] at H
           have c9b0 : decide (x13_1 < (l0.length : Int)) = true := decide_eq_true c9
           clear c9
           replace H := Option.bind_eq_some_iff.mp H
           obtain ⟨t207, A100, H⟩ := H
           have A10 := Aside0.mk A100
           clear A100
           replace H := Option.bind_eq_some_iff.mp H
           obtain ⟨t210, A110, H⟩ := H
           have A11 := Aside0.mk A110
           clear A110
           by_cases c12 : t210 = true
           · subst c12
             rw [if_pos rfl] at H
             by_cases c13 : x5_1.length < 17592186044416
             · rw [if_pos c13] at H
               have LMc13 := Aside0.mk c13
               clear c13
               obtain ⟨y211, hy211⟩ : ∃ y_ : List Int, y_ = (x5_1 ++ [(rd_T26 l0 x13_1).f0]) := ⟨_, rfl⟩
               replace H : (sleep_Of.l0 k1 y211 l0 (l0.length : Int) (wrap64 (x13_1 + 1)) l1) = some r := by first | (rw [hy211]; with_reducible exact H) | (have H2_ := (Option.bind_some _ _).symm.trans H; rw [hy211]; with_reducible exact H2_) | (have H2_ := (Option.bind_some _ _).symm.trans H; with_reducible exact H2_) | with_reducible exact H | (rw [hy211]; exact H) | exact H
               have Ny211 := Aside0.mk hy211
               clear hy211
               have H' := Aside0.mk H
               clear H
               have p205 : 0 ≤ (x13_1 : Int) := oda_
               have q205 : x13_1 < (l0.length : Int) := oda_
               obtain ⟨ad205, A205_3, c205_3, A205_4, c205_4, e205, hx205_0, hx205_1, hx205_2, hx205_3, hx205_4, hl205_3, hi205_3, hl205_4, hi205_4⟩ := at_T26 HR0.out x13_1 p205 q205
               cases e205
               replace hx205_0 := (HB.out.cell (World.block_lt_of_cell? w _ hx205_0)).trans hx205_0
               replace hx205_1 := (HB.out.cell (World.block_lt_of_cell? w _ hx205_1)).trans hx205_1
               replace hx205_2 := (HB.out.cell (World.block_lt_of_cell? w _ hx205_2)).trans hx205_2
               replace hx205_3 := (HB.out.cell (World.block_lt_of_cell? w _ hx205_3)).trans hx205_3
               replace hx205_4 := (HB.out.cell (World.block_lt_of_cell? w _ hx205_4)).trans hx205_4
               have HR205_3 := Aside0.mk hi205_3
               have HC205_3 := Aside0.mk hl205_3
               clear hi205_3 hl205_3
               have HR205_4 := Aside0.mk hi205_4
               have HC205_4 := Aside0.mk hl205_4
               clear hi205_4 hl205_4
               replace p205 := eq_true p205
               replace q205 := eq_true q205
               go_wp2_with (first | ((with_reducible refine gate_dst (N := 7) rfl ?_); refine box_event ?hg (N := 7) ?hd (cs := #[.int .i64 0, .int .i64 0, .int .i64 0, .slice none 0 0, .slice none 0 0]) (t := 26) ?hr ?_; (case hd => rfl); (case hg => rfl); (case hr => first | (go_simp; done) | (go_simp; rfl)); intro gb206 hg w14 hbox hb; replace HO_5 := rb_ HO_5 hb; replace BK206 := Aside0.mk (hbox); replace GW206 := Aside0.mk ((by rw [hg]; exact (below_size bsw_) : w.heap.size ≤ gb206)); replace HB := Aside0.mk (below_step bsw_ hb); replace GE206 := GW206; replace NB203_206 := Aside0.mk ((by rw [hg]; exact Nat.ne_of_lt (blk_lt (g := gb203) (o := .cells #[.slice A1 l1.length c1] 27 (0, 0)) (bq_ BK203)) : gb203 ≠ gb206)); replace NB206_203 := Aside0.mk ((by rw [hg]; exact Nat.ne_of_gt (blk_lt (g := gb203) (o := .cells #[.slice A1 l1.length c1] 27 (0, 0)) (bq_ BK203)) : gb206 ≠ gb203)); replace BK203 := bb_ BK203 hb; clear hb hbox hg; have hnb15 := NB206_203.out; have hnc15 := NB203_206.out; have hcz16_0 : w14.cell? ⟨gb206, 0, none⟩ = some (.int .i64 0) := (blk_cell BK206.out 0).trans rfl; have hcz16_1 : w14.cell? ⟨gb206, 1, none⟩ = some (.int .i64 0) := (blk_cell BK206.out 1).trans rfl; have hcz16_2 : w14.cell? ⟨gb206, 2, none⟩ = some (.int .i64 0) := (blk_cell BK206.out 2).trans rfl; have hcz16_3 : w14.cell? ⟨gb206, 3, none⟩ = some (.slice none 0 0) := (blk_cell BK206.out 3).trans rfl; have hcz16_4 : w14.cell? ⟨gb206, 4, none⟩ = some (.slice none 0 0) := (blk_cell BK206.out 4).trans rfl; have hfz16_0 := blk_frozen BK206.out 0; have hfz16_1 := blk_frozen BK206.out 1; have hfz16_2 := blk_frozen BK206.out 2; have hfz16_3 := blk_frozen BK206.out 3; have hfz16_4 := blk_frozen BK206.out 4) | ((with_reducible refine gate_callee (f := 50) rfl ?_); refine goesL_ (some 18) rfl rfl Try.func50 (by kernel_rfl) rfl #[.agg #[.int .i64 ((rd_T26 l0 x13_1).f0), .int .i64 ((rd_T26 l0 x13_1).f1), .int .i64 ((rd_T26 l0 x13_1).f2), .slice A205_3 ((rd_T26 l0 x13_1).f3).length c205_3, .slice A205_4 ((rd_T26 l0 x13_1).f4).length c205_4]] rfl mp_ ?_; (with_reducible refine (sleep_Sleeper_cells.calls k1 ((rd_T26 l0 x13_1).f0) ((rd_T26 l0 x13_1).f1) ((rd_T26 l0 x13_1).f2) _ _ ((rd_T26 l0 x13_1).f3) _ _ ((rd_T26 l0 x13_1).f4) t207 _ ?side1 ?side2 ?side3 ?side4 A10.out).mono ?_); (case side1 => exact Kd.C_below HR205_3.out (by repeat (first | (with_reducible first | exact HB.out | apply below_alloc | apply pw_below_drewN | apply below_drew1 | refine below_set ?_ GE203.out | refine below_set ?_ GE206.out) | exact HB.out))); (case side2 => exact HC205_3.out); (case side3 => exact Kd.C_below HR205_4.out (by repeat (first | (with_reducible first | exact HB.out | apply below_alloc | apply pw_below_drewN | apply below_drew1 | refine below_set ?_ GE203.out | refine below_set ?_ GE206.out) | exact HB.out))); (case side4 => exact HC205_4.out); rintro e w17 ⟨v208, rfl, ho0, hb⟩; refine ⟨_, rfl, ?_⟩; replace HO209 := Aside0.mk (Kd.R_lower (Kd.R_new' ho0 (Kd.R_lt (by (with_reducible repeat (first | apply Kd.R_alloc | apply Kd.R_drewN | apply Kd.R_drew)); exact (Kd.R_mono (Kd.R_far (p := ⟨gb206, 4, none⟩) (Kd.R_far (p := ⟨gb206, 3, none⟩) (Kd.R_far (p := ⟨gb206, 2, none⟩) (Kd.R_far (p := ⟨gb206, 1, none⟩) (Kd.R_far (p := ⟨gb206, 0, none⟩) (Kd.R_types HO_5.out BK206.out (by decide)) (fun _ hk => hk.2) (.int .i64 ((rd_T26 l0 x13_1).f0))) (fun _ hk => hk.2) (.int .i64 ((rd_T26 l0 x13_1).f1))) (fun _ hk => hk.2) (.int .i64 ((rd_T26 l0 x13_1).f2))) (fun _ hk => hk.2) (.slice A205_3 ((rd_T26 l0 x13_1).f3).length c205_3)) (fun _ hk => hk.2) (.slice A205_4 ((rd_T26 l0 x13_1).f4).length c205_4)) (fun _ h_ => h_.1))))) (below_size (by repeat (first | (with_reducible first | exact HB.out | apply below_alloc | apply pw_below_drewN | apply below_drew1 | refine below_set ?_ GE203.out | refine below_set ?_ GE206.out) | exact HB.out)))); replace HO_5 := Aside0.mk (Kd.R_elder' (by (with_reducible repeat (first | apply Kd.R_alloc | apply Kd.R_drewN | apply Kd.R_drew)); exact (Kd.R_mono (Kd.R_far (p := ⟨gb206, 4, none⟩) (Kd.R_far (p := ⟨gb206, 3, none⟩) (Kd.R_far (p := ⟨gb206, 2, none⟩) (Kd.R_far (p := ⟨gb206, 1, none⟩) (Kd.R_far (p := ⟨gb206, 0, none⟩) (Kd.R_types HO_5.out BK206.out (by decide)) (fun _ hk => hk.2) (.int .i64 ((rd_T26 l0 x13_1).f0))) (fun _ hk => hk.2) (.int .i64 ((rd_T26 l0 x13_1).f1))) (fun _ hk => hk.2) (.int .i64 ((rd_T26 l0 x13_1).f2))) (fun _ hk => hk.2) (.slice A205_3 ((rd_T26 l0 x13_1).f3).length c205_3)) (fun _ hk => hk.2) (.slice A205_4 ((rd_T26 l0 x13_1).f4).length c205_4)) (fun _ h_ => h_.1))) (Kd.R_base ho0) hb); replace BK203 := Aside0.mk (blk_below (g := gb203) (o := .cells #[.slice A1 l1.length c1] 27 (0, 0)) (by (with_reducible repeat (first | refine blk_drewN ?_ _ | refine blk_drew ?_ | refine blk_alloc ?_ _)); refine blk_far ?_ NB203_206.out _; (with_reducible repeat (first | refine blk_drewN ?_ _ | refine blk_drew ?_ | refine blk_alloc ?_ _)); refine blk_far ?_ NB203_206.out _; (with_reducible repeat (first | refine blk_drewN ?_ _ | refine blk_drew ?_ | refine blk_alloc ?_ _)); refine blk_far ?_ NB203_206.out _; (with_reducible repeat (first | refine blk_drewN ?_ _ | refine blk_drew ?_ | refine blk_alloc ?_ _)); refine blk_far ?_ NB203_206.out _; (with_reducible repeat (first | refine blk_drewN ?_ _ | refine blk_drew ?_ | refine blk_alloc ?_ _)); refine blk_far ?_ NB203_206.out _; (with_reducible repeat (first | refine blk_drewN ?_ _ | refine blk_drew ?_ | refine blk_alloc ?_ _)); exact BK203.out) hb); replace BK206 := Aside0.mk (blk_below (g := gb206) (o := .cells #[.int .i64 ((rd_T26 l0 x13_1).f0), .int .i64 ((rd_T26 l0 x13_1).f1), .int .i64 ((rd_T26 l0 x13_1).f2), .slice A205_3 ((rd_T26 l0 x13_1).f3).length c205_3, .slice A205_4 ((rd_T26 l0 x13_1).f4).length c205_4] 26 (0, 0)) (by (with_reducible repeat (first | refine blk_drewN ?_ _ | refine blk_drew ?_ | refine blk_alloc ?_ _)); refine blk_put (cs := #[.int .i64 ((rd_T26 l0 x13_1).f0), .int .i64 ((rd_T26 l0 x13_1).f1), .int .i64 ((rd_T26 l0 x13_1).f2), .slice A205_3 ((rd_T26 l0 x13_1).f3).length c205_3, .slice none 0 0]) ?_ 4 _ rfl; (with_reducible repeat (first | refine blk_drewN ?_ _ | refine blk_drew ?_ | refine blk_alloc ?_ _)); refine blk_put (cs := #[.int .i64 ((rd_T26 l0 x13_1).f0), .int .i64 ((rd_T26 l0 x13_1).f1), .int .i64 ((rd_T26 l0 x13_1).f2), .slice none 0 0, .slice none 0 0]) ?_ 3 _ rfl; (with_reducible repeat (first | refine blk_drewN ?_ _ | refine blk_drew ?_ | refine blk_alloc ?_ _)); refine blk_put (cs := #[.int .i64 ((rd_T26 l0 x13_1).f0), .int .i64 ((rd_T26 l0 x13_1).f1), .int .i64 0, .slice none 0 0, .slice none 0 0]) ?_ 2 _ rfl; (with_reducible repeat (first | refine blk_drewN ?_ _ | refine blk_drew ?_ | refine blk_alloc ?_ _)); refine blk_put (cs := #[.int .i64 ((rd_T26 l0 x13_1).f0), .int .i64 0, .int .i64 0, .slice none 0 0, .slice none 0 0]) ?_ 1 _ rfl; (with_reducible repeat (first | refine blk_drewN ?_ _ | refine blk_drew ?_ | refine blk_alloc ?_ _)); refine blk_put (cs := #[.int .i64 0, .int .i64 0, .int .i64 0, .slice none 0 0, .slice none 0 0]) ?_ 0 _ rfl; (with_reducible repeat (first | refine blk_drewN ?_ _ | refine blk_drew ?_ | refine blk_alloc ?_ _)); exact BK206.out) hb); replace HB := Aside0.mk (below_step (by repeat (first | (with_reducible first | exact HB.out | apply below_alloc | apply pw_below_drewN | apply below_drew1 | refine below_set ?_ GE203.out | refine below_set ?_ GE206.out) | exact HB.out)) hb); (try clear hb); (try clear hb2); (try clear hk); (try clear hi); (try clear ho0); obtain ⟨Ao18, co18, eo18⟩ := Kd.R_slice HO209.out; subst eo18) | ((with_reducible refine gate_callee (f := 49) rfl ?_); refine goesL_ (some 20) rfl rfl Try.func49 (by kernel_rfl) rfl #[.slice Ao18 t207.length co18, .func (.func 51) #[] #[.pointer (some ⟨gb203, 0, none⟩)]] rfl mp_ ?_; (with_reducible refine (any_at_sleep_Of_1.calls k1 _ _ t207 gb203 A1 c1 l1 true _ ?side1 ?side2 ?side3 ?side4 ?side5 A11.out).mono ?_); (case side1 => repeat (first | exact (Kd.R_reads' HO209.out).2.2 | with_reducible first | refine Kd.C_alloc ?_ _ | refine Kd.C_drewN ?_ _ | refine Kd.C_drew ?_)); (case side2 => exact (Kd.R_reads' HO209.out).2.1); (case side3 => repeat (first | exact (Kd.C_below HR1.out HB.out) | with_reducible first | refine Kd.C_alloc ?_ _ | refine Kd.C_drewN ?_ _ | refine Kd.C_drew ?_)); (case side4 => exact HC1.out); (case side5 => exact (bq_ BK203)); rintro e w19 ⟨rfl, hb⟩; refine ⟨_, rfl, ?_⟩; replace HO_5 := rb_ HO_5 hb; replace HO209 := rb_ HO209 hb; replace BK203 := bb_ BK203 hb; replace BK206 := bb_ BK206 hb; replace HB := Aside0.mk (below_step (by repeat (first | (with_reducible first | exact HB.out | apply below_alloc | apply pw_below_drewN | apply below_drew1 | refine below_set ?_ GE203.out | refine below_set ?_ GE206.out) | exact HB.out)) hb); (try clear hb); (try clear hb2); (try clear hk); (try clear hi); have hcz20_0 : w19.cell? ⟨gb206, 0, none⟩ = some (.int .i64 ((rd_T26 l0 x13_1).f0)) := (blk_cell BK206.out 0).trans rfl; have hcz20_1 : w19.cell? ⟨gb206, 1, none⟩ = some (.int .i64 ((rd_T26 l0 x13_1).f1)) := (blk_cell BK206.out 1).trans rfl; have hcz20_2 : w19.cell? ⟨gb206, 2, none⟩ = some (.int .i64 ((rd_T26 l0 x13_1).f2)) := (blk_cell BK206.out 2).trans rfl; have hcz20_3 : w19.cell? ⟨gb206, 3, none⟩ = some (.slice A205_3 ((rd_T26 l0 x13_1).f3).length c205_3) := (blk_cell BK206.out 3).trans rfl; have hcz20_4 : w19.cell? ⟨gb206, 4, none⟩ = some (.slice A205_4 ((rd_T26 l0 x13_1).f4).length c205_4) := (blk_cell BK206.out 4).trans rfl; have hfz20_0 := blk_frozen BK206.out 0; have hfz20_1 := blk_frozen BK206.out 1; have hfz20_2 := blk_frozen BK206.out 2; have hfz20_3 := blk_frozen BK206.out 3; have hfz20_4 := blk_frozen BK206.out 4) | ((with_reducible refine gate_builtin (b := .append) (xs := #[.tmp 21, .tmp 24]) rfl ?_); at_builtin; refine Kd.R_append (Kd.int .i64) (w0 := w) w.heap.size rfl (.tmp 21) (.tmp 24) 27 3 (.int .i64 0) 8 rfl Try.underlying27 info3 rfl (by decide) (by omega) u5 x5_1 ((rd_T26 l0 x13_1).f0) [.int .i64 ((rd_T26 l0 x13_1).f0)] (fun k_ => some k_ ≠ (.slice Ao18 t207.length co18 : Value).ownBlock) (fun _ => False) rfl rfl ?aP (fun _ hk => hk.elim) ?aF ?aO ?aB ?aS ?aL ?_; (case aP => exact rfl); (case aB => exact (by repeat (first | (with_reducible first | exact HB.out | apply below_alloc | apply pw_below_drewN | apply below_drew1 | refine below_set ?_ GE203.out | refine below_set ?_ GE206.out) | exact HB.out))); (case aF => exact (fun k_ hk => Kd.fresh' (Kd.R_lt (rq_ HO209)) k_ hk)); (case aO => exact (Kd.R_mono (rq_ HO_5) (fun _ hk => hk.2))); (case aS => exact (below_size (by repeat (first | (with_reducible first | exact HB.out | apply below_alloc | apply pw_below_drewN | apply below_drew1 | refine below_set ?_ GE203.out | refine below_set ?_ GE206.out) | exact HB.out)))); (case aL => have := LMc13.out; omega); intro v212 w21 ho hb hg hat; rw [← Ny211.out] at ho; replace BK203 := Aside0.mk (blk_grown (g := gb203) (o := .cells #[.slice A1 l1.length c1] 27 (0, 0)) (bq_ BK203) hg (Kd.R_ne HO_5.out BK203.out (by decide))); replace BK206 := Aside0.mk (blk_grown (g := gb206) (o := .cells #[.int .i64 ((rd_T26 l0 x13_1).f0), .int .i64 ((rd_T26 l0 x13_1).f1), .int .i64 ((rd_T26 l0 x13_1).f2), .slice A205_3 ((rd_T26 l0 x13_1).f3).length c205_3, .slice A205_4 ((rd_T26 l0 x13_1).f4).length c205_4] 26 (0, 0)) (bq_ BK206) hg (Kd.R_ne HO_5.out BK206.out (by decide))); replace HO209 := Aside0.mk (Kd.R_after (ok := (fun _ => True)) (rq_ HO209) hg hat); replace HB := Aside0.mk (hb); replace HO213 := Aside0.mk (ho); clear HO_5; clear ho hb hg hat))
               go_roundg k1
               case measure => have := HK1.out; omega
               case rel => exact ⟨(y211), (wrap64 (x13_1 + 1)), (by first | rfl | (simp; done) | (simp [*]; done)), H', ⟨by have := HK1.out; omega⟩, ⟨Kd.R_mono (rq_ HO213) (fun _ hk => trivial)⟩, ⟨bq_ BK203⟩, ⟨by repeat (first | (with_reducible first | exact HB.out | apply below_alloc | apply pw_below_drewN | apply below_drew1 | refine below_set ?_ GE203.out | refine below_set ?_ GE206.out) | exact HB.out)⟩⟩
             · rw [if_neg c13] at H
               exact absurd H (by simp)
           · replace c12 := Bool.eq_false_iff.mpr c12
             subst c12
             rw [if_neg (show ¬ (false = true) by decide)] at H
             have H' := Aside0.mk H
             clear H
             have p205 : 0 ≤ (x13_1 : Int) := oda_
             have q205 : x13_1 < (l0.length : Int) := oda_
             obtain ⟨ad205, A205_3, c205_3, A205_4, c205_4, e205, hx205_0, hx205_1, hx205_2, hx205_3, hx205_4, hl205_3, hi205_3, hl205_4, hi205_4⟩ := at_T26 HR0.out x13_1 p205 q205
             cases e205
             replace hx205_0 := (HB.out.cell (World.block_lt_of_cell? w _ hx205_0)).trans hx205_0
             replace hx205_1 := (HB.out.cell (World.block_lt_of_cell? w _ hx205_1)).trans hx205_1
             replace hx205_2 := (HB.out.cell (World.block_lt_of_cell? w _ hx205_2)).trans hx205_2
             replace hx205_3 := (HB.out.cell (World.block_lt_of_cell? w _ hx205_3)).trans hx205_3
             replace hx205_4 := (HB.out.cell (World.block_lt_of_cell? w _ hx205_4)).trans hx205_4
             have HR205_3 := Aside0.mk hi205_3
             have HC205_3 := Aside0.mk hl205_3
             clear hi205_3 hl205_3
             have HR205_4 := Aside0.mk hi205_4
             have HC205_4 := Aside0.mk hl205_4
             clear hi205_4 hl205_4
             replace p205 := eq_true p205
             replace q205 := eq_true q205
             go_wp2_with (first | ((with_reducible refine gate_dst (N := 7) rfl ?_); refine box_event ?hg (N := 7) ?hd (cs := #[.int .i64 0, .int .i64 0, .int .i64 0, .slice none 0 0, .slice none 0 0]) (t := 26) ?hr ?_; (case hd => rfl); (case hg => rfl); (case hr => first | (go_simp; done) | (go_simp; rfl)); intro gb206 hg w22 hbox hb; replace HO_5 := rb_ HO_5 hb; replace BK206 := Aside0.mk (hbox); replace GW206 := Aside0.mk ((by rw [hg]; exact (below_size bsw_) : w.heap.size ≤ gb206)); replace HB := Aside0.mk (below_step bsw_ hb); replace GE206 := GW206; replace NB203_206 := Aside0.mk ((by rw [hg]; exact Nat.ne_of_lt (blk_lt (g := gb203) (o := .cells #[.slice A1 l1.length c1] 27 (0, 0)) (bq_ BK203)) : gb203 ≠ gb206)); replace NB206_203 := Aside0.mk ((by rw [hg]; exact Nat.ne_of_gt (blk_lt (g := gb203) (o := .cells #[.slice A1 l1.length c1] 27 (0, 0)) (bq_ BK203)) : gb206 ≠ gb203)); replace BK203 := bb_ BK203 hb; clear hb hbox hg; have hnb23 := NB206_203.out; have hnc23 := NB203_206.out; have hcz24_0 : w22.cell? ⟨gb206, 0, none⟩ = some (.int .i64 0) := (blk_cell BK206.out 0).trans rfl; have hcz24_1 : w22.cell? ⟨gb206, 1, none⟩ = some (.int .i64 0) := (blk_cell BK206.out 1).trans rfl; have hcz24_2 : w22.cell? ⟨gb206, 2, none⟩ = some (.int .i64 0) := (blk_cell BK206.out 2).trans rfl; have hcz24_3 : w22.cell? ⟨gb206, 3, none⟩ = some (.slice none 0 0) := (blk_cell BK206.out 3).trans rfl; have hcz24_4 : w22.cell? ⟨gb206, 4, none⟩ = some (.slice none 0 0) := (blk_cell BK206.out 4).trans rfl; have hfz24_0 := blk_frozen BK206.out 0; have hfz24_1 := blk_frozen BK206.out 1; have hfz24_2 := blk_frozen BK206.out 2; have hfz24_3 := blk_frozen BK206.out 3; have hfz24_4 := blk_frozen BK206.out 4) | ((with_reducible refine gate_callee (f := 50) rfl ?_); refine goesL_ (some 18) rfl rfl Try.func50 (by kernel_rfl) rfl #[.agg #[.int .i64 ((rd_T26 l0 x13_1).f0), .int .i64 ((rd_T26 l0 x13_1).f1), .int .i64 ((rd_T26 l0 x13_1).f2), .slice A205_3 ((rd_T26 l0 x13_1).f3).length c205_3, .slice A205_4 ((rd_T26 l0 x13_1).f4).length c205_4]] rfl mp_ ?_; (with_reducible refine (sleep_Sleeper_cells.calls k1 ((rd_T26 l0 x13_1).f0) ((rd_T26 l0 x13_1).f1) ((rd_T26 l0 x13_1).f2) _ _ ((rd_T26 l0 x13_1).f3) _ _ ((rd_T26 l0 x13_1).f4) t207 _ ?side1 ?side2 ?side3 ?side4 A10.out).mono ?_); (case side1 => exact Kd.C_below HR205_3.out (by repeat (first | (with_reducible first | exact HB.out | apply below_alloc | apply pw_below_drewN | apply below_drew1 | refine below_set ?_ GE203.out | refine below_set ?_ GE206.out) | exact HB.out))); (case side2 => exact HC205_3.out); (case side3 => exact Kd.C_below HR205_4.out (by repeat (first | (with_reducible first | exact HB.out | apply below_alloc | apply pw_below_drewN | apply below_drew1 | refine below_set ?_ GE203.out | refine below_set ?_ GE206.out) | exact HB.out))); (case side4 => exact HC205_4.out); rintro e w25 ⟨v208, rfl, ho0, hb⟩; refine ⟨_, rfl, ?_⟩; replace HO209 := Aside0.mk (Kd.R_lower (Kd.R_new' ho0 (Kd.R_lt (by (with_reducible repeat (first | apply Kd.R_alloc | apply Kd.R_drewN | apply Kd.R_drew)); exact (Kd.R_mono (Kd.R_far (p := ⟨gb206, 4, none⟩) (Kd.R_far (p := ⟨gb206, 3, none⟩) (Kd.R_far (p := ⟨gb206, 2, none⟩) (Kd.R_far (p := ⟨gb206, 1, none⟩) (Kd.R_far (p := ⟨gb206, 0, none⟩) (Kd.R_types HO_5.out BK206.out (by decide)) (fun _ hk => hk.2) (.int .i64 ((rd_T26 l0 x13_1).f0))) (fun _ hk => hk.2) (.int .i64 ((rd_T26 l0 x13_1).f1))) (fun _ hk => hk.2) (.int .i64 ((rd_T26 l0 x13_1).f2))) (fun _ hk => hk.2) (.slice A205_3 ((rd_T26 l0 x13_1).f3).length c205_3)) (fun _ hk => hk.2) (.slice A205_4 ((rd_T26 l0 x13_1).f4).length c205_4)) (fun _ h_ => h_.1))))) (below_size (by repeat (first | (with_reducible first | exact HB.out | apply below_alloc | apply pw_below_drewN | apply below_drew1 | refine below_set ?_ GE203.out | refine below_set ?_ GE206.out) | exact HB.out)))); replace HO_5 := Aside0.mk (Kd.R_elder' (by (with_reducible repeat (first | apply Kd.R_alloc | apply Kd.R_drewN | apply Kd.R_drew)); exact (Kd.R_mono (Kd.R_far (p := ⟨gb206, 4, none⟩) (Kd.R_far (p := ⟨gb206, 3, none⟩) (Kd.R_far (p := ⟨gb206, 2, none⟩) (Kd.R_far (p := ⟨gb206, 1, none⟩) (Kd.R_far (p := ⟨gb206, 0, none⟩) (Kd.R_types HO_5.out BK206.out (by decide)) (fun _ hk => hk.2) (.int .i64 ((rd_T26 l0 x13_1).f0))) (fun _ hk => hk.2) (.int .i64 ((rd_T26 l0 x13_1).f1))) (fun _ hk => hk.2) (.int .i64 ((rd_T26 l0 x13_1).f2))) (fun _ hk => hk.2) (.slice A205_3 ((rd_T26 l0 x13_1).f3).length c205_3)) (fun _ hk => hk.2) (.slice A205_4 ((rd_T26 l0 x13_1).f4).length c205_4)) (fun _ h_ => h_.1))) (Kd.R_base ho0) hb); replace BK203 := Aside0.mk (blk_below (g := gb203) (o := .cells #[.slice A1 l1.length c1] 27 (0, 0)) (by (with_reducible repeat (first | refine blk_drewN ?_ _ | refine blk_drew ?_ | refine blk_alloc ?_ _)); refine blk_far ?_ NB203_206.out _; (with_reducible repeat (first | refine blk_drewN ?_ _ | refine blk_drew ?_ | refine blk_alloc ?_ _)); refine blk_far ?_ NB203_206.out _; (with_reducible repeat (first | refine blk_drewN ?_ _ | refine blk_drew ?_ | refine blk_alloc ?_ _)); refine blk_far ?_ NB203_206.out _; (with_reducible repeat (first | refine blk_drewN ?_ _ | refine blk_drew ?_ | refine blk_alloc ?_ _)); refine blk_far ?_ NB203_206.out _; (with_reducible repeat (first | refine blk_drewN ?_ _ | refine blk_drew ?_ | refine blk_alloc ?_ _)); refine blk_far ?_ NB203_206.out _; (with_reducible repeat (first | refine blk_drewN ?_ _ | refine blk_drew ?_ | refine blk_alloc ?_ _)); exact BK203.out) hb); replace BK206 := Aside0.mk (blk_below (g := gb206) (o := .cells #[.int .i64 ((rd_T26 l0 x13_1).f0), .int .i64 ((rd_T26 l0 x13_1).f1), .int .i64 ((rd_T26 l0 x13_1).f2), .slice A205_3 ((rd_T26 l0 x13_1).f3).length c205_3, .slice A205_4 ((rd_T26 l0 x13_1).f4).length c205_4] 26 (0, 0)) (by (with_reducible repeat (first | refine blk_drewN ?_ _ | refine blk_drew ?_ | refine blk_alloc ?_ _)); refine blk_put (cs := #[.int .i64 ((rd_T26 l0 x13_1).f0), .int .i64 ((rd_T26 l0 x13_1).f1), .int .i64 ((rd_T26 l0 x13_1).f2), .slice A205_3 ((rd_T26 l0 x13_1).f3).length c205_3, .slice none 0 0]) ?_ 4 _ rfl; (with_reducible repeat (first | refine blk_drewN ?_ _ | refine blk_drew ?_ | refine blk_alloc ?_ _)); refine blk_put (cs := #[.int .i64 ((rd_T26 l0 x13_1).f0), .int .i64 ((rd_T26 l0 x13_1).f1), .int .i64 ((rd_T26 l0 x13_1).f2), .slice none 0 0, .slice none 0 0]) ?_ 3 _ rfl; (with_reducible repeat (first | refine blk_drewN ?_ _ | refine blk_drew ?_ | refine blk_alloc ?_ _)); refine blk_put (cs := #[.int .i64 ((rd_T26 l0 x13_1).f0), .int .i64 ((rd_T26 l0 x13_1).f1), .int .i64 0, .slice none 0 0, .slice none 0 0]) ?_ 2 _ rfl; (with_reducible repeat (first | refine blk_drewN ?_ _ | refine blk_drew ?_ | refine blk_alloc ?_ _)); refine blk_put (cs := #[.int .i64 ((rd_T26 l0 x13_1).f0), .int .i64 0, .int .i64 0, .slice none 0 0, .slice none 0 0]) ?_ 1 _ rfl; (with_reducible repeat (first | refine blk_drewN ?_ _ | refine blk_drew ?_ | refine blk_alloc ?_ _)); refine blk_put (cs := #[.int .i64 0, .int .i64 0, .int .i64 0, .slice none 0 0, .slice none 0 0]) ?_ 0 _ rfl; (with_reducible repeat (first | refine blk_drewN ?_ _ | refine blk_drew ?_ | refine blk_alloc ?_ _)); exact BK206.out) hb); replace HB := Aside0.mk (below_step (by repeat (first | (with_reducible first | exact HB.out | apply below_alloc | apply pw_below_drewN | apply below_drew1 | refine below_set ?_ GE203.out | refine below_set ?_ GE206.out) | exact HB.out)) hb); (try clear hb); (try clear hb2); (try clear hk); (try clear hi); (try clear ho0); obtain ⟨Ao26, co26, eo26⟩ := Kd.R_slice HO209.out; subst eo26) | ((with_reducible refine gate_callee (f := 49) rfl ?_); refine goesL_ (some 20) rfl rfl Try.func49 (by kernel_rfl) rfl #[.slice Ao26 t207.length co26, .func (.func 51) #[] #[.pointer (some ⟨gb203, 0, none⟩)]] rfl mp_ ?_; (with_reducible refine (any_at_sleep_Of_1.calls k1 _ _ t207 gb203 A1 c1 l1 false _ ?side1 ?side2 ?side3 ?side4 ?side5 A11.out).mono ?_); (case side1 => repeat (first | exact (Kd.R_reads' HO209.out).2.2 | with_reducible first | refine Kd.C_alloc ?_ _ | refine Kd.C_drewN ?_ _ | refine Kd.C_drew ?_)); (case side2 => exact (Kd.R_reads' HO209.out).2.1); (case side3 => repeat (first | exact (Kd.C_below HR1.out HB.out) | with_reducible first | refine Kd.C_alloc ?_ _ | refine Kd.C_drewN ?_ _ | refine Kd.C_drew ?_)); (case side4 => exact HC1.out); (case side5 => exact (bq_ BK203)); rintro e w27 ⟨rfl, hb⟩; refine ⟨_, rfl, ?_⟩; replace HO_5 := rb_ HO_5 hb; replace HO209 := rb_ HO209 hb; replace BK203 := bb_ BK203 hb; replace BK206 := bb_ BK206 hb; replace HB := Aside0.mk (below_step (by repeat (first | (with_reducible first | exact HB.out | apply below_alloc | apply pw_below_drewN | apply below_drew1 | refine below_set ?_ GE203.out | refine below_set ?_ GE206.out) | exact HB.out)) hb); (try clear hb); (try clear hb2); (try clear hk); (try clear hi)))
             go_roundg k1
             case measure => have := HK1.out; omega
             case rel => exact ⟨(x5_1), (wrap64 (x13_1 + 1)), (by first | rfl | (simp; done) | (simp [*]; done)), H', ⟨by have := HK1.out; omega⟩, ⟨Kd.R_mono (rq_ HO_5) (fun _ hk => trivial)⟩, ⟨bq_ BK203⟩, ⟨by repeat (first | (with_reducible first | exact HB.out | apply below_alloc | apply pw_below_drewN | apply below_drew1 | refine below_set ?_ GE203.out | refine below_set ?_ GE206.out) | exact HB.out)⟩⟩
         · rw [if_neg c9] at H
           exact absurd H (by simp)
       · rw [if_neg c8] at H
         exact absurd H (by simp)
     · rw [if_neg c7] at H
       have c7b0 : decide (x13_1 < (l0.length : Int)) = false := decide_eq_false c7
       clear c7
       obtain rfl := Option.some.inj H
       go_wp2
       go_ret
       exact ⟨_, by first | rfl | (simp [errW_none, errW_some] <;> rfl) | (simp [*, errW_none, errW_some] <;> rfl), rq_ HO_5, bsw_⟩
 · replace c4 := Bool.eq_false_iff.mpr c4
   subst c4
   rw [if_neg (show ¬ (false = true) by decide)] at H
   obtain rfl := Option.some.inj H
   go_enter Try.func29, Try.ntmps29
   go_wp2_with (first | ((with_reducible refine gate_dst (N := 3) rfl ?_); refine box_event ?hg (N := 3) ?hd (cs := #[.slice A1 l1.length c1]) (t := 27) ?hr ?_; (case hd => rfl); (case hg => rfl); (case hr => first | (go_simp; done) | (go_simp; rfl)); intro gb203 hg w28 hbox hb; replace BK203 := Aside0.mk (hbox); replace GW203 := Aside0.mk ((by rw [hg]; exact bsz_ : w.heap.size ≤ gb203)); replace HB := Aside0.mk (bst_ hb); replace GE203 := GW203; clear hb hbox hg) | ((with_reducible refine gate_callee (f := 26) rfl ?_); refine goesL_ (some 9) rfl rfl Try.func26 (by kernel_rfl) rfl #[.slice A0 l0.length c0] rfl mp_ ?_; (with_reducible refine (sleep_Right.calls k _ _ l0 false _ ?side1 ?side2 A3.out).mono ?_); (case side1 => repeat (first | exact (Kd.C_below HR0.out HB.out) | with_reducible first | refine Kd.C_alloc ?_ _ | refine Kd.C_drewN ?_ _ | refine Kd.C_drew ?_)); (case side2 => exact HC0.out); rintro e w29 ⟨rfl, hb⟩; refine ⟨_, rfl, ?_⟩; replace BK203 := bb_ BK203 hb; replace HB := Aside0.mk (below_step bsw_ hb); (try clear hb); (try clear hb2); (try clear hk); (try clear hi)))
   go_ret
   exact ⟨_, by first | rfl | (simp [errW_none, errW_some] <;> rfl) | (simp [*, errW_none, errW_some] <;> rfl), by first | exact Kd.R_nil _ _ _ _ _ | exact Kd.N_nil _ _ _ _ _ | exact Kd.V_nil _ _ _ _ _ | exact Kd.Q_nil _ _ _ _ _ | exact Kd.S_nil _ _ _ _ _, bsw_⟩

-- NOT PRINTED: function 86 (slices_IndexFunc_86)

/-! ### reads_place_1: function 87 -/
def reads_place_1.f (a0_0 : Int) (a0_1 : Int) (a0_2 : Int) (a1 : Int) : Option (Bool) := some (a0_0 == a1)
set_option maxHeartbeats 8000000 in
set_option maxRecDepth 100000 in
theorem reads_place_1.calls (a0_0 : Int) (a0_1 : Int) (a0_2 : Int) (g1 : Nat) (a1 : Int) (r : Bool) (w : World) (hb1 : w.heap[g1]? = some (.cells #[.int .i64 a1] 3 (0, 0))) (h : reads_place_1.f a0_0 a0_1 a0_2 a1 = some r) :
 Calls Try.prog 87 #[.agg #[.int .i64 a0_0, .int .i64 a0_1, .int .i64 a0_2], .pointer (some ⟨g1, 0, none⟩)] w fun e w' => e = .returned (.bool r) ∧ Below w.heap.size w w' := by
 have hu57 := Try.underlying57
 have BK1 := Aside0.mk hb1
 clear hb1
 have HB := Aside0.mk (Below.refl w.heap.size w)
 have H : (some (a0_0 == a1)) = some r := h
 clear h
 obtain rfl := Option.some.inj H
 go_enter Try.func87, Try.ntmps87
 go_wp2_with (first | ((with_reducible refine gate_dst (N := 2) rfl ?_); refine box_event ?hg (N := 2) ?hd (cs := #[.int .i64 a0_0, .int .i64 a0_1, .int .i64 a0_2]) (t := 57) ?hr ?_; (case hd => rfl); (case hg => rfl); (case hr => first | (go_simp; done) | (go_simp; rfl)); intro gb214 hg w3 hbox hb; replace BK214 := Aside0.mk (hbox); replace GW214 := Aside0.mk ((by rw [hg]; exact (below_size bsw_) : w.heap.size ≤ gb214)); replace HB := Aside0.mk (below_step bsw_ hb); replace GE214 := GW214; replace NB1_214 := Aside0.mk ((by rw [hg]; exact Nat.ne_of_lt (blk_lt (g := g1) (o := .cells #[.int .i64 a1] 3 (0, 0)) (bq_ BK1)) : g1 ≠ gb214)); replace NB214_1 := Aside0.mk ((by rw [hg]; exact Nat.ne_of_gt (blk_lt (g := g1) (o := .cells #[.int .i64 a1] 3 (0, 0)) (bq_ BK1)) : gb214 ≠ g1)); replace BK1 := bb_ BK1 hb; clear hb hbox hg; have hnb4 := NB214_1.out; have hnc4 := NB1_214.out; have hcz5_0 : w3.cell? ⟨gb214, 0, none⟩ = some (.int .i64 a0_0) := (blk_cell BK214.out 0).trans rfl; have hcz5_1 : w3.cell? ⟨gb214, 1, none⟩ = some (.int .i64 a0_1) := (blk_cell BK214.out 1).trans rfl; have hcz5_2 : w3.cell? ⟨gb214, 2, none⟩ = some (.int .i64 a0_2) := (blk_cell BK214.out 2).trans rfl; have hfz5_0 := blk_frozen BK214.out 0; have hfz5_1 := blk_frozen BK214.out 1; have hfz5_2 := blk_frozen BK214.out 2; have hcz6_0 : w3.cell? ⟨g1, 0, none⟩ = some (.int .i64 a1) := (blk_cell BK1.out 0).trans rfl; have hfz6_0 := blk_frozen BK1.out 0))
 go_ret
 exact ⟨by first | rfl | (simp [errW_none, errW_some] <;> rfl) | (simp [*, errW_none, errW_some] <;> rfl), by repeat (first | (with_reducible first | exact HB.out | apply below_alloc | apply pw_below_drewN | apply below_drew1 | refine below_set ?_ GE1.out | refine below_set ?_ GE214.out) | exact HB.out)⟩

/-! ### ho86: slices.IndexFunc, function 86, at whatever function value that reads -/
set_option maxHeartbeats 2000000 in
theorem ho86 (p : S57 → Option Bool) (g : Nat) (la lb : Array Value) (eg : ∀ args w, (callFunc g args).run Try.prog w = .ok (.enter g args) w) (A0 : Option Addr) (c0 : Nat) (l0 : List S57) (r : Int) (w : World)
 (hr0 : Kd.C k57 w A0 l0.length l0)
 (hp : ∀ (W : World) (x : S57) (b : Bool), Below w.heap.size w W → p x = some b → Calls Try.prog g (la ++ #[.agg #[.int .i64 x.f0, .int .i64 x.f1, .int .i64 x.f2]] ++ lb) W fun e W' => e = .returned (.bool b) ∧ Below W.heap.size W W')
 (h : idxF p l0 0 = some r) :
 Calls Try.prog 86 #[.slice A0 l0.length c0, .func (.func g) la lb] w fun e w' => e = .returned (.int .i64 r) ∧ Below w.heap.size w w' := by
 have hmax : l0.length ≤ 9223372036854775807 := Kd.C_max hr0
 have hread : ∀ (W : World), Below w.heap.size w W → ∀ j : Nat, j < l0.length → ∃ ad, A0 = some ad ∧ W.cell? (ad.add (j * 3)) = some (.int .i64 ((rd_T57 l0 j).f0)) ∧ W.cell? ⟨(ad.add (j * 3)).block, (ad.add (j * 3)).off + 1, none⟩ = some (.int .i64 ((rd_T57 l0 j).f1)) ∧ W.cell? ⟨(ad.add (j * 3)).block, (ad.add (j * 3)).off + 2, none⟩ = some (.int .i64 ((rd_T57 l0 j).f2)) := by
  intro W hW j hj
  have := at_T57 (Kd.C_below hr0 hW) (j : Int) (by omega) (by omega)
  simpa only [Int.toNat_natCast] using this
 generalize hn : l0.length = n at *
 have HR := Aside0.mk hread
 have HP := Aside0.mk hp
 have HH := Aside0.mk h
 clear hread hp h hr0
 have HN := Aside0.mk hn
 clear hn
 go_enter Try.func86, Try.ntmps86
 go_wp2
 go_loopg [5, 8] n (fun gg _ s8 wr => ∃ kk : Nat, kk ≤ n ∧ n - kk ≤ gg ∧ s8 = .int .i64 kk ∧ Aside0 (Below w.heap.size w wr) ∧ Aside0 (idxF p (l0.drop kk) kk = some r))
 case atStart => exact ⟨0, Nat.zero_le _, by omega, rfl, ⟨Below.refl _ w⟩, ⟨HH.out⟩⟩
 case round =>
  obtain ⟨kk, hkk, hg, rfl, BW, HI⟩ := hrel
  by_cases hlt : kk < n
  · have hltz : (kk : Int) < (n : Int) := by omega
    obtain ⟨ad, e0, q0, q1, q2⟩ := HR.out wr BW.out kk hlt
    have hi := HI.out
    rw [idxF_drop p l0 z57 kk (by rw [HN.out]; exact hlt)] at hi
    obtain ⟨b, hb, hi⟩ := Option.bind_eq_some_iff.mp hi
    have hcall := HP.out wr _ b BW.out hb
    (try rw [show l0.getD kk z57 = rd_T57 l0 kk from rfl] at hcall)
    generalize rd_T57 l0 kk = y at q0 q1 q2 hcall
    subst e0
    clear hb HI
    cases b with
    | true =>
     have hi2 : (kk : Int) = r := by simpa using hi
     clear hi
     have HE := Aside0.mk hi2
     clear hi2
     go_wp2_with (go_at_fn g; refine hcall.mono ?_; rintro e w' ⟨rfl, hb'⟩)
     go_ret
     exact ⟨by first | rfl | (rw [← HE.out]; rfl) | simp [HE.out], BW.out.trans (hb'.mono BW.out.size)⟩
    | false =>
     have hi2 : idxF p (l0.drop (kk + 1)) (kk + 1) = some r := by simpa using hi
     clear hi
     have HE := Aside0.mk hi2
     clear hi2
     go_wp2_with (go_at_fn g; refine hcall.mono ?_; rintro e w' ⟨rfl, hb'⟩)
     go_roundg (n - (kk + 1))
     case measure => omega
     case rel =>
      exact ⟨kk + 1, by omega, by omega, by go_num, ⟨BW.out.trans (hb'.mono BW.out.size)⟩, ⟨HE.out⟩⟩
  · have hltz : ¬ (kk : Int) < (n : Int) := by omega
    have : kk = n := by omega
    subst this
    have hi := HI.out
    rw [List.drop_of_length_le (by rw [HN.out]; omega)] at hi
    have hi2 : -1 = r := by simpa [idxF] using hi
    clear hi HI
    have HE := Aside0.mk hi2
    clear hi2
    go_wp2
    go_ret
    exact ⟨by first | rfl | (rw [← HE.out]; rfl) | simp [HE.out], BW.out⟩

/-! ### idx_at_reads_place_1: function 86 at the function value 87 -/
def idx_at_reads_place_1.f (l0 : List (S57)) (a1 : Int) : Option (Int) := idxF (fun x => reads_place_1.f  x.f0 x.f1 x.f2 a1) l0 0
theorem idx_at_reads_place_1.calls (A0 : Option Addr) (c0 : Nat) (l0 : List (S57)) (g1 : Nat) (a1 : Int) (r : Int) (w : World) (hr0 : Kd.C k57 w A0 l0.length l0) (hc0 : l0.length ≤ c0) (hb1 : w.heap[g1]? = some (.cells #[.int .i64 a1] 3 (0, 0))) (h : idx_at_reads_place_1.f l0 a1 = some r) :
 Calls Try.prog 86 #[.slice A0 l0.length c0, .func (.func 87) #[] #[.pointer (some ⟨g1, 0, none⟩)]] w fun e w' => e = .returned (.int .i64 r) ∧ Below w.heap.size w w' :=
 ho86 (fun x => reads_place_1.f  x.f0 x.f1 x.f2 a1) 87 #[] #[.pointer (some ⟨g1, 0, none⟩)] (enters_of Try.func87 (by kernel_rfl) rfl) A0 c0 l0 r w hr0 (fun W x b hW_ hx => by
  show Calls Try.prog 87 #[.agg #[.int .i64 x.f0, .int .i64 x.f1, .int .i64 x.f2], .pointer (some ⟨g1, 0, none⟩)] W _
  exact (reads_place_1.calls  x.f0 x.f1 x.f2 g1 a1 b W (hW_.block g1 (by have := (Array.getElem?_eq_some_iff.1 hb1).1; exact this) ▸ hb1) hx).mono (fun e W' ⟨he, hd⟩ => ⟨he, hd⟩)) h

/-! ### reads_place: function 60 -/
def reads_place.f (l0 : List (S57)) (a1 : Int) : Option (Int) := (idx_at_reads_place_1.f l0 a1).bind fun t216 => (some t216)
set_option maxHeartbeats 8000000 in
set_option maxRecDepth 100000 in
theorem reads_place.calls (A0 : Option Addr) (c0 : Nat) (l0 : List (S57)) (a1 : Int) (r : Int) (w : World) (hr0 : Kd.C k57 w A0 l0.length l0) (hc0 : l0.length ≤ c0) (h : reads_place.f l0 a1 = some r) :
 Calls Try.prog 60 #[.slice A0 l0.length c0, .int .i64 a1] w fun e w' => e = .returned (.int .i64 r) ∧ Below w.heap.size w w' := by
 have HR0 := Aside0.mk hr0
 have HC0 := Aside0.mk hc0
 clear hr0 hc0
 have HB := Aside0.mk (Below.refl w.heap.size w)
 have H : ((idx_at_reads_place_1.f l0 a1).bind fun t216 => (some t216)) = some r := h
 clear h
 replace H := Option.bind_eq_some_iff.mp H
 obtain ⟨t216, A30, H⟩ := H
 have A3 := Aside0.mk A30
 clear A30
 obtain rfl := Option.some.inj H
 go_enter Try.func60, Try.ntmps60
 go_wp2_with (first | ((with_reducible refine gate_dst (N := 3) rfl ?_); refine box_event ?hg (N := 3) ?hd (cs := #[.int .i64 a1]) (t := 3) ?hr ?_; (case hd => rfl); (case hg => rfl); (case hr => first | (go_simp; done) | (go_simp; rfl)); intro gb215 hg w4 hbox hb; replace BK215 := Aside0.mk (hbox); replace GW215 := Aside0.mk ((by rw [hg]; exact bsz_ : w.heap.size ≤ gb215)); replace HB := Aside0.mk (bst_ hb); replace GE215 := GW215; clear hb hbox hg) | ((with_reducible refine gate_callee (f := 86) rfl ?_); refine goesL_ (some 7) rfl rfl Try.func86 (by kernel_rfl) rfl #[.slice A0 l0.length c0, .func (.func 87) #[] #[.pointer (some ⟨gb215, 0, none⟩)]] rfl mp_ ?_; (with_reducible refine (idx_at_reads_place_1.calls _ _ l0 gb215 a1 t216 _ ?side1 ?side2 ?side3 A3.out).mono ?_); (case side1 => repeat (first | exact (Kd.C_below HR0.out HB.out) | with_reducible first | refine Kd.C_alloc ?_ _ | refine Kd.C_drewN ?_ _ | refine Kd.C_drew ?_)); (case side2 => exact HC0.out); (case side3 => exact (bq_ BK215)); rintro e w5 ⟨rfl, hb⟩; refine ⟨_, rfl, ?_⟩; replace BK215 := bb_ BK215 hb; replace HB := Aside0.mk (below_step bsw_ hb); (try clear hb); (try clear hb2); (try clear hk); (try clear hi)))
 go_ret
 exact ⟨by first | rfl | (simp [errW_none, errW_some] <;> rfl) | (simp [*, errW_none, errW_some] <;> rfl), bsw_⟩

end Go.Proofs.Ytjnkpocfmpbpoaa.Se
