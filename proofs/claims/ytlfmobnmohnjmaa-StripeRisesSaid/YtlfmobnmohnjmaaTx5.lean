-- PRINTED by print.py (a twelfth state) out of the translation. Not trusted: Lean checks it.
import Derived.Test.YtlfmobnmohnjmaaTx0
namespace Go.Proofs.Ytlfmobnmohnjmaa.T
open Go.Proofs.Ytlfmobnmohnjmaa.Ho
open Go.RowKit Go.Proofs.YtlfmobnmohnjmaaW.PrintWords Go.Proofs.YtlfmobnmohnjmaaW.PrintLast Go.Proofs.YtlfmobnmohnjmaaW.PrintMore
attribute [local go_sem] max2_int min2_int max_two min_two max_three min_three max_four min_four   -- for this text's walks alone
set_option linter.unusedVariables false
set_option linter.unusedSimpArgs false

/-! ### handshakerref03_Right: function 38 -/
def handshakerref03_Right.l0 : Nat → List (S67) → Int → Option (Bool)
 | 0, _, _ => none
 | k + 1, x0, x3 => if x3 < (x0.length : Int) then (if 0 ≤ x3 then (if ((rd_T67 x0 x3).f0) < 0 then (some false) else (if ((rd_T67 x0 x3).f0) > 2147483647 then (some false) else (if ((rd_T67 x0 x3).f1) < 0 then (some false) else (if ((rd_T67 x0 x3).f1) > 8 then (some false) else (handshakerref03_Right.l0 k x0 (wrap64 (x3 + 1))))))) else (none)) else (if (x0.length : Int) > 0 then (some (decide ((x0.length : Int) < 17))) else (some false))
def handshakerref03_Right.f (k : Nat) (l0 : List (S67)) : Option (Bool) := handshakerref03_Right.l0 k l0 0
theorem handshakerref03_Right.mono_l : ∀ k, (∀ y0 y1, LeO (handshakerref03_Right.l0 k y0 y1) (handshakerref03_Right.l0 (k + 1) y0 y1))
 | 0 => fun _ _ r h => by simp [handshakerref03_Right.l0] at h
 | k + 1 => by
  have ih0 := handshakerref03_Right.mono_l k
  · intro y0 y1
    unfold handshakerref03_Right.l0
    repeat' first
    | (with_reducible exact ih0 _ _)
    | (with_reducible exact LeO.refl _)
    | (with_reducible exact LeO.none _)
    | (with_reducible refine LeO.ite ?_ ?_)
    | (with_reducible refine LeO.bind ?_ (fun _ => ?_))
    | exact ih0 _ _
    | exact LeO.none _
    | refine LeO.ite ?_ ?_
    | refine LeO.bind ?_ (fun _ => ?_)
theorem handshakerref03_Right.mono : ∀ a0 k, LeO (handshakerref03_Right.f k a0) (handshakerref03_Right.f (k + 1) a0) := by
 intro a0 k
 have ih0 := handshakerref03_Right.mono_l k
 unfold handshakerref03_Right.f
 repeat' first
  | (with_reducible exact ih0 _ _)
  | (with_reducible exact LeO.refl _)
  | (with_reducible exact LeO.none _)
  | (with_reducible refine LeO.ite ?_ ?_)
  | (with_reducible refine LeO.bind ?_ (fun _ => ?_))
  | exact ih0 _ _
  | exact LeO.none _
  | refine LeO.ite ?_ ?_
  | refine LeO.bind ?_ (fun _ => ?_)
set_option maxHeartbeats 8000000 in
set_option maxRecDepth 100000 in
theorem handshakerref03_Right.calls (k : Nat) (A0 : Option Addr) (c0 : Nat) (l0 : List (S67)) (r : Bool) (w : World) (hr0 : Kd.C k67 w A0 l0.length l0) (hc0 : l0.length ≤ c0) (h : handshakerref03_Right.f k l0 = some r) :
 Calls Try.prog 38 #[.slice A0 l0.length c0] w fun e w' => e = .returned (.bool r) ∧ Drawn0 w w' := by
 have HR0 := Aside0.mk hr0
 have HC0 := Aside0.mk hc0
 clear hr0 hc0
 have H : (handshakerref03_Right.l0 k l0 0) = some r := h
 clear h
 have H' := Aside0.mk H
 clear H
 go_enter Try.func38, Try.ntmps38
 go_wp2
 go_loopg [3] k (fun kq v3 w' => ∃ (x3_1 : Int), v3 = .int .i64 x3_1 ∧ Aside0 (handshakerref03_Right.l0 kq l0 x3_1 = some r) ∧ Aside0 (kq ≤ k) ∧ Drawn0 w w')
 case atStart => exact ⟨(0), (by first | rfl | (simp; done) | (simp [*]; done)), H', ⟨Nat.le_refl _⟩, by repeat (first | exact Drawn0.refl _ | apply Drawn0.step)⟩
 case round =>
  clear H'
  obtain ⟨x3_1, rfl, HA, HK1, ⟨m1, rfl⟩⟩ := hrel
  cases gk with
  | zero => exact absurd HA.out (by simp [handshakerref03_Right.l0])
  | succ k1 =>
   have H := HA.out
   clear HA
   simp only [handshakerref03_Right.l0] at H
   by_cases c2 : x3_1 < (l0.length : Int)
   · rw [if_pos c2] at H
     have c2b0 : decide (x3_1 < (l0.length : Int)) = true := decide_eq_true c2
     clear c2
     by_cases c3 : 0 ≤ x3_1
     · rw [if_pos c3] at H
       have c3b0 : decide (0 ≤ x3_1) = true := decide_eq_true c3
       clear c3
       by_cases c4 : ((rd_T67 l0 x3_1).f0) < 0
       · rw [if_pos c4] at H
         have c4b0 : decide (((rd_T67 l0 x3_1).f0) < 0) = true := decide_eq_true c4
         clear c4
         obtain rfl := Option.some.inj H
         have p220 : 0 ≤ (x3_1 : Int) := of_decide_eq_true (by first | (with_reducible assumption) | assumption)
         have q220 : x3_1 < (l0.length : Int) := of_decide_eq_true (by first | (with_reducible assumption) | assumption)
         obtain ⟨ad220, e220, hx220_0, hx220_1⟩ := at_T67 HR0.out x3_1 p220 q220
         cases e220
         replace p220 := eq_true p220
         replace q220 := eq_true q220
         go_wp2
         go_ret
         exact ⟨by first | rfl | (simp; done) | (simp [*]; done), by repeat (first | exact Drawn0.refl _ | apply Drawn0.step)⟩
       · rw [if_neg c4] at H
         have c4b0 : decide (((rd_T67 l0 x3_1).f0) < 0) = false := decide_eq_false c4
         clear c4
         by_cases c5 : ((rd_T67 l0 x3_1).f0) > 2147483647
         · rw [if_pos c5] at H
           have c5b0 : decide (2147483647 < ((rd_T67 l0 x3_1).f0)) = true := decide_eq_true c5
           clear c5
           obtain rfl := Option.some.inj H
           have p220 : 0 ≤ (x3_1 : Int) := of_decide_eq_true (by first | (with_reducible assumption) | assumption)
           have q220 : x3_1 < (l0.length : Int) := of_decide_eq_true (by first | (with_reducible assumption) | assumption)
           obtain ⟨ad220, e220, hx220_0, hx220_1⟩ := at_T67 HR0.out x3_1 p220 q220
           cases e220
           replace p220 := eq_true p220
           replace q220 := eq_true q220
           have p221 : 0 ≤ (x3_1 : Int) := of_decide_eq_true (by first | (with_reducible assumption) | assumption)
           have q221 : x3_1 < (l0.length : Int) := of_decide_eq_true (by first | (with_reducible assumption) | assumption)
           obtain ⟨ad221, e221, hx221_0, hx221_1⟩ := at_T67 HR0.out x3_1 p221 q221
           obtain rfl : ad220 = ad221 := (by injection e221)
           replace p221 := eq_true p221
           replace q221 := eq_true q221
           go_wp2
           go_ret
           exact ⟨by first | rfl | (simp; done) | (simp [*]; done), by repeat (first | exact Drawn0.refl _ | apply Drawn0.step)⟩
         · rw [if_neg c5] at H
           have c5b0 : decide (2147483647 < ((rd_T67 l0 x3_1).f0)) = false := decide_eq_false c5
           clear c5
           by_cases c6 : ((rd_T67 l0 x3_1).f1) < 0
           · rw [if_pos c6] at H
             have c6b0 : decide (((rd_T67 l0 x3_1).f1) < 0) = true := decide_eq_true c6
             clear c6
             obtain rfl := Option.some.inj H
             have p220 : 0 ≤ (x3_1 : Int) := of_decide_eq_true (by first | (with_reducible assumption) | assumption)
             have q220 : x3_1 < (l0.length : Int) := of_decide_eq_true (by first | (with_reducible assumption) | assumption)
             obtain ⟨ad220, e220, hx220_0, hx220_1⟩ := at_T67 HR0.out x3_1 p220 q220
             cases e220
             replace p220 := eq_true p220
             replace q220 := eq_true q220
             have p221 : 0 ≤ (x3_1 : Int) := of_decide_eq_true (by first | (with_reducible assumption) | assumption)
             have q221 : x3_1 < (l0.length : Int) := of_decide_eq_true (by first | (with_reducible assumption) | assumption)
             obtain ⟨ad221, e221, hx221_0, hx221_1⟩ := at_T67 HR0.out x3_1 p221 q221
             obtain rfl : ad220 = ad221 := (by injection e221)
             replace p221 := eq_true p221
             replace q221 := eq_true q221
             have p222 : 0 ≤ (x3_1 : Int) := of_decide_eq_true (by first | (with_reducible assumption) | assumption)
             have q222 : x3_1 < (l0.length : Int) := of_decide_eq_true (by first | (with_reducible assumption) | assumption)
             obtain ⟨ad222, e222, hx222_0, hx222_1⟩ := at_T67 HR0.out x3_1 p222 q222
             obtain rfl : ad220 = ad222 := (by injection e222)
             replace p222 := eq_true p222
             replace q222 := eq_true q222
             go_wp2
             go_ret
             exact ⟨by first | rfl | (simp; done) | (simp [*]; done), by repeat (first | exact Drawn0.refl _ | apply Drawn0.step)⟩
           · rw [if_neg c6] at H
             have c6b0 : decide (((rd_T67 l0 x3_1).f1) < 0) = false := decide_eq_false c6
             clear c6
             by_cases c7 : ((rd_T67 l0 x3_1).f1) > 8
             · rw [if_pos c7] at H
               have c7b0 : decide (8 < ((rd_T67 l0 x3_1).f1)) = true := decide_eq_true c7
               clear c7
               obtain rfl := Option.some.inj H
               have p220 : 0 ≤ (x3_1 : Int) := of_decide_eq_true (by first | (with_reducible assumption) | assumption)
               have q220 : x3_1 < (l0.length : Int) := of_decide_eq_true (by first | (with_reducible assumption) | assumption)
               obtain ⟨ad220, e220, hx220_0, hx220_1⟩ := at_T67 HR0.out x3_1 p220 q220
               cases e220
               replace p220 := eq_true p220
               replace q220 := eq_true q220
               have p221 : 0 ≤ (x3_1 : Int) := of_decide_eq_true (by first | (with_reducible assumption) | assumption)
               have q221 : x3_1 < (l0.length : Int) := of_decide_eq_true (by first | (with_reducible assumption) | assumption)
               obtain ⟨ad221, e221, hx221_0, hx221_1⟩ := at_T67 HR0.out x3_1 p221 q221
               obtain rfl : ad220 = ad221 := (by injection e221)
               replace p221 := eq_true p221
               replace q221 := eq_true q221
               have p222 : 0 ≤ (x3_1 : Int) := of_decide_eq_true (by first | (with_reducible assumption) | assumption)
               have q222 : x3_1 < (l0.length : Int) := of_decide_eq_true (by first | (with_reducible assumption) | assumption)
               obtain ⟨ad222, e222, hx222_0, hx222_1⟩ := at_T67 HR0.out x3_1 p222 q222
               obtain rfl : ad220 = ad222 := (by injection e222)
               replace p222 := eq_true p222
               replace q222 := eq_true q222
               have p223 : 0 ≤ (x3_1 : Int) := of_decide_eq_true (by first | (with_reducible assumption) | assumption)
               have q223 : x3_1 < (l0.length : Int) := of_decide_eq_true (by first | (with_reducible assumption) | assumption)
               obtain ⟨ad223, e223, hx223_0, hx223_1⟩ := at_T67 HR0.out x3_1 p223 q223
               obtain rfl : ad220 = ad223 := (by injection e223)
               replace p223 := eq_true p223
               replace q223 := eq_true q223
               go_wp2
               go_ret
               exact ⟨by first | rfl | (simp; done) | (simp [*]; done), by repeat (first | exact Drawn0.refl _ | apply Drawn0.step)⟩
             · rw [if_neg c7] at H
               have c7b0 : decide (8 < ((rd_T67 l0 x3_1).f1)) = false := decide_eq_false c7
               clear c7
               have H' := Aside0.mk H
               clear H
               have p220 : 0 ≤ (x3_1 : Int) := of_decide_eq_true (by first | (with_reducible assumption) | assumption)
               have q220 : x3_1 < (l0.length : Int) := of_decide_eq_true (by first | (with_reducible assumption) | assumption)
               obtain ⟨ad220, e220, hx220_0, hx220_1⟩ := at_T67 HR0.out x3_1 p220 q220
               cases e220
               replace p220 := eq_true p220
               replace q220 := eq_true q220
               have p221 : 0 ≤ (x3_1 : Int) := of_decide_eq_true (by first | (with_reducible assumption) | assumption)
               have q221 : x3_1 < (l0.length : Int) := of_decide_eq_true (by first | (with_reducible assumption) | assumption)
               obtain ⟨ad221, e221, hx221_0, hx221_1⟩ := at_T67 HR0.out x3_1 p221 q221
               obtain rfl : ad220 = ad221 := (by injection e221)
               replace p221 := eq_true p221
               replace q221 := eq_true q221
               have p222 : 0 ≤ (x3_1 : Int) := of_decide_eq_true (by first | (with_reducible assumption) | assumption)
               have q222 : x3_1 < (l0.length : Int) := of_decide_eq_true (by first | (with_reducible assumption) | assumption)
               obtain ⟨ad222, e222, hx222_0, hx222_1⟩ := at_T67 HR0.out x3_1 p222 q222
               obtain rfl : ad220 = ad222 := (by injection e222)
               replace p222 := eq_true p222
               replace q222 := eq_true q222
               have p223 : 0 ≤ (x3_1 : Int) := of_decide_eq_true (by first | (with_reducible assumption) | assumption)
               have q223 : x3_1 < (l0.length : Int) := of_decide_eq_true (by first | (with_reducible assumption) | assumption)
               obtain ⟨ad223, e223, hx223_0, hx223_1⟩ := at_T67 HR0.out x3_1 p223 q223
               obtain rfl : ad220 = ad223 := (by injection e223)
               replace p223 := eq_true p223
               replace q223 := eq_true q223
               go_wp2
               go_roundg k1
               case measure => have := HK1.out; omega
               case rel => exact ⟨(wrap64 (x3_1 + 1)), (by first | rfl | (simp; done) | (simp [*]; done)), H', ⟨by have := HK1.out; omega⟩, by repeat (first | exact Drawn0.refl _ | apply Drawn0.step)⟩
     · rw [if_neg c3] at H
       exact absurd H (by simp)
   · rw [if_neg c2] at H
     have c2b0 : decide (x3_1 < (l0.length : Int)) = false := decide_eq_false c2
     clear c2
     by_cases c8 : (l0.length : Int) > 0
     · rw [if_pos c8] at H
       have c8b0 : decide (0 < (l0.length : Int)) = true := decide_eq_true c8
       have c8b1 : decide (0 < l0.length) = true := decide_eq_true (by omega)
       clear c8
       obtain rfl := Option.some.inj H
       go_wp2
       go_ret
       exact ⟨by first | rfl | (simp; done) | (simp [*]; done), by repeat (first | exact Drawn0.refl _ | apply Drawn0.step)⟩
     · rw [if_neg c8] at H
       have c8b0 : decide (0 < (l0.length : Int)) = false := decide_eq_false c8
       have c8b1 : decide (0 < l0.length) = false := decide_eq_false (by omega)
       clear c8
       obtain rfl := Option.some.inj H
       go_wp2
       go_ret
       exact ⟨by first | rfl | (simp; done) | (simp [*]; done), by repeat (first | exact Drawn0.refl _ | apply Drawn0.step)⟩

/-! ### handshakerref03_Cells: function 64 -/
def handshakerref03_Cells.l0 : Nat → List Int → Int → Option (Bool)
 | 0, _, _ => none
 | k + 1, x0, x3 => if x3 < (x0.length : Int) then (if 0 ≤ x3 then (if (rd x0 x3) < 0 then (some false) else (handshakerref03_Cells.l0 k x0 (wrap64 (x3 + 1)))) else (none)) else (some true)
def handshakerref03_Cells.f (k : Nat) (l0 : List Int) : Option (Bool) := handshakerref03_Cells.l0 k l0 0
theorem handshakerref03_Cells.mono_l : ∀ k, (∀ y0 y1, LeO (handshakerref03_Cells.l0 k y0 y1) (handshakerref03_Cells.l0 (k + 1) y0 y1))
 | 0 => fun _ _ r h => by simp [handshakerref03_Cells.l0] at h
 | k + 1 => by
  have ih0 := handshakerref03_Cells.mono_l k
  · intro y0 y1
    unfold handshakerref03_Cells.l0
    repeat' first
    | (with_reducible exact ih0 _ _)
    | (with_reducible exact LeO.refl _)
    | (with_reducible exact LeO.none _)
    | (with_reducible refine LeO.ite ?_ ?_)
    | (with_reducible refine LeO.bind ?_ (fun _ => ?_))
    | exact ih0 _ _
    | exact LeO.none _
    | refine LeO.ite ?_ ?_
    | refine LeO.bind ?_ (fun _ => ?_)
theorem handshakerref03_Cells.mono : ∀ a0 k, LeO (handshakerref03_Cells.f k a0) (handshakerref03_Cells.f (k + 1) a0) := by
 intro a0 k
 have ih0 := handshakerref03_Cells.mono_l k
 unfold handshakerref03_Cells.f
 repeat' first
  | (with_reducible exact ih0 _ _)
  | (with_reducible exact LeO.refl _)
  | (with_reducible exact LeO.none _)
  | (with_reducible refine LeO.ite ?_ ?_)
  | (with_reducible refine LeO.bind ?_ (fun _ => ?_))
  | exact ih0 _ _
  | exact LeO.none _
  | refine LeO.ite ?_ ?_
  | refine LeO.bind ?_ (fun _ => ?_)
set_option maxHeartbeats 8000000 in
set_option maxRecDepth 100000 in
theorem handshakerref03_Cells.calls (k : Nat) (A0 : Option Addr) (c0 : Nat) (l0 : List Int) (r : Bool) (w : World) (hr0 : Kd.C (Kd.int .i64) w A0 l0.length l0) (hc0 : l0.length ≤ c0) (h : handshakerref03_Cells.f k l0 = some r) :
 Calls Try.prog 64 #[.slice A0 l0.length c0] w fun e w' => e = .returned (.bool r) ∧ Drawn0 w w' := by
 have HR0 := Aside0.mk hr0
 have HC0 := Aside0.mk hc0
 clear hr0 hc0
 have H : (handshakerref03_Cells.l0 k l0 0) = some r := h
 clear h
 have H' := Aside0.mk H
 clear H
 go_enter Try.func64, Try.ntmps64
 go_wp2
 go_loopg [3] k (fun kq v3 w' => ∃ (x3_1 : Int), v3 = .int .i64 x3_1 ∧ Aside0 (handshakerref03_Cells.l0 kq l0 x3_1 = some r) ∧ Aside0 (kq ≤ k) ∧ Drawn0 w w')
 case atStart => exact ⟨(0), (by first | rfl | (simp; done) | (simp [*]; done)), H', ⟨Nat.le_refl _⟩, by repeat (first | exact Drawn0.refl _ | apply Drawn0.step)⟩
 case round =>
  clear H'
  obtain ⟨x3_1, rfl, HA, HK1, ⟨m1, rfl⟩⟩ := hrel
  cases gk with
  | zero => exact absurd HA.out (by simp [handshakerref03_Cells.l0])
  | succ k1 =>
   have H := HA.out
   clear HA
   simp only [handshakerref03_Cells.l0] at H
   by_cases c2 : x3_1 < (l0.length : Int)
   · rw [if_pos c2] at H
     have c2b0 : decide (x3_1 < (l0.length : Int)) = true := decide_eq_true c2
     clear c2
     by_cases c3 : 0 ≤ x3_1
     · rw [if_pos c3] at H
       have c3b0 : decide (0 ≤ x3_1) = true := decide_eq_true c3
       clear c3
       by_cases c4 : (rd l0 x3_1) < 0
       · rw [if_pos c4] at H
         have c4b0 : decide ((rd l0 x3_1) < 0) = true := decide_eq_true c4
         clear c4
         obtain rfl := Option.some.inj H
         have p224 : 0 ≤ (x3_1 : Int) := of_decide_eq_true (by first | (with_reducible assumption) | assumption)
         have q224 : x3_1 < (l0.length : Int) := of_decide_eq_true (by first | (with_reducible assumption) | assumption)
         obtain ⟨ad224, e224, hx224_0⟩ := Kd.at_int HR0.out x3_1 p224 q224
         cases e224
         replace p224 := eq_true p224
         replace q224 := eq_true q224
         go_wp2
         go_ret
         exact ⟨by first | rfl | (simp; done) | (simp [*]; done), by repeat (first | exact Drawn0.refl _ | apply Drawn0.step)⟩
       · rw [if_neg c4] at H
         have c4b0 : decide ((rd l0 x3_1) < 0) = false := decide_eq_false c4
         clear c4
         have H' := Aside0.mk H
         clear H
         have p224 : 0 ≤ (x3_1 : Int) := of_decide_eq_true (by first | (with_reducible assumption) | assumption)
         have q224 : x3_1 < (l0.length : Int) := of_decide_eq_true (by first | (with_reducible assumption) | assumption)
         obtain ⟨ad224, e224, hx224_0⟩ := Kd.at_int HR0.out x3_1 p224 q224
         cases e224
         replace p224 := eq_true p224
         replace q224 := eq_true q224
         go_wp2
         go_roundg k1
         case measure => have := HK1.out; omega
         case rel => exact ⟨(wrap64 (x3_1 + 1)), (by first | rfl | (simp; done) | (simp [*]; done)), H', ⟨by have := HK1.out; omega⟩, by repeat (first | exact Drawn0.refl _ | apply Drawn0.step)⟩
     · rw [if_neg c3] at H
       exact absurd H (by simp)
   · rw [if_neg c2] at H
     have c2b0 : decide (x3_1 < (l0.length : Int)) = false := decide_eq_false c2
     clear c2
     obtain rfl := Option.some.inj H
     go_wp2
     go_ret
     exact ⟨by first | rfl | (simp; done) | (simp [*]; done), by repeat (first | exact Drawn0.refl _ | apply Drawn0.step)⟩

/-! ### handshakerref03_in: function 65 -/
def handshakerref03_in.l0 : Nat → List Int → Int → Int → Option (Bool)
 | 0, _, _, _ => none
 | k + 1, x0, x1, x5 => if x5 < (x0.length : Int) then (if 0 ≤ x5 then (if (rd x0 x5) = x1 then (some true) else (handshakerref03_in.l0 k x0 x1 (wrap64 (x5 + 1)))) else (none)) else (some false)
def handshakerref03_in.f (k : Nat) (l0 : List Int) (a1 : Int) : Option (Bool) := handshakerref03_in.l0 k l0 a1 0
theorem handshakerref03_in.mono_l : ∀ k, (∀ y0 y1 y2, LeO (handshakerref03_in.l0 k y0 y1 y2) (handshakerref03_in.l0 (k + 1) y0 y1 y2))
 | 0 => fun _ _ _ r h => by simp [handshakerref03_in.l0] at h
 | k + 1 => by
  have ih0 := handshakerref03_in.mono_l k
  · intro y0 y1 y2
    unfold handshakerref03_in.l0
    repeat' first
    | (with_reducible exact ih0 _ _ _)
    | (with_reducible exact LeO.refl _)
    | (with_reducible exact LeO.none _)
    | (with_reducible refine LeO.ite ?_ ?_)
    | (with_reducible refine LeO.bind ?_ (fun _ => ?_))
    | exact ih0 _ _ _
    | exact LeO.none _
    | refine LeO.ite ?_ ?_
    | refine LeO.bind ?_ (fun _ => ?_)
theorem handshakerref03_in.mono : ∀ a0 a1 k, LeO (handshakerref03_in.f k a0 a1) (handshakerref03_in.f (k + 1) a0 a1) := by
 intro a0 a1 k
 have ih0 := handshakerref03_in.mono_l k
 unfold handshakerref03_in.f
 repeat' first
  | (with_reducible exact ih0 _ _ _)
  | (with_reducible exact LeO.refl _)
  | (with_reducible exact LeO.none _)
  | (with_reducible refine LeO.ite ?_ ?_)
  | (with_reducible refine LeO.bind ?_ (fun _ => ?_))
  | exact ih0 _ _ _
  | exact LeO.none _
  | refine LeO.ite ?_ ?_
  | refine LeO.bind ?_ (fun _ => ?_)
set_option maxHeartbeats 8000000 in
set_option maxRecDepth 100000 in
theorem handshakerref03_in.calls (k : Nat) (A0 : Option Addr) (c0 : Nat) (l0 : List Int) (a1 : Int) (r : Bool) (w : World) (hr0 : Kd.C (Kd.int .i64) w A0 l0.length l0) (hc0 : l0.length ≤ c0) (h : handshakerref03_in.f k l0 a1 = some r) :
 Calls Try.prog 65 #[.slice A0 l0.length c0, .int .i64 a1] w fun e w' => e = .returned (.bool r) ∧ Drawn0 w w' := by
 have HR0 := Aside0.mk hr0
 have HC0 := Aside0.mk hc0
 clear hr0 hc0
 have H : (handshakerref03_in.l0 k l0 a1 0) = some r := h
 clear h
 have H' := Aside0.mk H
 clear H
 go_enter Try.func65, Try.ntmps65
 go_wp2
 go_loopg [5] k (fun kq v5 w' => ∃ (x5_1 : Int), v5 = .int .i64 x5_1 ∧ Aside0 (handshakerref03_in.l0 kq l0 a1 x5_1 = some r) ∧ Aside0 (kq ≤ k) ∧ Drawn0 w w')
 case atStart => exact ⟨(0), (by first | rfl | (simp; done) | (simp [*]; done)), H', ⟨Nat.le_refl _⟩, by repeat (first | exact Drawn0.refl _ | apply Drawn0.step)⟩
 case round =>
  clear H'
  try clear p2
  obtain ⟨x5_1, rfl, HA, HK1, ⟨m1, rfl⟩⟩ := hrel
  cases gk with
  | zero => exact absurd HA.out (by simp [handshakerref03_in.l0])
  | succ k1 =>
   have H := HA.out
   clear HA
   simp only [handshakerref03_in.l0] at H
   by_cases c3 : x5_1 < (l0.length : Int)
   · rw [if_pos c3] at H
     have c3b0 : decide (x5_1 < (l0.length : Int)) = true := decide_eq_true c3
     clear c3
     by_cases c4 : 0 ≤ x5_1
     · rw [if_pos c4] at H
       have c4b0 : decide (0 ≤ x5_1) = true := decide_eq_true c4
       clear c4
       by_cases c5 : (rd l0 x5_1) = a1
       · rw [if_pos c5] at H
         have c5b0 : ((rd l0 x5_1) == a1) = true := beq_iff_eq.mpr c5
         have c5b1 : ((rd l0 x5_1) != a1) = false := bne_eq_false_iff_eq.mpr c5
         clear c5
         obtain rfl := Option.some.inj H
         have p225 : 0 ≤ (x5_1 : Int) := of_decide_eq_true (by first | (with_reducible assumption) | assumption)
         have q225 : x5_1 < (l0.length : Int) := of_decide_eq_true (by first | (with_reducible assumption) | assumption)
         obtain ⟨ad225, e225, hx225_0⟩ := Kd.at_int HR0.out x5_1 p225 q225
         cases e225
         replace p225 := eq_true p225
         replace q225 := eq_true q225
         go_wp2
         go_ret
         exact ⟨by first | rfl | (simp; done) | (simp [*]; done), by repeat (first | exact Drawn0.refl _ | apply Drawn0.step)⟩
       · rw [if_neg c5] at H
         have c5b0 : ((rd l0 x5_1) == a1) = false := beq_eq_false_iff_ne.mpr c5
         have c5b1 : ((rd l0 x5_1) != a1) = true := bne_iff_ne.mpr c5
         have H' := Aside0.mk H
         clear H
         have p225 : 0 ≤ (x5_1 : Int) := of_decide_eq_true (by first | (with_reducible assumption) | assumption)
         have q225 : x5_1 < (l0.length : Int) := of_decide_eq_true (by first | (with_reducible assumption) | assumption)
         obtain ⟨ad225, e225, hx225_0⟩ := Kd.at_int HR0.out x5_1 p225 q225
         cases e225
         replace p225 := eq_true p225
         replace q225 := eq_true q225
         go_wp2
         go_roundg k1
         case measure => have := HK1.out; omega
         case rel => exact ⟨(wrap64 (x5_1 + 1)), (by first | rfl | (simp; done) | (simp [*]; done)), H', ⟨by have := HK1.out; omega⟩, by repeat (first | exact Drawn0.refl _ | apply Drawn0.step)⟩
     · rw [if_neg c4] at H
       exact absurd H (by simp)
   · rw [if_neg c3] at H
     have c3b0 : decide (x5_1 < (l0.length : Int)) = false := decide_eq_false c3
     clear c3
     obtain rfl := Option.some.inj H
     go_wp2
     go_ret
     exact ⟨by first | rfl | (simp; done) | (simp [*]; done), by repeat (first | exact Drawn0.refl _ | apply Drawn0.step)⟩

/-! ### handshakerref03_Of: function 39 -/
mutual
def handshakerref03_Of.j0 : Nat → List (S67) → List Int → Bool → Option (List Int)
 | 0, _, _, _ => none
 | k + 1, x0, x1, x21 => if x21 = true then (some ([] : List Int)) else (handshakerref03_Of.l0 k x0 x1 ([] : List Int) 0)
def handshakerref03_Of.l0 : Nat → List (S67) → List Int → List Int → Int → Option (List Int)
 | 0, _, _, _, _ => none
 | k + 1, x0, x1, x7, x9 => if x9 < (x1.length : Int) then (if 0 ≤ x9 then (if (x0.length : Int) = 0 then (none) else (if x7.length < 17592186044416 then (handshakerref03_Of.l0 k x0 x1 (x7 ++ [Int.tmod (rd x1 x9) (x0.length : Int)]) (wrap64 (x9 + 1))) else (none))) else (none)) else (handshakerref03_Of.l1 k x0 x7 ([] : List Int) 0)
def handshakerref03_Of.l1 : Nat → List (S67) → List Int → List Int → Int → Option (List Int)
 | 0, _, _, _, _ => none
 | k + 1, x0, x7, x8, x10 => if x10 < (x0.length : Int) then ((handshakerref03_in.f k x7 x10).bind fun t232 => (if t232 = true then (if x8.length < 17592186044416 then (handshakerref03_Of.l1 k x0 x7 (x8 ++ [x10]) (wrap64 (x10 + 1))) else (none)) else (handshakerref03_Of.l1 k x0 x7 x8 (wrap64 (x10 + 1))))) else (some x8)
end
def handshakerref03_Of.f (k : Nat) (l0 : List (S67)) (l1 : List Int) : Option (List Int) := (handshakerref03_Right.f k l0).bind fun t226 => ((handshakerref03_Cells.f k l1).bind fun t227 => (if t226 = true then (handshakerref03_Of.j0 k l0 l1 (!t227)) else (handshakerref03_Of.j0 k l0 l1 true)))
theorem handshakerref03_Of.mono_l : ∀ k, (∀ y0 y1 y2, LeO (handshakerref03_Of.j0 k y0 y1 y2) (handshakerref03_Of.j0 (k + 1) y0 y1 y2)) ∧ (∀ y0 y1 y2 y3, LeO (handshakerref03_Of.l0 k y0 y1 y2 y3) (handshakerref03_Of.l0 (k + 1) y0 y1 y2 y3)) ∧ (∀ y0 y1 y2 y3, LeO (handshakerref03_Of.l1 k y0 y1 y2 y3) (handshakerref03_Of.l1 (k + 1) y0 y1 y2 y3))
 | 0 => ⟨fun _ _ _ r h => by simp [handshakerref03_Of.j0] at h, fun _ _ _ _ r h => by simp [handshakerref03_Of.l0] at h, fun _ _ _ _ r h => by simp [handshakerref03_Of.l1] at h⟩
 | k + 1 => by
  obtain ⟨ih0, ih1, ih2⟩ := handshakerref03_Of.mono_l k
  refine ⟨?_, ?_, ?_⟩
  · intro y0 y1 y2
    unfold handshakerref03_Of.j0
    repeat' first
    | (with_reducible exact ih0 _ _ _)
    | (with_reducible exact ih1 _ _ _ _)
    | (with_reducible exact ih2 _ _ _ _)
    | (with_reducible exact handshakerref03_Cells.mono _ _)
    | (with_reducible exact handshakerref03_Right.mono _ _)
    | (with_reducible exact handshakerref03_in.mono _ _ _)
    | (with_reducible exact LeO.refl _)
    | (with_reducible exact LeO.none _)
    | (with_reducible refine LeO.ite ?_ ?_)
    | (with_reducible refine LeO.bind ?_ (fun _ => ?_))
    | exact ih0 _ _ _
    | exact ih1 _ _ _ _
    | exact ih2 _ _ _ _
    | exact handshakerref03_Cells.mono _ _
    | exact handshakerref03_Right.mono _ _
    | exact handshakerref03_in.mono _ _ _
    | exact LeO.none _
    | refine LeO.ite ?_ ?_
    | refine LeO.bind ?_ (fun _ => ?_)
  · intro y0 y1 y2 y3
    unfold handshakerref03_Of.l0
    repeat' first
    | (with_reducible exact ih0 _ _ _)
    | (with_reducible exact ih1 _ _ _ _)
    | (with_reducible exact ih2 _ _ _ _)
    | (with_reducible exact handshakerref03_Cells.mono _ _)
    | (with_reducible exact handshakerref03_Right.mono _ _)
    | (with_reducible exact handshakerref03_in.mono _ _ _)
    | (with_reducible exact LeO.refl _)
    | (with_reducible exact LeO.none _)
    | (with_reducible refine LeO.ite ?_ ?_)
    | (with_reducible refine LeO.bind ?_ (fun _ => ?_))
    | exact ih0 _ _ _
    | exact ih1 _ _ _ _
    | exact ih2 _ _ _ _
    | exact handshakerref03_Cells.mono _ _
    | exact handshakerref03_Right.mono _ _
    | exact handshakerref03_in.mono _ _ _
    | exact LeO.none _
    | refine LeO.ite ?_ ?_
    | refine LeO.bind ?_ (fun _ => ?_)
  · intro y0 y1 y2 y3
    unfold handshakerref03_Of.l1
    repeat' first
    | (with_reducible exact ih0 _ _ _)
    | (with_reducible exact ih1 _ _ _ _)
    | (with_reducible exact ih2 _ _ _ _)
    | (with_reducible exact handshakerref03_Cells.mono _ _)
    | (with_reducible exact handshakerref03_Right.mono _ _)
    | (with_reducible exact handshakerref03_in.mono _ _ _)
    | (with_reducible exact LeO.refl _)
    | (with_reducible exact LeO.none _)
    | (with_reducible refine LeO.ite ?_ ?_)
    | (with_reducible refine LeO.bind ?_ (fun _ => ?_))
    | exact ih0 _ _ _
    | exact ih1 _ _ _ _
    | exact ih2 _ _ _ _
    | exact handshakerref03_Cells.mono _ _
    | exact handshakerref03_Right.mono _ _
    | exact handshakerref03_in.mono _ _ _
    | exact LeO.none _
    | refine LeO.ite ?_ ?_
    | refine LeO.bind ?_ (fun _ => ?_)
theorem handshakerref03_Of.mono : ∀ a0 a1 k, LeO (handshakerref03_Of.f k a0 a1) (handshakerref03_Of.f (k + 1) a0 a1) := by
 intro a0 a1 k
 obtain ⟨ih0, ih1, ih2⟩ := handshakerref03_Of.mono_l k
 unfold handshakerref03_Of.f
 repeat' first
  | (with_reducible exact ih0 _ _ _)
  | (with_reducible exact ih1 _ _ _ _)
  | (with_reducible exact ih2 _ _ _ _)
  | (with_reducible exact handshakerref03_Cells.mono _ _)
  | (with_reducible exact handshakerref03_Right.mono _ _)
  | (with_reducible exact handshakerref03_in.mono _ _ _)
  | (with_reducible exact LeO.refl _)
  | (with_reducible exact LeO.none _)
  | (with_reducible refine LeO.ite ?_ ?_)
  | (with_reducible refine LeO.bind ?_ (fun _ => ?_))
  | exact ih0 _ _ _
  | exact ih1 _ _ _ _
  | exact ih2 _ _ _ _
  | exact handshakerref03_Cells.mono _ _
  | exact handshakerref03_Right.mono _ _
  | exact handshakerref03_in.mono _ _ _
  | exact LeO.none _
  | refine LeO.ite ?_ ?_
  | refine LeO.bind ?_ (fun _ => ?_)
set_option maxHeartbeats 8000000 in
set_option maxRecDepth 100000 in
theorem handshakerref03_Of.calls (k : Nat) (A0 : Option Addr) (c0 : Nat) (l0 : List (S67)) (A1 : Option Addr) (c1 : Nat) (l1 : List Int) (r : List Int) (w : World) (hr0 : Kd.C k67 w A0 l0.length l0) (hc0 : l0.length ≤ c0) (hr1 : Kd.C (Kd.int .i64) w A1 l1.length l1) (hc1 : l1.length ≤ c1) (h : handshakerref03_Of.f k l0 l1 = some r) :
 Calls Try.prog 39 #[.slice A0 l0.length c0, .slice A1 l1.length c1] w fun e w' => ∃ v0_ : Value, e = .returned (v0_) ∧ Kd.R (Kd.int .i64) 3 w' w.heap.size (fun _ => True) v0_ r ∧ Below w.heap.size w w' := by
 have HR0 := Aside0.mk hr0
 have HC0 := Aside0.mk hc0
 clear hr0 hc0
 have HR1 := Aside0.mk hr1
 have HC1 := Aside0.mk hc1
 clear hr1 hc1
 have HB := Aside0.mk (Below.refl w.heap.size w)
 have H : ((handshakerref03_Right.f k l0).bind fun t226 => ((handshakerref03_Cells.f k l1).bind fun t227 => (if t226 = true then (handshakerref03_Of.j0 k l0 l1 (!t227)) else (handshakerref03_Of.j0 k l0 l1 true)))) = some r := h
 clear h
 replace H := Option.bind_eq_some_iff.mp H
 obtain ⟨t226, A30, H⟩ := H
 replace H : ((handshakerref03_Cells.f k l1).bind fun t227 => (if t226 = true then (handshakerref03_Of.j0 k l0 l1 (!t227)) else (handshakerref03_Of.j0 k l0 l1 true))) = some r := H
 have A3 := Aside0.mk A30
 clear A30
 replace H := Option.bind_eq_some_iff.mp H
 obtain ⟨t227, A40, H⟩ := H
 replace H : (if t226 = true then (handshakerref03_Of.j0 k l0 l1 (!t227)) else (handshakerref03_Of.j0 k l0 l1 true)) = some r := H
 have A4 := Aside0.mk A40
 clear A40
 have HC5 := Aside0.mk H
 clear H
 go_enter Try.func39, Try.ntmps39
 go_upto_region 2 with (first | ((with_reducible refine gate_callee (f := 38) rfl ?_); refine goesL_ (some 13) rfl rfl Try.func38 (by kernel_rfl) rfl #[.slice A0 l0.length c0] rfl (by (try simp only [List.map_toArray, List.map_cons, List.map_nil]); first | done | rfl) ?_; (with_reducible refine (handshakerref03_Right.calls k _ _ l0 t226 _ ?side1 ?side2 A3.out).mono ?_); (case side1 => repeat (first | exact HR0.out | with_reducible first | refine Kd.C_alloc ?_ _ | refine Kd.C_drewN ?_ _ | refine Kd.C_drew ?_)); (case side2 => exact HC0.out); rintro e w' ⟨rfl, ⟨nd, rfl⟩⟩; refine ⟨_, rfl, ?_⟩) | ((with_reducible refine gate_callee (f := 64) rfl ?_); refine goesL_ (some 15) rfl rfl Try.func64 (by kernel_rfl) rfl #[.slice A1 l1.length c1] rfl (by (try simp only [List.map_toArray, List.map_cons, List.map_nil]); first | done | rfl) ?_; (with_reducible refine (handshakerref03_Cells.calls k _ _ l1 t227 _ ?side1 ?side2 A4.out).mono ?_); (case side1 => repeat (first | exact HR1.out | with_reducible first | refine Kd.C_alloc ?_ _ | refine Kd.C_drewN ?_ _ | refine Kd.C_drew ?_)); (case side2 => exact HC1.out); rintro e w' ⟨rfl, ⟨nd, rfl⟩⟩; refine ⟨_, rfl, ?_⟩))
 (try simp only [Act.put, List.setIfInBounds_toArray, List.set_cons_zero, List.set_cons_succ])
 go_cut [21] (fun v21 wc => ∃ (kq : Nat) (x21_4 : Bool), v21 = .bool x21_4 ∧ Aside0 (handshakerref03_Of.j0 kq l0 l1 x21_4 = some r) ∧ Aside0 (kq ≤ k) ∧ Aside0 (Below w.heap.size w wc))
 case first =>
  have H := HC5.out
  clear HC5
  by_cases c6 : t226 = true
  · subst c6
    have H1 : (handshakerref03_Of.j0 k l0 l1 (!t227)) = some r := by rw [if_pos rfl] at H; exact H
    clear H
    have H := H1
    clear H1
    have H' := Aside0.mk H
    clear H
    go_wp2
    go_meet
    case rel => exact ⟨_, (!t227), (by first | rfl | (simp; done) | (simp [*]; done)), H', ⟨by first | omega | exact Nat.le_refl _⟩, ⟨by repeat (with_reducible first | exact HB.out | apply below_alloc | apply pw_below_drewN | apply below_drew1)⟩⟩
  · replace c6 := Bool.eq_false_iff.mpr c6
    subst c6
    have H1 : (handshakerref03_Of.j0 k l0 l1 true) = some r := by rw [if_neg (show ¬ (false = true) by decide)] at H; exact H
    clear H
    have H := H1
    clear H1
    have H' := Aside0.mk H
    clear H
    go_wp2
    go_meet
    case rel => exact ⟨_, (true), (by first | rfl | (simp; done) | (simp [*]; done)), H', ⟨by first | omega | exact Nat.le_refl _⟩, ⟨by repeat (with_reducible first | exact HB.out | apply below_alloc | apply pw_below_drewN | apply below_drew1)⟩⟩
 case rest =>
  clear HC5
  try clear c1
  try clear p2
  try clear c3
  try clear c6
  obtain ⟨kq, x21_4, rfl, HA, HJ4, HB⟩ := hcut
  cases kq with
  | zero => exact absurd HA.out (by simp [handshakerref03_Of.j0])
  | succ kj4 =>
   have H := HA.out
   clear HA
   simp only [handshakerref03_Of.j0] at H
   by_cases c7 : x21_4 = true
   · subst c7
     have H1 : (some ([] : List Int)) = some r := by rw [if_pos rfl] at H; exact H
     clear H
     have H := H1
     clear H1
     obtain rfl := Option.some.inj H
     go_wp2
     go_ret
     exact ⟨_, by first | rfl | (simp [errW_none, errW_some] <;> rfl) | (simp [*, errW_none, errW_some] <;> rfl), by first | exact Kd.R_nil _ _ _ _ _ | exact Kd.N_nil _ _ _ _ _ | exact Kd.V_nil _ _ _ _ _ | exact Kd.Q_nil _ _ _ _ _ | exact Kd.S_nil _ _ _ _ _, by repeat (with_reducible first | exact HB.out | apply below_alloc | apply pw_below_drewN | apply below_drew1)⟩
   · replace c7 := Bool.eq_false_iff.mpr c7
     subst c7
     have H1 : (handshakerref03_Of.l0 kj4 l0 l1 ([] : List Int) 0) = some r := by rw [if_neg (show ¬ (false = true) by decide)] at H; exact H
     clear H
     have H := H1
     clear H1
     have H' := Aside0.mk H
     clear H
     go_wp2
     go_loopg [7, 9] kj4 (fun kq v7 v9 w' => ∃ (x7_2 : List Int) (x9_2 : Int), v9 = .int .i64 x9_2 ∧ Aside0 (handshakerref03_Of.l0 kq l0 l1 x7_2 x9_2 = some r) ∧ Aside0 (kq ≤ kj4) ∧ Aside0 (Kd.R (Kd.int .i64) 3 w' w.heap.size (fun _ => True) v7 x7_2) ∧ Aside0 (Below w.heap.size w w'))
     case atStart => exact ⟨(([] : List Int)), (0), (by first | rfl | (simp; done) | (simp [*]; done)), H', ⟨Nat.le_refl _⟩, ⟨by first | exact Kd.R_nil _ _ _ _ _ | exact Kd.N_nil _ _ _ _ _ | exact Kd.V_nil _ _ _ _ _ | exact Kd.Q_nil _ _ _ _ _ | exact Kd.S_nil _ _ _ _ _⟩, ⟨by repeat (with_reducible first | exact HB.out | apply below_alloc | apply pw_below_drewN | apply below_drew1)⟩⟩
     case round =>
      clear H'
      try clear c1
      try clear p2
      try clear c3
      try clear c6
      try clear c7
      try clear p2
      obtain ⟨x7_2, x9_2, rfl, HA, HK2, HO_7, HB⟩ := hrel
      cases gk with
      | zero => exact absurd HA.out (by simp [handshakerref03_Of.l0])
      | succ k2 =>
       have H := HA.out
       clear HA
       simp only [handshakerref03_Of.l0] at H
       by_cases c8 : x9_2 < (l1.length : Int)
       · rw [if_pos c8] at H
         have c8b0 : decide (x9_2 < (l1.length : Int)) = true := decide_eq_true c8
         clear c8
         by_cases c9 : 0 ≤ x9_2
         · rw [if_pos c9] at H
           have c9b0 : decide (0 ≤ x9_2) = true := decide_eq_true c9
           clear c9
           by_cases c10 : (l0.length : Int) = 0
           · rw [if_pos c10] at H
             exact absurd H (by simp)
           · rw [if_neg c10] at H
             have c10b0 : ((l0.length : Int) == 0) = false := beq_eq_false_iff_ne.mpr c10
             have c10b1 : ((l0.length : Int) != 0) = true := bne_iff_ne.mpr c10
             have c10b2 : ¬ (l0 = []) := fun h_ => c10 (by rw [h_]; rfl)
             by_cases c11 : x7_2.length < 17592186044416
             · rw [if_pos c11] at H
               have LMc11 := Aside0.mk c11
               clear c11
               obtain ⟨y229, hy229⟩ : ∃ y_ : List Int, y_ = (x7_2 ++ [Int.tmod (rd l1 x9_2) (l0.length : Int)]) := ⟨_, rfl⟩
               replace H : (handshakerref03_Of.l0 k2 l0 l1 y229 (wrap64 (x9_2 + 1))) = some r := by first | (rw [hy229]; with_reducible exact H) | (have H2_ := (Option.bind_some _ _).symm.trans H; rw [hy229]; with_reducible exact H2_) | (have H2_ := (Option.bind_some _ _).symm.trans H; with_reducible exact H2_) | with_reducible exact H | (rw [hy229]; exact H) | exact H
               have Ny229 := Aside0.mk hy229
               clear hy229
               have H' := Aside0.mk H
               clear H
               have p228 : 0 ≤ (x9_2 : Int) := of_decide_eq_true (by first | (with_reducible assumption) | assumption)
               have q228 : x9_2 < (l1.length : Int) := of_decide_eq_true (by first | (with_reducible assumption) | assumption)
               obtain ⟨ad228, e228, hx228_0⟩ := Kd.at_int HR1.out x9_2 p228 q228
               cases e228
               replace hx228_0 := (HB.out.cell (World.block_lt_of_cell? w _ hx228_0)).trans hx228_0
               replace p228 := eq_true p228
               replace q228 := eq_true q228
               go_wp2_with (first | ((with_reducible refine gate_builtin (b := .append) (xs := #[.tmp 28, .tmp 36]) rfl ?_); at_builtin; refine Kd.R_append (Kd.int .i64) (w0 := w) w.heap.size rfl (.tmp 28) (.tmp 36) 35 3 (.int .i64 0) 8 rfl Try.underlying35 info3 rfl (by decide) (by omega) u7 x7_2 (Int.tmod (rd l1 x9_2) (l0.length : Int)) [.int .i64 (Int.tmod (rd l1 x9_2) (l0.length : Int))] (fun _ => True) (fun _ => False) rfl rfl ?aP (fun _ hk => hk.elim) ?aF ?aO ?aB ?aS ?aL ?_; (case aP => exact rfl); (case aB => exact (by repeat (with_reducible first | exact HB.out | apply below_alloc | apply pw_below_drewN | apply below_drew1))); (case aF => exact (fun _ _ => trivial)); (case aO => exact (by (with_reducible repeat (first | apply Kd.R_alloc | apply Kd.R_drewN | apply Kd.R_drew)); exact HO_7.out)); (case aS => exact bsz_); (case aL => have := LMc11.out; omega); intro v230 w12 ho hb hg hat; rw [← Ny229.out] at ho; have n0_ := Aside0.mk (hb); have n1_ := Aside0.mk (ho); clear HB; clear HO_7; have HB := n0_; have HO231 := n1_; clear n0_ n1_; clear ho hb hg hat))
               go_roundg k2
               case measure => have := HJ4.out; have := HK2.out; omega
               case rel => exact ⟨(y229), (wrap64 (x9_2 + 1)), (by first | rfl | (simp; done) | (simp [*]; done)), H', ⟨by have := HJ4.out; have := HK2.out; omega⟩, ⟨by (with_reducible repeat (first | apply Kd.R_alloc | apply Kd.R_drewN | apply Kd.R_drew)); exact HO231.out⟩, ⟨by repeat (with_reducible first | exact HB.out | apply below_alloc | apply pw_below_drewN | apply below_drew1)⟩⟩
             · rw [if_neg c11] at H
               exact absurd H (by simp)
         · rw [if_neg c9] at H
           exact absurd H (by simp)
       · rw [if_neg c8] at H
         have c8b0 : decide (x9_2 < (l1.length : Int)) = false := decide_eq_false c8
         clear c8
         have H' := Aside0.mk H
         clear H
         go_wp2
         go_loopg [8, 10] k2 (fun kq v8 v10 w' => ∃ (x8_3 : List Int) (x10_3 : Int), v10 = .int .i64 x10_3 ∧ Aside0 (handshakerref03_Of.l1 kq l0 x7_2 x8_3 x10_3 = some r) ∧ Aside0 (kq ≤ k2) ∧ Aside0 (Kd.R (Kd.int .i64) 3 w' w.heap.size (fun k_ => some k_ ≠ (v8 : Value).ownBlock) u7 x7_2) ∧ Aside0 (Kd.R (Kd.int .i64) 3 w' w.heap.size (fun k_ => some k_ ≠ (u7 : Value).ownBlock) v8 x8_3) ∧ Aside0 (Below w.heap.size w w'))
         case atStart => exact ⟨(([] : List Int)), (0), (by first | rfl | (simp; done) | (simp [*]; done)), H', ⟨Nat.le_refl _⟩, ⟨by (with_reducible repeat (first | apply Kd.R_alloc | apply Kd.R_drewN | apply Kd.R_drew)); exact Kd.R_mono HO_7.out (fun _ hk => (by simp [Value.ownBlock]))⟩, ⟨by first | exact Kd.R_nil _ _ _ _ _ | exact Kd.N_nil _ _ _ _ _ | exact Kd.V_nil _ _ _ _ _ | exact Kd.Q_nil _ _ _ _ _ | exact Kd.S_nil _ _ _ _ _⟩, ⟨by repeat (with_reducible first | exact HB.out | apply below_alloc | apply pw_below_drewN | apply below_drew1)⟩⟩
         case round =>
          clear H'
          try clear c1
          try clear p2
          try clear q2
          try clear hx2
          try clear c3
          try clear c6
          try clear p6
          try clear c7
          try clear c8
          try clear c8b0
          try clear c9
          try clear c9b0
          try clear c10
          try clear c10b0
          try clear c10b1
          try clear c10b2
          try clear c11
          try clear hx228_0
          try clear p2
          try clear p228
          try clear q228
          obtain ⟨x8_3, x10_3, rfl, HA, HK3, HO_7, HO_8, HB⟩ := hrel
          cases gk with
          | zero => exact absurd HA.out (by simp [handshakerref03_Of.l1])
          | succ k3 =>
           have H := HA.out
           clear HA
           simp only [handshakerref03_Of.l1] at H
           by_cases c13 : x10_3 < (l0.length : Int)
           · rw [if_pos c13] at H
             have c13b0 : decide (x10_3 < (l0.length : Int)) = true := decide_eq_true c13
             clear c13
             replace H := Option.bind_eq_some_iff.mp H
             obtain ⟨t232, A140, H⟩ := H
             replace H : (if t232 = true then (if x8_3.length < 17592186044416 then (handshakerref03_Of.l1 k3 l0 x7_2 (x8_3 ++ [x10_3]) (wrap64 (x10_3 + 1))) else (none)) else (handshakerref03_Of.l1 k3 l0 x7_2 x8_3 (wrap64 (x10_3 + 1)))) = some r := H
             have A14 := Aside0.mk A140
             clear A140
             by_cases c15 : t232 = true
             · subst c15
               have H1 : (if x8_3.length < 17592186044416 then (handshakerref03_Of.l1 k3 l0 x7_2 (x8_3 ++ [x10_3]) (wrap64 (x10_3 + 1))) else (none)) = some r := by rw [if_pos rfl] at H; exact H
               clear H
               have H := H1
               clear H1
               by_cases c16 : x8_3.length < 17592186044416
               · rw [if_pos c16] at H
                 have LMc16 := Aside0.mk c16
                 clear c16
                 obtain ⟨y233, hy233⟩ : ∃ y_ : List Int, y_ = (x8_3 ++ [x10_3]) := ⟨_, rfl⟩
                 replace H : (handshakerref03_Of.l1 k3 l0 x7_2 y233 (wrap64 (x10_3 + 1))) = some r := by first | (rw [hy233]; with_reducible exact H) | (have H2_ := (Option.bind_some _ _).symm.trans H; rw [hy233]; with_reducible exact H2_) | (have H2_ := (Option.bind_some _ _).symm.trans H; with_reducible exact H2_) | with_reducible exact H | (rw [hy233]; exact H) | exact H
                 have Ny233 := Aside0.mk hy233
                 clear hy233
                 have H' := Aside0.mk H
                 clear H
                 obtain ⟨Ao17, co17, eo17⟩ := Kd.R_slice HO_7.out
                 subst eo17
                 go_wp2_with (first | ((with_reducible refine gate_callee (f := 65) rfl ?_); refine goesL_ (some 46) rfl rfl Try.func65 (by kernel_rfl) rfl #[.slice Ao17 x7_2.length co17, .int .i64 x10_3] rfl (by (try simp only [List.map_toArray, List.map_cons, List.map_nil]); first | done | rfl) ?_; (with_reducible refine (handshakerref03_in.calls k3 _ _ x7_2 x10_3 true _ ?side1 ?side2 A14.out).mono ?_); (case side1 => repeat (first | exact (Kd.R_reads' HO_7.out).2.2 | with_reducible first | refine Kd.C_alloc ?_ _ | refine Kd.C_drewN ?_ _ | refine Kd.C_drew ?_)); (case side2 => exact (Kd.R_reads' HO_7.out).2.1); rintro e w' ⟨rfl, ⟨nd, rfl⟩⟩; refine ⟨_, rfl, ?_⟩) | ((with_reducible refine gate_builtin (b := .append) (xs := #[.tmp 48, .tmp 50]) rfl ?_); at_builtin; refine Kd.R_append (Kd.int .i64) (w0 := w) w.heap.size rfl (.tmp 48) (.tmp 50) 35 3 (.int .i64 0) 8 rfl Try.underlying35 info3 rfl (by decide) (by omega) u8 x8_3 x10_3 [.int .i64 x10_3] (fun k_ => some k_ ≠ (.slice Ao17 x7_2.length co17 : Value).ownBlock) (fun _ => False) rfl rfl ?aP (fun _ hk => hk.elim) ?aF ?aO ?aB ?aS ?aL ?_; (case aP => exact rfl); (case aB => exact (by repeat (with_reducible first | exact HB.out | apply below_alloc | apply pw_below_drewN | apply below_drew1))); (case aF => exact (fun k_ hk => Kd.fresh' (Kd.R_lt (by (with_reducible repeat (first | apply Kd.R_alloc | apply Kd.R_drewN | apply Kd.R_drew)); exact HO_7.out)) k_ hk)); (case aO => exact (by (with_reducible repeat (first | apply Kd.R_alloc | apply Kd.R_drewN | apply Kd.R_drew)); exact HO_8.out)); (case aS => exact bsz_); (case aL => have := LMc16.out; omega); intro v234 w18 ho hb hg hat; rw [← Ny233.out] at ho; have n0_ := Aside0.mk (Kd.R_after (ok := (fun _ => True)) (by (with_reducible repeat (first | apply Kd.R_alloc | apply Kd.R_drewN | apply Kd.R_drew)); exact Kd.R_mono HO_7.out (fun _ hk => ⟨trivial, hk⟩)) hg hat); have n1_ := Aside0.mk (hb); have n2_ := Aside0.mk (ho); clear HO_7; clear HB; clear HO_8; have HO_7 := n0_; have HB := n1_; have HO235 := n2_; clear n0_ n1_ n2_; clear ho hb hg hat))
                 go_roundg k3
                 case measure => have := HJ4.out; have := HK2.out; have := HK3.out; omega
                 case rel => exact ⟨(y233), (wrap64 (x10_3 + 1)), (by first | rfl | (simp; done) | (simp [*]; done)), H', ⟨by have := HJ4.out; have := HK2.out; have := HK3.out; omega⟩, ⟨by (with_reducible repeat (first | apply Kd.R_alloc | apply Kd.R_drewN | apply Kd.R_drew)); exact Kd.R_mono HO_7.out (fun _ hk => hk.2)⟩, ⟨by (with_reducible repeat (first | apply Kd.R_alloc | apply Kd.R_drewN | apply Kd.R_drew)); exact HO235.out⟩, ⟨by repeat (with_reducible first | exact HB.out | apply below_alloc | apply pw_below_drewN | apply below_drew1)⟩⟩
               · rw [if_neg c16] at H
                 exact absurd H (by simp)
             · replace c15 := Bool.eq_false_iff.mpr c15
               subst c15
               have H1 : (handshakerref03_Of.l1 k3 l0 x7_2 x8_3 (wrap64 (x10_3 + 1))) = some r := by rw [if_neg (show ¬ (false = true) by decide)] at H; exact H
               clear H
               have H := H1
               clear H1
               have H' := Aside0.mk H
               clear H
               obtain ⟨Ao19, co19, eo19⟩ := Kd.R_slice HO_7.out
               subst eo19
               go_wp2_with (first | ((with_reducible refine gate_callee (f := 65) rfl ?_); refine goesL_ (some 46) rfl rfl Try.func65 (by kernel_rfl) rfl #[.slice Ao19 x7_2.length co19, .int .i64 x10_3] rfl (by (try simp only [List.map_toArray, List.map_cons, List.map_nil]); first | done | rfl) ?_; (with_reducible refine (handshakerref03_in.calls k3 _ _ x7_2 x10_3 false _ ?side1 ?side2 A14.out).mono ?_); (case side1 => repeat (first | exact (Kd.R_reads' HO_7.out).2.2 | with_reducible first | refine Kd.C_alloc ?_ _ | refine Kd.C_drewN ?_ _ | refine Kd.C_drew ?_)); (case side2 => exact (Kd.R_reads' HO_7.out).2.1); rintro e w' ⟨rfl, ⟨nd, rfl⟩⟩; refine ⟨_, rfl, ?_⟩))
               go_roundg k3
               case measure => have := HJ4.out; have := HK2.out; have := HK3.out; omega
               case rel => exact ⟨(x8_3), (wrap64 (x10_3 + 1)), (by first | rfl | (simp; done) | (simp [*]; done)), H', ⟨by have := HJ4.out; have := HK2.out; have := HK3.out; omega⟩, ⟨by (with_reducible repeat (first | apply Kd.R_alloc | apply Kd.R_drewN | apply Kd.R_drew)); exact HO_7.out⟩, ⟨by (with_reducible repeat (first | apply Kd.R_alloc | apply Kd.R_drewN | apply Kd.R_drew)); exact HO_8.out⟩, ⟨by repeat (with_reducible first | exact HB.out | apply below_alloc | apply pw_below_drewN | apply below_drew1)⟩⟩
           · rw [if_neg c13] at H
             have c13b0 : decide (x10_3 < (l0.length : Int)) = false := decide_eq_false c13
             clear c13
             obtain rfl := Option.some.inj H
             go_wp2
             go_ret
             exact ⟨_, by first | rfl | (simp [errW_none, errW_some] <;> rfl) | (simp [*, errW_none, errW_some] <;> rfl), by (with_reducible repeat (first | apply Kd.R_alloc | apply Kd.R_drewN | apply Kd.R_drew)); exact Kd.R_mono HO_8.out (fun _ hk => trivial), by repeat (with_reducible first | exact HB.out | apply below_alloc | apply pw_below_drewN | apply below_drew1)⟩

/-! ### handshakerref03_Who: function 51 -/
def handshakerref03_Who.f (a0 : Int) : Option (Bool) := if a0 > 0 then (some (decide (a0 < 9))) else (some false)
set_option maxHeartbeats 8000000 in
set_option maxRecDepth 100000 in
theorem handshakerref03_Who.calls (a0 : Int) (r : Bool) (w : World) (h : handshakerref03_Who.f a0 = some r) :
 Calls Try.prog 51 #[.int .i64 a0] w fun e w' => e = .returned (.bool r) ∧ Drawn0 w w' := by
 have H : (if a0 > 0 then (some (decide (a0 < 9))) else (some false)) = some r := h
 clear h
 by_cases c2 : a0 > 0
 · rw [if_pos c2] at H
   have c2b0 : decide (0 < a0) = true := decide_eq_true c2
   clear c2
   obtain rfl := Option.some.inj H
   go_enter Try.func51, Try.ntmps51
   go_wp2
   go_ret
   exact ⟨by first | rfl | (simp; done) | (simp [*]; done), by repeat (first | exact Drawn0.refl _ | apply Drawn0.step)⟩
 · rw [if_neg c2] at H
   have c2b0 : decide (0 < a0) = false := decide_eq_false c2
   clear c2
   obtain rfl := Option.some.inj H
   go_enter Try.func51, Try.ntmps51
   go_wp2
   go_ret
   exact ⟨by first | rfl | (simp; done) | (simp [*]; done), by repeat (first | exact Drawn0.refl _ | apply Drawn0.step)⟩

end Go.Proofs.Ytlfmobnmohnjmaa.T
