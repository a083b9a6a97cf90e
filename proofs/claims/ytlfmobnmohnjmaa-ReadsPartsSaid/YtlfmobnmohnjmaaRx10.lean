-- PRINTED by print.py (a twelfth state) out of the translation. Not trusted: Lean checks it.
import Derived.Test.YtlfmobnmohnjmaaRx0
import Derived.Test.YtlfmobnmohnjmaaRx5
import Derived.Test.YtlfmobnmohnjmaaRx6
namespace Go.Proofs.Ytlfmobnmohnjmaa.R
open Go.Proofs.Ytlfmobnmohnjmaa.Ho
open Go.RowKit Go.Proofs.YtlfmobnmohnjmaaW.PrintWords Go.Proofs.YtlfmobnmohnjmaaW.PrintLast Go.Proofs.YtlfmobnmohnjmaaW.PrintMore
attribute [local go_sem] max2_int min2_int max_two min_two max_three min_three max_four min_four   -- for this text's walks alone
set_option linter.unusedVariables false
set_option linter.unusedSimpArgs false

/-! ### handshakerref03_Right: function 38 -/
def handshakerref03_Right.l0 : Nat → List (S67) → Int → Option (Bool)
 | 0, _, _ => none
 | k + 1, x0, x3 => if x3 < (x0.length : Int) then (if 0 ≤ x3 then (if ((rd_T67 x0 x3).f0) < 0 then (some false) else (if ((rd_T67 x0 x3).f0) > 2147483647 then (some false) else (if ((rd_T67 x0 x3).f1) < 0 then (some false) else (if ((rd_T67 x0 x3).f1) > 8 then (some false) else (handshakerref03_Right.l0 k x0 (wrap64 (x3 + 1))))))) else (none)) else (if (x0.length : Int) > 0 then (some (decide ((x0.length : Int) < 17))) else (some false))
def handshakerref03_Right.f (k : Nat) (l0 : List (S67)) : Option (Bool) := handshakerref03_Right.l0 k l0 0
theorem handshakerref03_Right.mono_l : ∀ k, (∀ y0 y1, LeO (handshakerref03_Right.l0 k y0 y1) (handshakerref03_Right.l0 (k + 1) y0 y1))
 | 0 => fun _ _ r h => by simp [handshakerref03_Right.l0] at h
 | k + 1 => by
  have ih0 := handshakerref03_Right.mono_l k
  · intro y0 y1
    unfold handshakerref03_Right.l0
    repeat' first
    | (with_reducible exact ih0 _ _)
    | (with_reducible exact LeO.refl _)
    | (with_reducible exact LeO.none _)
    | (with_reducible refine LeO.ite ?_ ?_)
    | (with_reducible refine LeO.bind ?_ (fun _ => ?_))
    | exact ih0 _ _
    | exact LeO.none _
    | refine LeO.ite ?_ ?_
    | refine LeO.bind ?_ (fun _ => ?_)
theorem handshakerref03_Right.mono : ∀ a0 k, LeO (handshakerref03_Right.f k a0) (handshakerref03_Right.f (k + 1) a0) := by
 intro a0 k
 have ih0 := handshakerref03_Right.mono_l k
 unfold handshakerref03_Right.f
 repeat' first
  | (with_reducible exact ih0 _ _)
  | (with_reducible exact LeO.refl _)
  | (with_reducible exact LeO.none _)
  | (with_reducible refine LeO.ite ?_ ?_)
  | (with_reducible refine LeO.bind ?_ (fun _ => ?_))
  | exact ih0 _ _
  | exact LeO.none _
  | refine LeO.ite ?_ ?_
  | refine LeO.bind ?_ (fun _ => ?_)
set_option maxHeartbeats 8000000 in
set_option maxRecDepth 100000 in
theorem handshakerref03_Right.calls (k : Nat) (A0 : Option Addr) (c0 : Nat) (l0 : List (S67)) (r : Bool) (w : World) (hr0 : Kd.C k67 w A0 l0.length l0) (hc0 : l0.length ≤ c0) (h : handshakerref03_Right.f k l0 = some r) :
 Calls Try.prog 38 #[.slice A0 l0.length c0] w fun e w' => e = .returned (.bool r) ∧ Drawn0 w w' := by
 have HR0 := Aside0.mk hr0
 have HC0 := Aside0.mk hc0
 clear hr0 hc0
 have H : (handshakerref03_Right.l0 k l0 0) = some r := h
 clear h
 have H' := Aside0.mk H
 clear H
 go_enter Try.func38, Try.ntmps38
 go_wp2
 go_loopg [3] k (fun kq v3 w' => ∃ (x3_1 : Int), v3 = .int .i64 x3_1 ∧ Aside0 (handshakerref03_Right.l0 kq l0 x3_1 = some r) ∧ Aside0 (kq ≤ k) ∧ Drawn0 w w')
 case atStart => exact ⟨(0), (by first | rfl | (simp; done) | (simp [*]; done)), H', ⟨Nat.le_refl _⟩, by repeat (first | exact Drawn0.refl _ | apply Drawn0.step)⟩
 case round =>
  clear H'
  obtain ⟨x3_1, rfl, HA, HK1, ⟨m1, rfl⟩⟩ := hrel
  cases gk with
  | zero => exact absurd HA.out (by simp [handshakerref03_Right.l0])
  | succ k1 =>
   have H := HA.out
   clear HA
   simp only [handshakerref03_Right.l0] at H
   by_cases c2 : x3_1 < (l0.length : Int)
   · rw [if_pos c2] at H
     have c2b0 : decide (x3_1 < (l0.length : Int)) = true := decide_eq_true c2
     clear c2
     by_cases c3 : 0 ≤ x3_1
     · rw [if_pos c3] at H
       have c3b0 : decide (0 ≤ x3_1) = true := decide_eq_true c3
       clear c3
       by_cases c4 : ((rd_T67 l0 x3_1).f0) < 0
       · rw [if_pos c4] at H
         have c4b0 : decide (((rd_T67 l0 x3_1).f0) < 0) = true := decide_eq_true c4
         clear c4
         obtain rfl := Option.some.inj H
         have p275 : 0 ≤ (x3_1 : Int) := of_decide_eq_true (by first | (with_reducible assumption) | assumption)
         have q275 : x3_1 < (l0.length : Int) := of_decide_eq_true (by first | (with_reducible assumption) | assumption)
         obtain ⟨ad275, e275, hx275_0, hx275_1⟩ := at_T67 HR0.out x3_1 p275 q275
         cases e275
         replace p275 := eq_true p275
         replace q275 := eq_true q275
         go_wp2
         go_ret
         exact ⟨by first | rfl | (simp; done) | (simp [*]; done), by repeat (first | exact Drawn0.refl _ | apply Drawn0.step)⟩
       · rw [if_neg c4] at H
         have c4b0 : decide (((rd_T67 l0 x3_1).f0) < 0) = false := decide_eq_false c4
         clear c4
         by_cases c5 : ((rd_T67 l0 x3_1).f0) > 2147483647
         · rw [if_pos c5] at H
           have c5b0 : decide (2147483647 < ((rd_T67 l0 x3_1).f0)) = true := decide_eq_true c5
           clear c5
           obtain rfl := Option.some.inj H
           have p275 : 0 ≤ (x3_1 : Int) := of_decide_eq_true (by first | (with_reducible assumption) | assumption)
           have q275 : x3_1 < (l0.length : Int) := of_decide_eq_true (by first | (with_reducible assumption) | assumption)
           obtain ⟨ad275, e275, hx275_0, hx275_1⟩ := at_T67 HR0.out x3_1 p275 q275
           cases e275
           replace p275 := eq_true p275
           replace q275 := eq_true q275
           have p276 : 0 ≤ (x3_1 : Int) := of_decide_eq_true (by first | (with_reducible assumption) | assumption)
           have q276 : x3_1 < (l0.length : Int) := of_decide_eq_true (by first | (with_reducible assumption) | assumption)
           obtain ⟨ad276, e276, hx276_0, hx276_1⟩ := at_T67 HR0.out x3_1 p276 q276
           obtain rfl : ad275 = ad276 := (by injection e276)
           replace p276 := eq_true p276
           replace q276 := eq_true q276
           go_wp2
           go_ret
           exact ⟨by first | rfl | (simp; done) | (simp [*]; done), by repeat (first | exact Drawn0.refl _ | apply Drawn0.step)⟩
         · rw [if_neg c5] at H
           have c5b0 : decide (2147483647 < ((rd_T67 l0 x3_1).f0)) = false := decide_eq_false c5
           clear c5
           by_cases c6 : ((rd_T67 l0 x3_1).f1) < 0
           · rw [if_pos c6] at H
             have c6b0 : decide (((rd_T67 l0 x3_1).f1) < 0) = true := decide_eq_true c6
             clear c6
             obtain rfl := Option.some.inj H
             have p275 : 0 ≤ (x3_1 : Int) := of_decide_eq_true (by first | (with_reducible assumption) | assumption)
             have q275 : x3_1 < (l0.length : Int) := of_decide_eq_true (by first | (with_reducible assumption) | assumption)
             obtain ⟨ad275, e275, hx275_0, hx275_1⟩ := at_T67 HR0.out x3_1 p275 q275
             cases e275
             replace p275 := eq_true p275
             replace q275 := eq_true q275
             have p276 : 0 ≤ (x3_1 : Int) := of_decide_eq_true (by first | (with_reducible assumption) | assumption)
             have q276 : x3_1 < (l0.length : Int) := of_decide_eq_true (by first | (with_reducible assumption) | assumption)
             obtain ⟨ad276, e276, hx276_0, hx276_1⟩ := at_T67 HR0.out x3_1 p276 q276
             obtain rfl : ad275 = ad276 := (by injection e276)
             replace p276 := eq_true p276
             replace q276 := eq_true q276
             have p277 : 0 ≤ (x3_1 : Int) := of_decide_eq_true (by first | (with_reducible assumption) | assumption)
             have q277 : x3_1 < (l0.length : Int) := of_decide_eq_true (by first | (with_reducible assumption) | assumption)
             obtain ⟨ad277, e277, hx277_0, hx277_1⟩ := at_T67 HR0.out x3_1 p277 q277
             obtain rfl : ad275 = ad277 := (by injection e277)
             replace p277 := eq_true p277
             replace q277 := eq_true q277
             go_wp2
             go_ret
             exact ⟨by first | rfl | (simp; done) | (simp [*]; done), by repeat (first | exact Drawn0.refl _ | apply Drawn0.step)⟩
           · rw [if_neg c6] at H
             have c6b0 : decide (((rd_T67 l0 x3_1).f1) < 0) = false := decide_eq_false c6
             clear c6
             by_cases c7 : ((rd_T67 l0 x3_1).f1) > 8
             · rw [if_pos c7] at H
               have c7b0 : decide (8 < ((rd_T67 l0 x3_1).f1)) = true := decide_eq_true c7
               clear c7
               obtain rfl := Option.some.inj H
               have p275 : 0 ≤ (x3_1 : Int) := of_decide_eq_true (by first | (with_reducible assumption) | assumption)
               have q275 : x3_1 < (l0.length : Int) := of_decide_eq_true (by first | (with_reducible assumption) | assumption)
               obtain ⟨ad275, e275, hx275_0, hx275_1⟩ := at_T67 HR0.out x3_1 p275 q275
               cases e275
               replace p275 := eq_true p275
               replace q275 := eq_true q275
               have p276 : 0 ≤ (x3_1 : Int) := of_decide_eq_true (by first | (with_reducible assumption) | assumption)
               have q276 : x3_1 < (l0.length : Int) := of_decide_eq_true (by first | (with_reducible assumption) | assumption)
               obtain ⟨ad276, e276, hx276_0, hx276_1⟩ := at_T67 HR0.out x3_1 p276 q276
               obtain rfl : ad275 = ad276 := (by injection e276)
               replace p276 := eq_true p276
               replace q276 := eq_true q276
               have p277 : 0 ≤ (x3_1 : Int) := of_decide_eq_true (by first | (with_reducible assumption) | assumption)
               have q277 : x3_1 < (l0.length : Int) := of_decide_eq_true (by first | (with_reducible assumption) | assumption)
               obtain ⟨ad277, e277, hx277_0, hx277_1⟩ := at_T67 HR0.out x3_1 p277 q277
               obtain rfl : ad275 = ad277 := (by injection e277)
               replace p277 := eq_true p277
               replace q277 := eq_true q277
               have p278 : 0 ≤ (x3_1 : Int) := of_decide_eq_true (by first | (with_reducible assumption) | assumption)
               have q278 : x3_1 < (l0.length : Int) := of_decide_eq_true (by first | (with_reducible assumption) | assumption)
               obtain ⟨ad278, e278, hx278_0, hx278_1⟩ := at_T67 HR0.out x3_1 p278 q278
               obtain rfl : ad275 = ad278 := (by injection e278)
               replace p278 := eq_true p278
               replace q278 := eq_true q278
               go_wp2
               go_ret
               exact ⟨by first | rfl | (simp; done) | (simp [*]; done), by repeat (first | exact Drawn0.refl _ | apply Drawn0.step)⟩
             · rw [if_neg c7] at H
               have c7b0 : decide (8 < ((rd_T67 l0 x3_1).f1)) = false := decide_eq_false c7
               clear c7
               have H' := Aside0.mk H
               clear H
               have p275 : 0 ≤ (x3_1 : Int) := of_decide_eq_true (by first | (with_reducible assumption) | assumption)
               have q275 : x3_1 < (l0.length : Int) := of_decide_eq_true (by first | (with_reducible assumption) | assumption)
               obtain ⟨ad275, e275, hx275_0, hx275_1⟩ := at_T67 HR0.out x3_1 p275 q275
               cases e275
               replace p275 := eq_true p275
               replace q275 := eq_true q275
               have p276 : 0 ≤ (x3_1 : Int) := of_decide_eq_true (by first | (with_reducible assumption) | assumption)
               have q276 : x3_1 < (l0.length : Int) := of_decide_eq_true (by first | (with_reducible assumption) | assumption)
               obtain ⟨ad276, e276, hx276_0, hx276_1⟩ := at_T67 HR0.out x3_1 p276 q276
               obtain rfl : ad275 = ad276 := (by injection e276)
               replace p276 := eq_true p276
               replace q276 := eq_true q276
               have p277 : 0 ≤ (x3_1 : Int) := of_decide_eq_true (by first | (with_reducible assumption) | assumption)
               have q277 : x3_1 < (l0.length : Int) := of_decide_eq_true (by first | (with_reducible assumption) | assumption)
               obtain ⟨ad277, e277, hx277_0, hx277_1⟩ := at_T67 HR0.out x3_1 p277 q277
               obtain rfl : ad275 = ad277 := (by injection e277)
               replace p277 := eq_true p277
               replace q277 := eq_true q277
               have p278 : 0 ≤ (x3_1 : Int) := of_decide_eq_true (by first | (with_reducible assumption) | assumption)
               have q278 : x3_1 < (l0.length : Int) := of_decide_eq_true (by first | (with_reducible assumption) | assumption)
               obtain ⟨ad278, e278, hx278_0, hx278_1⟩ := at_T67 HR0.out x3_1 p278 q278
               obtain rfl : ad275 = ad278 := (by injection e278)
               replace p278 := eq_true p278
               replace q278 := eq_true q278
               go_wp2
               go_roundg k1
               case measure => have := HK1.out; omega
               case rel => exact ⟨(wrap64 (x3_1 + 1)), (by first | rfl | (simp; done) | (simp [*]; done)), H', ⟨by have := HK1.out; omega⟩, by repeat (first | exact Drawn0.refl _ | apply Drawn0.step)⟩
     · rw [if_neg c3] at H
       exact absurd H (by simp)
   · rw [if_neg c2] at H
     have c2b0 : decide (x3_1 < (l0.length : Int)) = false := decide_eq_false c2
     clear c2
     by_cases c8 : (l0.length : Int) > 0
     · rw [if_pos c8] at H
       have c8b0 : decide (0 < (l0.length : Int)) = true := decide_eq_true c8
       have c8b1 : decide (0 < l0.length) = true := decide_eq_true (by omega)
       clear c8
       obtain rfl := Option.some.inj H
       go_wp2
       go_ret
       exact ⟨by first | rfl | (simp; done) | (simp [*]; done), by repeat (first | exact Drawn0.refl _ | apply Drawn0.step)⟩
     · rw [if_neg c8] at H
       have c8b0 : decide (0 < (l0.length : Int)) = false := decide_eq_false c8
       have c8b1 : decide (0 < l0.length) = false := decide_eq_false (by omega)
       clear c8
       obtain rfl := Option.some.inj H
       go_wp2
       go_ret
       exact ⟨by first | rfl | (simp; done) | (simp [*]; done), by repeat (first | exact Drawn0.refl _ | apply Drawn0.step)⟩

/-! ### handshakerref03_Who: function 51 -/
def handshakerref03_Who.f (a0 : Int) : Option (Bool) := if a0 > 0 then (some (decide (a0 < 9))) else (some false)
set_option maxHeartbeats 8000000 in
set_option maxRecDepth 100000 in
theorem handshakerref03_Who.calls (a0 : Int) (r : Bool) (w : World) (h : handshakerref03_Who.f a0 = some r) :
 Calls Try.prog 51 #[.int .i64 a0] w fun e w' => e = .returned (.bool r) ∧ Drawn0 w w' := by
 have H : (if a0 > 0 then (some (decide (a0 < 9))) else (some false)) = some r := h
 clear h
 by_cases c2 : a0 > 0
 · rw [if_pos c2] at H
   have c2b0 : decide (0 < a0) = true := decide_eq_true c2
   clear c2
   obtain rfl := Option.some.inj H
   go_enter Try.func51, Try.ntmps51
   go_wp2
   go_ret
   exact ⟨by first | rfl | (simp; done) | (simp [*]; done), by repeat (first | exact Drawn0.refl _ | apply Drawn0.step)⟩
 · rw [if_neg c2] at H
   have c2b0 : decide (0 < a0) = false := decide_eq_false c2
   clear c2
   obtain rfl := Option.some.inj H
   go_enter Try.func51, Try.ntmps51
   go_wp2
   go_ret
   exact ⟨by first | rfl | (simp; done) | (simp [*]; done), by repeat (first | exact Drawn0.refl _ | apply Drawn0.step)⟩

/-! ### handshakerref05_Valid: function 27 -/
mutual
def handshakerref05_Valid.j0 : Nat → List (S24) → List (S67) → Int → Bool → Option (Int)
 | 0, _, _, _, _ => none
 | k + 1, x0, x1, x2, x27 => if x27 = true then (some 1) else (handshakerref05_Valid.l0 k x0 x1 x2 0)
def handshakerref05_Valid.l0 : Nat → List (S24) → List (S67) → Int → Int → Option (Int)
 | 0, _, _, _, _ => none
 | k + 1, x0, x1, x2, x10 => if x10 < (x0.length : Int) then (if 0 ≤ x10 then (if (x1.length : Int) = 0 then (none) else (if 0 ≤ (Int.tmod ((rd_T24 x0 x10).f0) (x1.length : Int)) then (if (Int.tmod ((rd_T24 x0 x10).f0) (x1.length : Int)) < (x1.length : Int) then (if ((rd_T67 x1 (Int.tmod ((rd_T24 x0 x10).f0) (x1.length : Int))).f0) = ((rd_T24 x0 x10).f1) then (if ((rd_T67 x1 (Int.tmod ((rd_T24 x0 x10).f0) (x1.length : Int))).f1) > 0 then (if ((rd_T67 x1 (Int.tmod ((rd_T24 x0 x10).f0) (x1.length : Int))).f1) = x2 then (handshakerref05_Valid.l0 k x0 x1 x2 (wrap64 (x10 + 1))) else (some 8)) else (handshakerref05_Valid.l0 k x0 x1 x2 (wrap64 (x10 + 1)))) else (some 8)) else (none)) else (none))) else (none)) else (some 0)
end
def handshakerref05_Valid.f (k : Nat) (l0 : List (S24)) (l1 : List (S67)) (a2 : Int) : Option (Int) := (handshakerref05_Right.f k l0).bind fun t279 => ((handshakerref03_Right.f k l1).bind fun t280 => ((handshakerref03_Who.f a2).bind fun t281 => (if t279 = true then (if t280 = true then (handshakerref05_Valid.j0 k l0 l1 a2 (!t281)) else (handshakerref05_Valid.j0 k l0 l1 a2 true)) else (handshakerref05_Valid.j0 k l0 l1 a2 true))))
theorem handshakerref05_Valid.mono_l : ∀ k, (∀ y0 y1 y2 y3, LeO (handshakerref05_Valid.j0 k y0 y1 y2 y3) (handshakerref05_Valid.j0 (k + 1) y0 y1 y2 y3)) ∧ (∀ y0 y1 y2 y3, LeO (handshakerref05_Valid.l0 k y0 y1 y2 y3) (handshakerref05_Valid.l0 (k + 1) y0 y1 y2 y3))
 | 0 => ⟨fun _ _ _ _ r h => by simp [handshakerref05_Valid.j0] at h, fun _ _ _ _ r h => by simp [handshakerref05_Valid.l0] at h⟩
 | k + 1 => by
  obtain ⟨ih0, ih1⟩ := handshakerref05_Valid.mono_l k
  refine ⟨?_, ?_⟩
  · intro y0 y1 y2 y3
    unfold handshakerref05_Valid.j0
    repeat' first
    | (with_reducible exact ih0 _ _ _ _)
    | (with_reducible exact ih1 _ _ _ _)
    | (with_reducible exact handshakerref03_Right.mono _ _)
    | (with_reducible exact handshakerref05_Right.mono _ _)
    | (with_reducible exact LeO.refl _)
    | (with_reducible exact LeO.none _)
    | (with_reducible refine LeO.ite ?_ ?_)
    | (with_reducible refine LeO.bind ?_ (fun _ => ?_))
    | exact ih0 _ _ _ _
    | exact ih1 _ _ _ _
    | exact handshakerref03_Right.mono _ _
    | exact handshakerref05_Right.mono _ _
    | exact LeO.none _
    | refine LeO.ite ?_ ?_
    | refine LeO.bind ?_ (fun _ => ?_)
  · intro y0 y1 y2 y3
    unfold handshakerref05_Valid.l0
    repeat' first
    | (with_reducible exact ih0 _ _ _ _)
    | (with_reducible exact ih1 _ _ _ _)
    | (with_reducible exact handshakerref03_Right.mono _ _)
    | (with_reducible exact handshakerref05_Right.mono _ _)
    | (with_reducible exact LeO.refl _)
    | (with_reducible exact LeO.none _)
    | (with_reducible refine LeO.ite ?_ ?_)
    | (with_reducible refine LeO.bind ?_ (fun _ => ?_))
    | exact ih0 _ _ _ _
    | exact ih1 _ _ _ _
    | exact handshakerref03_Right.mono _ _
    | exact handshakerref05_Right.mono _ _
    | exact LeO.none _
    | refine LeO.ite ?_ ?_
    | refine LeO.bind ?_ (fun _ => ?_)
theorem handshakerref05_Valid.mono : ∀ a0 a1 a2 k, LeO (handshakerref05_Valid.f k a0 a1 a2) (handshakerref05_Valid.f (k + 1) a0 a1 a2) := by
 intro a0 a1 a2 k
 obtain ⟨ih0, ih1⟩ := handshakerref05_Valid.mono_l k
 unfold handshakerref05_Valid.f
 repeat' first
  | (with_reducible exact ih0 _ _ _ _)
  | (with_reducible exact ih1 _ _ _ _)
  | (with_reducible exact handshakerref03_Right.mono _ _)
  | (with_reducible exact handshakerref05_Right.mono _ _)
  | (with_reducible exact LeO.refl _)
  | (with_reducible exact LeO.none _)
  | (with_reducible refine LeO.ite ?_ ?_)
  | (with_reducible refine LeO.bind ?_ (fun _ => ?_))
  | exact ih0 _ _ _ _
  | exact ih1 _ _ _ _
  | exact handshakerref03_Right.mono _ _
  | exact handshakerref05_Right.mono _ _
  | exact LeO.none _
  | refine LeO.ite ?_ ?_
  | refine LeO.bind ?_ (fun _ => ?_)
set_option maxHeartbeats 8000000 in
set_option maxRecDepth 100000 in
theorem handshakerref05_Valid.calls (k : Nat) (A0 : Option Addr) (c0 : Nat) (l0 : List (S24)) (A1 : Option Addr) (c1 : Nat) (l1 : List (S67)) (a2 : Int) (r : Int) (w : World) (hr0 : Kd.C k24 w A0 l0.length l0) (hc0 : l0.length ≤ c0) (hr1 : Kd.C k67 w A1 l1.length l1) (hc1 : l1.length ≤ c1) (h : handshakerref05_Valid.f k l0 l1 a2 = some r) :
 Calls Try.prog 27 #[.slice A0 l0.length c0, .slice A1 l1.length c1, .int .i64 a2] w fun e w' => e = .returned (.int .i64 r) ∧ Below w.heap.size w w' := by
 have hu67 := Try.underlying67
 have HR0 := Aside0.mk hr0
 have HC0 := Aside0.mk hc0
 clear hr0 hc0
 have HR1 := Aside0.mk hr1
 have HC1 := Aside0.mk hc1
 clear hr1 hc1
 have HB := Aside0.mk (Below.refl w.heap.size w)
 have H : ((handshakerref05_Right.f k l0).bind fun t279 => ((handshakerref03_Right.f k l1).bind fun t280 => ((handshakerref03_Who.f a2).bind fun t281 => (if t279 = true then (if t280 = true then (handshakerref05_Valid.j0 k l0 l1 a2 (!t281)) else (handshakerref05_Valid.j0 k l0 l1 a2 true)) else (handshakerref05_Valid.j0 k l0 l1 a2 true))))) = some r := h
 clear h
 replace H := Option.bind_eq_some_iff.mp H
 obtain ⟨t279, A40, H⟩ := H
 replace H : ((handshakerref03_Right.f k l1).bind fun t280 => ((handshakerref03_Who.f a2).bind fun t281 => (if t279 = true then (if t280 = true then (handshakerref05_Valid.j0 k l0 l1 a2 (!t281)) else (handshakerref05_Valid.j0 k l0 l1 a2 true)) else (handshakerref05_Valid.j0 k l0 l1 a2 true)))) = some r := H
 have A4 := Aside0.mk A40
 clear A40
 replace H := Option.bind_eq_some_iff.mp H
 obtain ⟨t280, A50, H⟩ := H
 replace H : ((handshakerref03_Who.f a2).bind fun t281 => (if t279 = true then (if t280 = true then (handshakerref05_Valid.j0 k l0 l1 a2 (!t281)) else (handshakerref05_Valid.j0 k l0 l1 a2 true)) else (handshakerref05_Valid.j0 k l0 l1 a2 true))) = some r := H
 have A5 := Aside0.mk A50
 clear A50
 replace H := Option.bind_eq_some_iff.mp H
 obtain ⟨t281, A60, H⟩ := H
 replace H : (if t279 = true then (if t280 = true then (handshakerref05_Valid.j0 k l0 l1 a2 (!t281)) else (handshakerref05_Valid.j0 k l0 l1 a2 true)) else (handshakerref05_Valid.j0 k l0 l1 a2 true)) = some r := H
 have A6 := Aside0.mk A60
 clear A60
 have HC7 := Aside0.mk H
 clear H
 go_enter Try.func27, Try.ntmps27
 go_upto_region 2 with (first | ((first | ((with_reducible refine gate_callee (f := 19) rfl ?_); refine goesL_ (some 13) rfl rfl Try.func19 (by kernel_rfl) rfl #[.slice A0 l0.length c0] rfl (by (try simp only [List.map_toArray, List.map_cons, List.map_nil]); first | done | rfl) ?_; (with_reducible refine (handshakerref05_Right.calls k _ _ l0 t279 _ ?side1 ?side2 A4.out).mono ?_); (case side1 => repeat (first | exact HR0.out | with_reducible first | refine Kd.C_alloc ?_ _ | refine Kd.C_drewN ?_ _ | refine Kd.C_drew ?_)); (case side2 => exact HC0.out); rintro e w8 ⟨rfl, hb⟩; refine ⟨_, rfl, ?_⟩; have n0_ := Aside0.mk (bst_ hb); clear HB; have HB := n0_; clear n0_; (try clear hb); (try clear hb2); (try clear hk); (try clear hi)) | (go_at_call 19; (with_reducible refine (handshakerref05_Right.calls k _ _ l0 t279 _ ?side1 ?side2 A4.out).mono ?_); (case side1 => repeat (first | exact HR0.out | with_reducible first | refine Kd.C_alloc ?_ _ | refine Kd.C_drewN ?_ _ | refine Kd.C_drew ?_)); (case side2 => exact HC0.out); rintro e w8 ⟨rfl, hb⟩; have n0_ := Aside0.mk (bst_ hb); clear HB; have HB := n0_; clear n0_; (try clear hb); (try clear hb2); (try clear hk); (try clear hi)))) | ((first | ((with_reducible refine gate_callee (f := 38) rfl ?_); refine goesL_ (some 15) rfl rfl Try.func38 (by kernel_rfl) rfl #[.slice A1 l1.length c1] rfl (by (try simp only [List.map_toArray, List.map_cons, List.map_nil]); first | done | rfl) ?_; (with_reducible refine (handshakerref03_Right.calls k _ _ l1 t280 _ ?side1 ?side2 A5.out).mono ?_); (case side1 => repeat (first | exact (Kd.C_below HR1.out HB.out) | with_reducible first | refine Kd.C_alloc ?_ _ | refine Kd.C_drewN ?_ _ | refine Kd.C_drew ?_)); (case side2 => exact HC1.out); rintro e w' ⟨rfl, ⟨nd, rfl⟩⟩; refine ⟨_, rfl, ?_⟩; (try first | exact ⟨rfl, _, World.drewN_drewN _ _ _⟩ | exact ⟨rfl, _, Eq.trans (World.drewN_drewN _ _ _) (congrArg (World.drewN _) (Nat.add_assoc _ _ _))⟩)) | (go_at_call 38; (with_reducible refine (handshakerref03_Right.calls k _ _ l1 t280 _ ?side1 ?side2 A5.out).mono ?_); (case side1 => repeat (first | exact (Kd.C_below HR1.out HB.out) | with_reducible first | refine Kd.C_alloc ?_ _ | refine Kd.C_drewN ?_ _ | refine Kd.C_drew ?_)); (case side2 => exact HC1.out); rintro e w' ⟨rfl, ⟨nd, rfl⟩⟩; (try first | exact ⟨rfl, _, World.drewN_drewN _ _ _⟩ | exact ⟨rfl, _, Eq.trans (World.drewN_drewN _ _ _) (congrArg (World.drewN _) (Nat.add_assoc _ _ _))⟩)))) | ((first | ((with_reducible refine gate_callee (f := 51) rfl ?_); refine goesL_ (some 17) rfl rfl Try.func51 (by kernel_rfl) rfl #[.int .i64 a2] rfl (by (try simp only [List.map_toArray, List.map_cons, List.map_nil]); first | done | rfl) ?_; (with_reducible refine (handshakerref03_Who.calls a2 t281 _ A6.out).mono ?_); rintro e w' ⟨rfl, ⟨nd, rfl⟩⟩; refine ⟨_, rfl, ?_⟩; (try first | exact ⟨rfl, _, World.drewN_drewN _ _ _⟩ | exact ⟨rfl, _, Eq.trans (World.drewN_drewN _ _ _) (congrArg (World.drewN _) (Nat.add_assoc _ _ _))⟩)) | (go_at_call 51; (with_reducible refine (handshakerref03_Who.calls a2 t281 _ A6.out).mono ?_); rintro e w' ⟨rfl, ⟨nd, rfl⟩⟩; (try first | exact ⟨rfl, _, World.drewN_drewN _ _ _⟩ | exact ⟨rfl, _, Eq.trans (World.drewN_drewN _ _ _) (congrArg (World.drewN _) (Nat.add_assoc _ _ _))⟩)))))
 repeat (go_quiet (first | ((first | ((with_reducible refine gate_callee (f := 19) rfl ?_); refine goesL_ (some 13) rfl rfl Try.func19 (by kernel_rfl) rfl #[.slice A0 l0.length c0] rfl (by (try simp only [List.map_toArray, List.map_cons, List.map_nil]); first | done | rfl) ?_; (with_reducible refine (handshakerref05_Right.calls k _ _ l0 t279 _ ?side1 ?side2 A4.out).mono ?_); (case side1 => repeat (first | exact HR0.out | with_reducible first | refine Kd.C_alloc ?_ _ | refine Kd.C_drewN ?_ _ | refine Kd.C_drew ?_)); (case side2 => exact HC0.out); rintro e w8 ⟨rfl, hb⟩; refine ⟨_, rfl, ?_⟩; have n0_ := Aside0.mk (bst_ hb); clear HB; have HB := n0_; clear n0_; (try clear hb); (try clear hb2); (try clear hk); (try clear hi)) | (go_at_call 19; (with_reducible refine (handshakerref05_Right.calls k _ _ l0 t279 _ ?side1 ?side2 A4.out).mono ?_); (case side1 => repeat (first | exact HR0.out | with_reducible first | refine Kd.C_alloc ?_ _ | refine Kd.C_drewN ?_ _ | refine Kd.C_drew ?_)); (case side2 => exact HC0.out); rintro e w8 ⟨rfl, hb⟩; have n0_ := Aside0.mk (bst_ hb); clear HB; have HB := n0_; clear n0_; (try clear hb); (try clear hb2); (try clear hk); (try clear hi)))) | ((first | ((with_reducible refine gate_callee (f := 38) rfl ?_); refine goesL_ (some 15) rfl rfl Try.func38 (by kernel_rfl) rfl #[.slice A1 l1.length c1] rfl (by (try simp only [List.map_toArray, List.map_cons, List.map_nil]); first | done | rfl) ?_; (with_reducible refine (handshakerref03_Right.calls k _ _ l1 t280 _ ?side1 ?side2 A5.out).mono ?_); (case side1 => repeat (first | exact (Kd.C_below HR1.out HB.out) | with_reducible first | refine Kd.C_alloc ?_ _ | refine Kd.C_drewN ?_ _ | refine Kd.C_drew ?_)); (case side2 => exact HC1.out); rintro e w' ⟨rfl, ⟨nd, rfl⟩⟩; refine ⟨_, rfl, ?_⟩; (try first | exact ⟨rfl, _, World.drewN_drewN _ _ _⟩ | exact ⟨rfl, _, Eq.trans (World.drewN_drewN _ _ _) (congrArg (World.drewN _) (Nat.add_assoc _ _ _))⟩)) | (go_at_call 38; (with_reducible refine (handshakerref03_Right.calls k _ _ l1 t280 _ ?side1 ?side2 A5.out).mono ?_); (case side1 => repeat (first | exact (Kd.C_below HR1.out HB.out) | with_reducible first | refine Kd.C_alloc ?_ _ | refine Kd.C_drewN ?_ _ | refine Kd.C_drew ?_)); (case side2 => exact HC1.out); rintro e w' ⟨rfl, ⟨nd, rfl⟩⟩; (try first | exact ⟨rfl, _, World.drewN_drewN _ _ _⟩ | exact ⟨rfl, _, Eq.trans (World.drewN_drewN _ _ _) (congrArg (World.drewN _) (Nat.add_assoc _ _ _))⟩)))) | ((first | ((with_reducible refine gate_callee (f := 51) rfl ?_); refine goesL_ (some 17) rfl rfl Try.func51 (by kernel_rfl) rfl #[.int .i64 a2] rfl (by (try simp only [List.map_toArray, List.map_cons, List.map_nil]); first | done | rfl) ?_; (with_reducible refine (handshakerref03_Who.calls a2 t281 _ A6.out).mono ?_); rintro e w' ⟨rfl, ⟨nd, rfl⟩⟩; refine ⟨_, rfl, ?_⟩; (try first | exact ⟨rfl, _, World.drewN_drewN _ _ _⟩ | exact ⟨rfl, _, Eq.trans (World.drewN_drewN _ _ _) (congrArg (World.drewN _) (Nat.add_assoc _ _ _))⟩)) | (go_at_call 51; (with_reducible refine (handshakerref03_Who.calls a2 t281 _ A6.out).mono ?_); rintro e w' ⟨rfl, ⟨nd, rfl⟩⟩; (try first | exact ⟨rfl, _, World.drewN_drewN _ _ _⟩ | exact ⟨rfl, _, Eq.trans (World.drewN_drewN _ _ _) (congrArg (World.drewN _) (Nat.add_assoc _ _ _))⟩))))); go_upto_region 2 with (first | ((first | ((with_reducible refine gate_callee (f := 19) rfl ?_); refine goesL_ (some 13) rfl rfl Try.func19 (by kernel_rfl) rfl #[.slice A0 l0.length c0] rfl (by (try simp only [List.map_toArray, List.map_cons, List.map_nil]); first | done | rfl) ?_; (with_reducible refine (handshakerref05_Right.calls k _ _ l0 t279 _ ?side1 ?side2 A4.out).mono ?_); (case side1 => repeat (first | exact HR0.out | with_reducible first | refine Kd.C_alloc ?_ _ | refine Kd.C_drewN ?_ _ | refine Kd.C_drew ?_)); (case side2 => exact HC0.out); rintro e w8 ⟨rfl, hb⟩; refine ⟨_, rfl, ?_⟩; have n0_ := Aside0.mk (bst_ hb); clear HB; have HB := n0_; clear n0_; (try clear hb); (try clear hb2); (try clear hk); (try clear hi)) | (go_at_call 19; (with_reducible refine (handshakerref05_Right.calls k _ _ l0 t279 _ ?side1 ?side2 A4.out).mono ?_); (case side1 => repeat (first | exact HR0.out | with_reducible first | refine Kd.C_alloc ?_ _ | refine Kd.C_drewN ?_ _ | refine Kd.C_drew ?_)); (case side2 => exact HC0.out); rintro e w8 ⟨rfl, hb⟩; have n0_ := Aside0.mk (bst_ hb); clear HB; have HB := n0_; clear n0_; (try clear hb); (try clear hb2); (try clear hk); (try clear hi)))) | ((first | ((with_reducible refine gate_callee (f := 38) rfl ?_); refine goesL_ (some 15) rfl rfl Try.func38 (by kernel_rfl) rfl #[.slice A1 l1.length c1] rfl (by (try simp only [List.map_toArray, List.map_cons, List.map_nil]); first | done | rfl) ?_; (with_reducible refine (handshakerref03_Right.calls k _ _ l1 t280 _ ?side1 ?side2 A5.out).mono ?_); (case side1 => repeat (first | exact (Kd.C_below HR1.out HB.out) | with_reducible first | refine Kd.C_alloc ?_ _ | refine Kd.C_drewN ?_ _ | refine Kd.C_drew ?_)); (case side2 => exact HC1.out); rintro e w' ⟨rfl, ⟨nd, rfl⟩⟩; refine ⟨_, rfl, ?_⟩; (try first | exact ⟨rfl, _, World.drewN_drewN _ _ _⟩ | exact ⟨rfl, _, Eq.trans (World.drewN_drewN _ _ _) (congrArg (World.drewN _) (Nat.add_assoc _ _ _))⟩)) | (go_at_call 38; (with_reducible refine (handshakerref03_Right.calls k _ _ l1 t280 _ ?side1 ?side2 A5.out).mono ?_); (case side1 => repeat (first | exact (Kd.C_below HR1.out HB.out) | with_reducible first | refine Kd.C_alloc ?_ _ | refine Kd.C_drewN ?_ _ | refine Kd.C_drew ?_)); (case side2 => exact HC1.out); rintro e w' ⟨rfl, ⟨nd, rfl⟩⟩; (try first | exact ⟨rfl, _, World.drewN_drewN _ _ _⟩ | exact ⟨rfl, _, Eq.trans (World.drewN_drewN _ _ _) (congrArg (World.drewN _) (Nat.add_assoc _ _ _))⟩)))) | ((first | ((with_reducible refine gate_callee (f := 51) rfl ?_); refine goesL_ (some 17) rfl rfl Try.func51 (by kernel_rfl) rfl #[.int .i64 a2] rfl (by (try simp only [List.map_toArray, List.map_cons, List.map_nil]); first | done | rfl) ?_; (with_reducible refine (handshakerref03_Who.calls a2 t281 _ A6.out).mono ?_); rintro e w' ⟨rfl, ⟨nd, rfl⟩⟩; refine ⟨_, rfl, ?_⟩; (try first | exact ⟨rfl, _, World.drewN_drewN _ _ _⟩ | exact ⟨rfl, _, Eq.trans (World.drewN_drewN _ _ _) (congrArg (World.drewN _) (Nat.add_assoc _ _ _))⟩)) | (go_at_call 51; (with_reducible refine (handshakerref03_Who.calls a2 t281 _ A6.out).mono ?_); rintro e w' ⟨rfl, ⟨nd, rfl⟩⟩; (try first | exact ⟨rfl, _, World.drewN_drewN _ _ _⟩ | exact ⟨rfl, _, Eq.trans (World.drewN_drewN _ _ _) (congrArg (World.drewN _) (Nat.add_assoc _ _ _))⟩))))))
 (try simp only [Act.put, List.setIfInBounds_toArray, List.set_cons_zero, List.set_cons_succ])
 go_cut [27] (fun v27 wc => ∃ (kq : Nat) (x27_6 : Bool), v27 = .bool x27_6 ∧ Aside0 (handshakerref05_Valid.j0 kq l0 l1 a2 x27_6 = some r) ∧ Aside0 (kq ≤ k) ∧ Aside0 (Below w.heap.size w wc))
 case first =>
  have H := HC7.out
  clear HC7
  by_cases c9 : t279 = true
  · subst c9
    have H1 : (if t280 = true then (handshakerref05_Valid.j0 k l0 l1 a2 (!t281)) else (handshakerref05_Valid.j0 k l0 l1 a2 true)) = some r := by rw [if_pos rfl] at H; exact H
    clear H
    have H := H1
    clear H1
    by_cases c10 : t280 = true
    · subst c10
      have H1 : (handshakerref05_Valid.j0 k l0 l1 a2 (!t281)) = some r := by rw [if_pos rfl] at H; exact H
      clear H
      have H := H1
      clear H1
      have H' := Aside0.mk H
      clear H
      go_wp2
      repeat (go_quiet (fail); try go_wp2)
      go_meet
      case rel => exact ⟨_, (!t281), (by first | rfl | (simp; done) | (simp [*]; done)), H', ⟨by first | omega | exact Nat.le_refl _⟩, ⟨by repeat (with_reducible first | exact HB.out | apply below_alloc | apply pw_below_drewN | apply below_drew1)⟩⟩
    · replace c10 := Bool.eq_false_iff.mpr c10
      subst c10
      have H1 : (handshakerref05_Valid.j0 k l0 l1 a2 true) = some r := by rw [if_neg (show ¬ (false = true) by decide)] at H; exact H
      clear H
      have H := H1
      clear H1
      have H' := Aside0.mk H
      clear H
      go_wp2
      repeat (go_quiet (fail); try go_wp2)
      go_meet
      case rel => exact ⟨_, (true), (by first | rfl | (simp; done) | (simp [*]; done)), H', ⟨by first | omega | exact Nat.le_refl _⟩, ⟨by repeat (with_reducible first | exact HB.out | apply below_alloc | apply pw_below_drewN | apply below_drew1)⟩⟩
  · replace c9 := Bool.eq_false_iff.mpr c9
    subst c9
    have H1 : (handshakerref05_Valid.j0 k l0 l1 a2 true) = some r := by rw [if_neg (show ¬ (false = true) by decide)] at H; exact H
    clear H
    have H := H1
    clear H1
    have H' := Aside0.mk H
    clear H
    go_wp2
    repeat (go_quiet (fail); try go_wp2)
    go_meet
    case rel => exact ⟨_, (true), (by first | rfl | (simp; done) | (simp [*]; done)), H', ⟨by first | omega | exact Nat.le_refl _⟩, ⟨by repeat (with_reducible first | exact HB.out | apply below_alloc | apply pw_below_drewN | apply below_drew1)⟩⟩
 case rest =>
  clear HC7
  try clear c1
  try clear c2
  try clear p2
  try clear c3
  try clear c5
  try clear c9
  try clear c10
  obtain ⟨kq, x27_6, rfl, HA, HJ6, HB⟩ := hcut
  cases kq with
  | zero => exact absurd HA.out (by simp [handshakerref05_Valid.j0])
  | succ kj6 =>
   have H := HA.out
   clear HA
   simp only [handshakerref05_Valid.j0] at H
   by_cases c11 : x27_6 = true
   · subst c11
     have H1 : (some 1) = some r := by rw [if_pos rfl] at H; exact H
     clear H
     have H := H1
     clear H1
     obtain rfl := Option.some.inj H
     go_wp2
     repeat (go_quiet (fail); try go_wp2)
     go_ret
     exact ⟨by first | rfl | (simp [errW_none, errW_some] <;> rfl) | (simp [*, errW_none, errW_some] <;> rfl), by repeat (with_reducible first | exact HB.out | apply below_alloc | apply pw_below_drewN | apply below_drew1)⟩
   · replace c11 := Bool.eq_false_iff.mpr c11
     subst c11
     have H1 : (handshakerref05_Valid.l0 kj6 l0 l1 a2 0) = some r := by rw [if_neg (show ¬ (false = true) by decide)] at H; exact H
     clear H
     have H := H1
     clear H1
     have H' := Aside0.mk H
     clear H
     go_wp2
     repeat (go_quiet (fail); try go_wp2)
     go_loopg [10] kj6 (fun kq v10 w' => ∃ (x10_2 : Int), v10 = .int .i64 x10_2 ∧ Aside0 (handshakerref05_Valid.l0 kq l0 l1 a2 x10_2 = some r) ∧ Aside0 (kq ≤ kj6) ∧ Aside0 (Below w.heap.size w w'))
     case atStart => exact ⟨(0), (by first | rfl | (simp; done) | (simp [*]; done)), H', ⟨Nat.le_refl _⟩, ⟨by repeat (with_reducible first | exact HB.out | apply below_alloc | apply pw_below_drewN | apply below_drew1)⟩⟩
     case round =>
      clear H'
      try clear c1
      try clear c2
      try clear p2
      try clear c3
      try clear c5
      try clear c9
      try clear c10
      try clear c11
      try clear p2
      obtain ⟨x10_2, rfl, HA, HK2, HB⟩ := hrel
      cases gk with
      | zero => exact absurd HA.out (by simp [handshakerref05_Valid.l0])
      | succ k2 =>
       have H := HA.out
       clear HA
       simp only [handshakerref05_Valid.l0] at H
       by_cases c12 : x10_2 < (l0.length : Int)
       · rw [if_pos c12] at H
         have c12b0 : decide (x10_2 < (l0.length : Int)) = true := decide_eq_true c12
         clear c12
         by_cases c13 : 0 ≤ x10_2
         · rw [if_pos c13] at H
           have c13b0 : decide (0 ≤ x10_2) = true := decide_eq_true c13
           clear c13
           by_cases c14 : (l1.length : Int) = 0
           · rw [if_pos c14] at H
             exact absurd H (by simp)
           · rw [if_neg c14] at H
             have c14b0 : ((l1.length : Int) == 0) = false := beq_eq_false_iff_ne.mpr c14
             have c14b1 : ((l1.length : Int) != 0) = true := bne_iff_ne.mpr c14
             have c14b2 : ¬ (l1 = []) := fun h_ => c14 (by rw [h_]; rfl)
             obtain ⟨ji15, hji15⟩ : ∃ j_ : Int, (Int.tmod ((rd_T24 l0 x10_2).f0) (l1.length : Int)) = j_ := ⟨_, rfl⟩
             replace H : (if 0 ≤ (ji15) then (if (ji15) < (l1.length : Int) then (if ((rd_T67 l1 (ji15)).f0) = ((rd_T24 l0 x10_2).f1) then (if ((rd_T67 l1 (ji15)).f1) > 0 then (if ((rd_T67 l1 (ji15)).f1) = a2 then (handshakerref05_Valid.l0 k2 l0 l1 a2 (wrap64 (x10_2 + 1))) else (some 8)) else (handshakerref05_Valid.l0 k2 l0 l1 a2 (wrap64 (x10_2 + 1)))) else (some 8)) else (none)) else (none)) = some r := by first | (rw [hji15] at H; exact H) | (simp only [hji15] at H ⊢; exact H)
             by_cases c16 : 0 ≤ (ji15)
             · rw [if_pos c16] at H
               have c16b0 : decide (0 ≤ (ji15)) = true := decide_eq_true c16
               clear c16
               by_cases c17 : (ji15) < (l1.length : Int)
               · rw [if_pos c17] at H
                 have c17b0 : decide ((ji15) < (l1.length : Int)) = true := decide_eq_true c17
                 clear c17
                 by_cases c18 : ((rd_T67 l1 (ji15)).f0) = ((rd_T24 l0 x10_2).f1)
                 · rw [if_pos c18] at H
                   have c18b0 : (((rd_T67 l1 (ji15)).f0) == ((rd_T24 l0 x10_2).f1)) = true := beq_iff_eq.mpr c18
                   have c18b1 : (((rd_T67 l1 (ji15)).f0) != ((rd_T24 l0 x10_2).f1)) = false := bne_eq_false_iff_eq.mpr c18
                   clear c18
                   by_cases c19 : ((rd_T67 l1 (ji15)).f1) > 0
                   · rw [if_pos c19] at H
                     have c19b0 : decide (0 < ((rd_T67 l1 (ji15)).f1)) = true := decide_eq_true c19
                     clear c19
                     by_cases c20 : ((rd_T67 l1 (ji15)).f1) = a2
                     · rw [if_pos c20] at H
                       have c20b0 : (((rd_T67 l1 (ji15)).f1) == a2) = true := beq_iff_eq.mpr c20
                       have c20b1 : (((rd_T67 l1 (ji15)).f1) != a2) = false := bne_eq_false_iff_eq.mpr c20
                       clear c20
                       have H' := Aside0.mk H
                       clear H
                       have p282 : 0 ≤ (x10_2 : Int) := of_decide_eq_true (by first | (with_reducible assumption) | assumption)
                       have q282 : x10_2 < (l0.length : Int) := of_decide_eq_true (by first | (with_reducible assumption) | assumption)
                       obtain ⟨ad282, e282, hx282_0, hx282_1, hx282_2⟩ := at_T24 HR0.out x10_2 p282 q282
                       cases e282
                       replace hx282_0 := (HB.out.cell (World.block_lt_of_cell? w _ hx282_0)).trans hx282_0
                       replace hx282_1 := (HB.out.cell (World.block_lt_of_cell? w _ hx282_1)).trans hx282_1
                       replace hx282_2 := (HB.out.cell (World.block_lt_of_cell? w _ hx282_2)).trans hx282_2
                       replace p282 := eq_true p282
                       replace q282 := eq_true q282
                       have p283 : 0 ≤ ((ji15) : Int) := of_decide_eq_true (by first | (with_reducible assumption) | assumption)
                       have q283 : (ji15) < (l1.length : Int) := of_decide_eq_true (by first | (with_reducible assumption) | assumption)
                       obtain ⟨ad283, e283, hx283_0, hx283_1⟩ := at_T67 HR1.out (ji15) p283 q283
                       cases e283
                       replace hx283_0 := (HB.out.cell (World.block_lt_of_cell? w _ hx283_0)).trans hx283_0
                       replace hx283_1 := (HB.out.cell (World.block_lt_of_cell? w _ hx283_1)).trans hx283_1
                       replace p283 := eq_true p283
                       replace q283 := eq_true q283
                       go_wp2_with (first | ((with_reducible refine gate_dst (N := 11) rfl ?_); refine box_event ?hg (N := 11) ?hd (cs := #[.int .i64 0, .int .i64 0]) (t := 67) ?hr ?_; (case hd => rfl); (case hg => rfl); (case hr => first | (go_simp; done) | (go_simp; rfl)); intro gb284 hg w21 hbox hb; have n0_ := Aside0.mk (bst_ hb); have n1_ := Aside0.mk (hbox); have n2_ := Aside0.mk ((by rw [hg]; exact bsz_ : w.heap.size ≤ gb284)); have n3_ := n2_; clear HB; have HB := n0_; have BK284 := n1_; have GW284 := n2_; have GE284 := n3_; clear n0_ n1_ n2_ n3_; clear hb hbox hg; have hcz22_0 : w21.cell? ⟨gb284, 0, none⟩ = some (.int .i64 0) := (blk_cell BK284.out 0).trans rfl; have hcz22_1 : w21.cell? ⟨gb284, 1, none⟩ = some (.int .i64 0) := (blk_cell BK284.out 1).trans rfl; have hfz22_0 := blk_frozen BK284.out 0; have hfz22_1 := blk_frozen BK284.out 1; have p285 : 0 ≤ (x10_2 : Int) := of_decide_eq_true (by first | (with_reducible assumption) | assumption); have q285 : x10_2 < (l0.length : Int) := of_decide_eq_true (by first | (with_reducible assumption) | assumption); obtain ⟨ad285, e285, hx285_0, hx285_1, hx285_2⟩ := at_T24 HR0.out x10_2 p285 q285; obtain rfl : ad282 = ad285 := (by injection e285); have hn285_0 : ad282.block ≠ gb284 := Nat.ne_of_lt (Nat.lt_of_lt_of_le (by have := World.block_lt_of_cell? _ _ hx285_0; first | rwa [add_block] at this | exact this) GW284.out); have hn285_1 : ad282.block ≠ gb284 := Nat.ne_of_lt (Nat.lt_of_lt_of_le (by have := World.block_lt_of_cell? _ _ hx285_0; first | rwa [add_block] at this | exact this) GW284.out); replace hx285_0 := (HB.out.cell (World.block_lt_of_cell? w _ hx285_0)).trans hx285_0; replace hx285_1 := (HB.out.cell (World.block_lt_of_cell? w _ hx285_1)).trans hx285_1; replace hx285_2 := (HB.out.cell (World.block_lt_of_cell? w _ hx285_2)).trans hx285_2; replace hx285_0 := (cell_far (p := ⟨gb284, 0, none⟩) (by first | (rw [add_block]; exact hn285_0) | (show (Addr.add _ _).block ≠ _; rw [add_block]; exact hn285_0) | exact hn285_0) (.int .i64 ((rd_T67 l1 (ji15)).f0))).trans hx285_0; replace hx285_1 := (cell_far (p := ⟨gb284, 0, none⟩) (by first | (rw [add_block]; exact hn285_0) | (show (Addr.add _ _).block ≠ _; rw [add_block]; exact hn285_0) | exact hn285_0) (.int .i64 ((rd_T67 l1 (ji15)).f0))).trans hx285_1; replace hx285_2 := (cell_far (p := ⟨gb284, 0, none⟩) (by first | (rw [add_block]; exact hn285_0) | (show (Addr.add _ _).block ≠ _; rw [add_block]; exact hn285_0) | exact hn285_0) (.int .i64 ((rd_T67 l1 (ji15)).f0))).trans hx285_2; replace hx285_0 := (cell_far (p := ⟨gb284, 1, none⟩) (by first | (rw [add_block]; exact hn285_1) | (show (Addr.add _ _).block ≠ _; rw [add_block]; exact hn285_1) | exact hn285_1) (.int .i64 ((rd_T67 l1 (ji15)).f1))).trans hx285_0; replace hx285_1 := (cell_far (p := ⟨gb284, 1, none⟩) (by first | (rw [add_block]; exact hn285_1) | (show (Addr.add _ _).block ≠ _; rw [add_block]; exact hn285_1) | exact hn285_1) (.int .i64 ((rd_T67 l1 (ji15)).f1))).trans hx285_1; replace hx285_2 := (cell_far (p := ⟨gb284, 1, none⟩) (by first | (rw [add_block]; exact hn285_1) | (show (Addr.add _ _).block ≠ _; rw [add_block]; exact hn285_1) | exact hn285_1) (.int .i64 ((rd_T67 l1 (ji15)).f1))).trans hx285_2; (try have hy285_0 := fun (n_ : Nat) => (show ((((w21.drewN n_).setCell ⟨gb284, 0, none⟩ (.int .i64 ((rd_T67 l1 (ji15)).f0))).setCell ⟨gb284, 1, none⟩ (.int .i64 ((rd_T67 l1 (ji15)).f1)))).cell? _ = some _ from hx285_0)); (try have hy285_1 := fun (n_ : Nat) => (show ((((w21.drewN n_).setCell ⟨gb284, 0, none⟩ (.int .i64 ((rd_T67 l1 (ji15)).f0))).setCell ⟨gb284, 1, none⟩ (.int .i64 ((rd_T67 l1 (ji15)).f1)))).cell? _ = some _ from hx285_1)); (try have hy285_2 := fun (n_ : Nat) => (show ((((w21.drewN n_).setCell ⟨gb284, 0, none⟩ (.int .i64 ((rd_T67 l1 (ji15)).f0))).setCell ⟨gb284, 1, none⟩ (.int .i64 ((rd_T67 l1 (ji15)).f1)))).cell? _ = some _ from hx285_2)); clear hn285_0; clear hn285_1; replace p285 := eq_true p285; replace q285 := eq_true q285))
                       repeat (go_quiet (first | ((with_reducible refine gate_dst (N := 11) rfl ?_); refine box_event ?hg (N := 11) ?hd (cs := #[.int .i64 0, .int .i64 0]) (t := 67) ?hr ?_; (case hd => rfl); (case hg => rfl); (case hr => first | (go_simp; done) | (go_simp; rfl)); intro gb284 hg w21 hbox hb; have n0_ := Aside0.mk (bst_ hb); have n1_ := Aside0.mk (hbox); have n2_ := Aside0.mk ((by rw [hg]; exact bsz_ : w.heap.size ≤ gb284)); have n3_ := n2_; clear HB; have HB := n0_; have BK284 := n1_; have GW284 := n2_; have GE284 := n3_; clear n0_ n1_ n2_ n3_; clear hb hbox hg; have hcz22_0 : w21.cell? ⟨gb284, 0, none⟩ = some (.int .i64 0) := (blk_cell BK284.out 0).trans rfl; have hcz22_1 : w21.cell? ⟨gb284, 1, none⟩ = some (.int .i64 0) := (blk_cell BK284.out 1).trans rfl; have hfz22_0 := blk_frozen BK284.out 0; have hfz22_1 := blk_frozen BK284.out 1; have p285 : 0 ≤ (x10_2 : Int) := of_decide_eq_true (by first | (with_reducible assumption) | assumption); have q285 : x10_2 < (l0.length : Int) := of_decide_eq_true (by first | (with_reducible assumption) | assumption); obtain ⟨ad285, e285, hx285_0, hx285_1, hx285_2⟩ := at_T24 HR0.out x10_2 p285 q285; obtain rfl : ad282 = ad285 := (by injection e285); have hn285_0 : ad282.block ≠ gb284 := Nat.ne_of_lt (Nat.lt_of_lt_of_le (by have := World.block_lt_of_cell? _ _ hx285_0; first | rwa [add_block] at this | exact this) GW284.out); have hn285_1 : ad282.block ≠ gb284 := Nat.ne_of_lt (Nat.lt_of_lt_of_le (by have := World.block_lt_of_cell? _ _ hx285_0; first | rwa [add_block] at this | exact this) GW284.out); replace hx285_0 := (HB.out.cell (World.block_lt_of_cell? w _ hx285_0)).trans hx285_0; replace hx285_1 := (HB.out.cell (World.block_lt_of_cell? w _ hx285_1)).trans hx285_1; replace hx285_2 := (HB.out.cell (World.block_lt_of_cell? w _ hx285_2)).trans hx285_2; replace hx285_0 := (cell_far (p := ⟨gb284, 0, none⟩) (by first | (rw [add_block]; exact hn285_0) | (show (Addr.add _ _).block ≠ _; rw [add_block]; exact hn285_0) | exact hn285_0) (.int .i64 ((rd_T67 l1 (ji15)).f0))).trans hx285_0; replace hx285_1 := (cell_far (p := ⟨gb284, 0, none⟩) (by first | (rw [add_block]; exact hn285_0) | (show (Addr.add _ _).block ≠ _; rw [add_block]; exact hn285_0) | exact hn285_0) (.int .i64 ((rd_T67 l1 (ji15)).f0))).trans hx285_1; replace hx285_2 := (cell_far (p := ⟨gb284, 0, none⟩) (by first | (rw [add_block]; exact hn285_0) | (show (Addr.add _ _).block ≠ _; rw [add_block]; exact hn285_0) | exact hn285_0) (.int .i64 ((rd_T67 l1 (ji15)).f0))).trans hx285_2; replace hx285_0 := (cell_far (p := ⟨gb284, 1, none⟩) (by first | (rw [add_block]; exact hn285_1) | (show (Addr.add _ _).block ≠ _; rw [add_block]; exact hn285_1) | exact hn285_1) (.int .i64 ((rd_T67 l1 (ji15)).f1))).trans hx285_0; replace hx285_1 := (cell_far (p := ⟨gb284, 1, none⟩) (by first | (rw [add_block]; exact hn285_1) | (show (Addr.add _ _).block ≠ _; rw [add_block]; exact hn285_1) | exact hn285_1) (.int .i64 ((rd_T67 l1 (ji15)).f1))).trans hx285_1; replace hx285_2 := (cell_far (p := ⟨gb284, 1, none⟩) (by first | (rw [add_block]; exact hn285_1) | (show (Addr.add _ _).block ≠ _; rw [add_block]; exact hn285_1) | exact hn285_1) (.int .i64 ((rd_T67 l1 (ji15)).f1))).trans hx285_2; (try have hy285_0 := fun (n_ : Nat) => (show ((((w21.drewN n_).setCell ⟨gb284, 0, none⟩ (.int .i64 ((rd_T67 l1 (ji15)).f0))).setCell ⟨gb284, 1, none⟩ (.int .i64 ((rd_T67 l1 (ji15)).f1)))).cell? _ = some _ from hx285_0)); (try have hy285_1 := fun (n_ : Nat) => (show ((((w21.drewN n_).setCell ⟨gb284, 0, none⟩ (.int .i64 ((rd_T67 l1 (ji15)).f0))).setCell ⟨gb284, 1, none⟩ (.int .i64 ((rd_T67 l1 (ji15)).f1)))).cell? _ = some _ from hx285_1)); (try have hy285_2 := fun (n_ : Nat) => (show ((((w21.drewN n_).setCell ⟨gb284, 0, none⟩ (.int .i64 ((rd_T67 l1 (ji15)).f0))).setCell ⟨gb284, 1, none⟩ (.int .i64 ((rd_T67 l1 (ji15)).f1)))).cell? _ = some _ from hx285_2)); clear hn285_0; clear hn285_1; replace p285 := eq_true p285; replace q285 := eq_true q285)); try go_wp2_with (first | ((with_reducible refine gate_dst (N := 11) rfl ?_); refine box_event ?hg (N := 11) ?hd (cs := #[.int .i64 0, .int .i64 0]) (t := 67) ?hr ?_; (case hd => rfl); (case hg => rfl); (case hr => first | (go_simp; done) | (go_simp; rfl)); intro gb284 hg w21 hbox hb; have n0_ := Aside0.mk (bst_ hb); have n1_ := Aside0.mk (hbox); have n2_ := Aside0.mk ((by rw [hg]; exact bsz_ : w.heap.size ≤ gb284)); have n3_ := n2_; clear HB; have HB := n0_; have BK284 := n1_; have GW284 := n2_; have GE284 := n3_; clear n0_ n1_ n2_ n3_; clear hb hbox hg; have hcz22_0 : w21.cell? ⟨gb284, 0, none⟩ = some (.int .i64 0) := (blk_cell BK284.out 0).trans rfl; have hcz22_1 : w21.cell? ⟨gb284, 1, none⟩ = some (.int .i64 0) := (blk_cell BK284.out 1).trans rfl; have hfz22_0 := blk_frozen BK284.out 0; have hfz22_1 := blk_frozen BK284.out 1; have p285 : 0 ≤ (x10_2 : Int) := of_decide_eq_true (by first | (with_reducible assumption) | assumption); have q285 : x10_2 < (l0.length : Int) := of_decide_eq_true (by first | (with_reducible assumption) | assumption); obtain ⟨ad285, e285, hx285_0, hx285_1, hx285_2⟩ := at_T24 HR0.out x10_2 p285 q285; obtain rfl : ad282 = ad285 := (by injection e285); have hn285_0 : ad282.block ≠ gb284 := Nat.ne_of_lt (Nat.lt_of_lt_of_le (by have := World.block_lt_of_cell? _ _ hx285_0; first | rwa [add_block] at this | exact this) GW284.out); have hn285_1 : ad282.block ≠ gb284 := Nat.ne_of_lt (Nat.lt_of_lt_of_le (by have := World.block_lt_of_cell? _ _ hx285_0; first | rwa [add_block] at this | exact this) GW284.out); replace hx285_0 := (HB.out.cell (World.block_lt_of_cell? w _ hx285_0)).trans hx285_0; replace hx285_1 := (HB.out.cell (World.block_lt_of_cell? w _ hx285_1)).trans hx285_1; replace hx285_2 := (HB.out.cell (World.block_lt_of_cell? w _ hx285_2)).trans hx285_2; replace hx285_0 := (cell_far (p := ⟨gb284, 0, none⟩) (by first | (rw [add_block]; exact hn285_0) | (show (Addr.add _ _).block ≠ _; rw [add_block]; exact hn285_0) | exact hn285_0) (.int .i64 ((rd_T67 l1 (ji15)).f0))).trans hx285_0; replace hx285_1 := (cell_far (p := ⟨gb284, 0, none⟩) (by first | (rw [add_block]; exact hn285_0) | (show (Addr.add _ _).block ≠ _; rw [add_block]; exact hn285_0) | exact hn285_0) (.int .i64 ((rd_T67 l1 (ji15)).f0))).trans hx285_1; replace hx285_2 := (cell_far (p := ⟨gb284, 0, none⟩) (by first | (rw [add_block]; exact hn285_0) | (show (Addr.add _ _).block ≠ _; rw [add_block]; exact hn285_0) | exact hn285_0) (.int .i64 ((rd_T67 l1 (ji15)).f0))).trans hx285_2; replace hx285_0 := (cell_far (p := ⟨gb284, 1, none⟩) (by first | (rw [add_block]; exact hn285_1) | (show (Addr.add _ _).block ≠ _; rw [add_block]; exact hn285_1) | exact hn285_1) (.int .i64 ((rd_T67 l1 (ji15)).f1))).trans hx285_0; replace hx285_1 := (cell_far (p := ⟨gb284, 1, none⟩) (by first | (rw [add_block]; exact hn285_1) | (show (Addr.add _ _).block ≠ _; rw [add_block]; exact hn285_1) | exact hn285_1) (.int .i64 ((rd_T67 l1 (ji15)).f1))).trans hx285_1; replace hx285_2 := (cell_far (p := ⟨gb284, 1, none⟩) (by first | (rw [add_block]; exact hn285_1) | (show (Addr.add _ _).block ≠ _; rw [add_block]; exact hn285_1) | exact hn285_1) (.int .i64 ((rd_T67 l1 (ji15)).f1))).trans hx285_2; (try have hy285_0 := fun (n_ : Nat) => (show ((((w21.drewN n_).setCell ⟨gb284, 0, none⟩ (.int .i64 ((rd_T67 l1 (ji15)).f0))).setCell ⟨gb284, 1, none⟩ (.int .i64 ((rd_T67 l1 (ji15)).f1)))).cell? _ = some _ from hx285_0)); (try have hy285_1 := fun (n_ : Nat) => (show ((((w21.drewN n_).setCell ⟨gb284, 0, none⟩ (.int .i64 ((rd_T67 l1 (ji15)).f0))).setCell ⟨gb284, 1, none⟩ (.int .i64 ((rd_T67 l1 (ji15)).f1)))).cell? _ = some _ from hx285_1)); (try have hy285_2 := fun (n_ : Nat) => (show ((((w21.drewN n_).setCell ⟨gb284, 0, none⟩ (.int .i64 ((rd_T67 l1 (ji15)).f0))).setCell ⟨gb284, 1, none⟩ (.int .i64 ((rd_T67 l1 (ji15)).f1)))).cell? _ = some _ from hx285_2)); clear hn285_0; clear hn285_1; replace p285 := eq_true p285; replace q285 := eq_true q285)))
                       go_roundg k2
                       case measure => have := HJ6.out; have := HK2.out; omega
                       case rel => exact ⟨(wrap64 (x10_2 + 1)), (by first | rfl | (simp; done) | (simp [*]; done)), H', ⟨by have := HJ6.out; have := HK2.out; omega⟩, ⟨by repeat (with_reducible first | exact HB.out | apply below_alloc | apply pw_below_drewN | apply below_drew1 | refine below_set ?_ GE284.out)⟩⟩
                     · rw [if_neg c20] at H
                       have c20b0 : (((rd_T67 l1 (ji15)).f1) == a2) = false := beq_eq_false_iff_ne.mpr c20
                       have c20b1 : (((rd_T67 l1 (ji15)).f1) != a2) = true := bne_iff_ne.mpr c20
                       obtain rfl := Option.some.inj H
                       have p282 : 0 ≤ (x10_2 : Int) := of_decide_eq_true (by first | (with_reducible assumption) | assumption)
                       have q282 : x10_2 < (l0.length : Int) := of_decide_eq_true (by first | (with_reducible assumption) | assumption)
                       obtain ⟨ad282, e282, hx282_0, hx282_1, hx282_2⟩ := at_T24 HR0.out x10_2 p282 q282
                       cases e282
                       replace hx282_0 := (HB.out.cell (World.block_lt_of_cell? w _ hx282_0)).trans hx282_0
                       replace hx282_1 := (HB.out.cell (World.block_lt_of_cell? w _ hx282_1)).trans hx282_1
                       replace hx282_2 := (HB.out.cell (World.block_lt_of_cell? w _ hx282_2)).trans hx282_2
                       replace p282 := eq_true p282
                       replace q282 := eq_true q282
                       have p283 : 0 ≤ ((ji15) : Int) := of_decide_eq_true (by first | (with_reducible assumption) | assumption)
                       have q283 : (ji15) < (l1.length : Int) := of_decide_eq_true (by first | (with_reducible assumption) | assumption)
                       obtain ⟨ad283, e283, hx283_0, hx283_1⟩ := at_T67 HR1.out (ji15) p283 q283
                       cases e283
                       replace hx283_0 := (HB.out.cell (World.block_lt_of_cell? w _ hx283_0)).trans hx283_0
                       replace hx283_1 := (HB.out.cell (World.block_lt_of_cell? w _ hx283_1)).trans hx283_1
                       replace p283 := eq_true p283
                       replace q283 := eq_true q283
                       go_wp2_with (first | ((with_reducible refine gate_dst (N := 11) rfl ?_); refine box_event ?hg (N := 11) ?hd (cs := #[.int .i64 0, .int .i64 0]) (t := 67) ?hr ?_; (case hd => rfl); (case hg => rfl); (case hr => first | (go_simp; done) | (go_simp; rfl)); intro gb284 hg w23 hbox hb; have n0_ := Aside0.mk (bst_ hb); have n1_ := Aside0.mk (hbox); have n2_ := Aside0.mk ((by rw [hg]; exact bsz_ : w.heap.size ≤ gb284)); have n3_ := n2_; clear HB; have HB := n0_; have BK284 := n1_; have GW284 := n2_; have GE284 := n3_; clear n0_ n1_ n2_ n3_; clear hb hbox hg; have hcz24_0 : w23.cell? ⟨gb284, 0, none⟩ = some (.int .i64 0) := (blk_cell BK284.out 0).trans rfl; have hcz24_1 : w23.cell? ⟨gb284, 1, none⟩ = some (.int .i64 0) := (blk_cell BK284.out 1).trans rfl; have hfz24_0 := blk_frozen BK284.out 0; have hfz24_1 := blk_frozen BK284.out 1; have p285 : 0 ≤ (x10_2 : Int) := of_decide_eq_true (by first | (with_reducible assumption) | assumption); have q285 : x10_2 < (l0.length : Int) := of_decide_eq_true (by first | (with_reducible assumption) | assumption); obtain ⟨ad285, e285, hx285_0, hx285_1, hx285_2⟩ := at_T24 HR0.out x10_2 p285 q285; obtain rfl : ad282 = ad285 := (by injection e285); have hn285_0 : ad282.block ≠ gb284 := Nat.ne_of_lt (Nat.lt_of_lt_of_le (by have := World.block_lt_of_cell? _ _ hx285_0; first | rwa [add_block] at this | exact this) GW284.out); have hn285_1 : ad282.block ≠ gb284 := Nat.ne_of_lt (Nat.lt_of_lt_of_le (by have := World.block_lt_of_cell? _ _ hx285_0; first | rwa [add_block] at this | exact this) GW284.out); replace hx285_0 := (HB.out.cell (World.block_lt_of_cell? w _ hx285_0)).trans hx285_0; replace hx285_1 := (HB.out.cell (World.block_lt_of_cell? w _ hx285_1)).trans hx285_1; replace hx285_2 := (HB.out.cell (World.block_lt_of_cell? w _ hx285_2)).trans hx285_2; replace hx285_0 := (cell_far (p := ⟨gb284, 0, none⟩) (by first | (rw [add_block]; exact hn285_0) | (show (Addr.add _ _).block ≠ _; rw [add_block]; exact hn285_0) | exact hn285_0) (.int .i64 ((rd_T67 l1 (ji15)).f0))).trans hx285_0; replace hx285_1 := (cell_far (p := ⟨gb284, 0, none⟩) (by first | (rw [add_block]; exact hn285_0) | (show (Addr.add _ _).block ≠ _; rw [add_block]; exact hn285_0) | exact hn285_0) (.int .i64 ((rd_T67 l1 (ji15)).f0))).trans hx285_1; replace hx285_2 := (cell_far (p := ⟨gb284, 0, none⟩) (by first | (rw [add_block]; exact hn285_0) | (show (Addr.add _ _).block ≠ _; rw [add_block]; exact hn285_0) | exact hn285_0) (.int .i64 ((rd_T67 l1 (ji15)).f0))).trans hx285_2; replace hx285_0 := (cell_far (p := ⟨gb284, 1, none⟩) (by first | (rw [add_block]; exact hn285_1) | (show (Addr.add _ _).block ≠ _; rw [add_block]; exact hn285_1) | exact hn285_1) (.int .i64 ((rd_T67 l1 (ji15)).f1))).trans hx285_0; replace hx285_1 := (cell_far (p := ⟨gb284, 1, none⟩) (by first | (rw [add_block]; exact hn285_1) | (show (Addr.add _ _).block ≠ _; rw [add_block]; exact hn285_1) | exact hn285_1) (.int .i64 ((rd_T67 l1 (ji15)).f1))).trans hx285_1; replace hx285_2 := (cell_far (p := ⟨gb284, 1, none⟩) (by first | (rw [add_block]; exact hn285_1) | (show (Addr.add _ _).block ≠ _; rw [add_block]; exact hn285_1) | exact hn285_1) (.int .i64 ((rd_T67 l1 (ji15)).f1))).trans hx285_2; (try have hy285_0 := fun (n_ : Nat) => (show ((((w23.drewN n_).setCell ⟨gb284, 0, none⟩ (.int .i64 ((rd_T67 l1 (ji15)).f0))).setCell ⟨gb284, 1, none⟩ (.int .i64 ((rd_T67 l1 (ji15)).f1)))).cell? _ = some _ from hx285_0)); (try have hy285_1 := fun (n_ : Nat) => (show ((((w23.drewN n_).setCell ⟨gb284, 0, none⟩ (.int .i64 ((rd_T67 l1 (ji15)).f0))).setCell ⟨gb284, 1, none⟩ (.int .i64 ((rd_T67 l1 (ji15)).f1)))).cell? _ = some _ from hx285_1)); (try have hy285_2 := fun (n_ : Nat) => (show ((((w23.drewN n_).setCell ⟨gb284, 0, none⟩ (.int .i64 ((rd_T67 l1 (ji15)).f0))).setCell ⟨gb284, 1, none⟩ (.int .i64 ((rd_T67 l1 (ji15)).f1)))).cell? _ = some _ from hx285_2)); clear hn285_0; clear hn285_1; replace p285 := eq_true p285; replace q285 := eq_true q285))
                       repeat (go_quiet (first | ((with_reducible refine gate_dst (N := 11) rfl ?_); refine box_event ?hg (N := 11) ?hd (cs := #[.int .i64 0, .int .i64 0]) (t := 67) ?hr ?_; (case hd => rfl); (case hg => rfl); (case hr => first | (go_simp; done) | (go_simp; rfl)); intro gb284 hg w23 hbox hb; have n0_ := Aside0.mk (bst_ hb); have n1_ := Aside0.mk (hbox); have n2_ := Aside0.mk ((by rw [hg]; exact bsz_ : w.heap.size ≤ gb284)); have n3_ := n2_; clear HB; have HB := n0_; have BK284 := n1_; have GW284 := n2_; have GE284 := n3_; clear n0_ n1_ n2_ n3_; clear hb hbox hg; have hcz24_0 : w23.cell? ⟨gb284, 0, none⟩ = some (.int .i64 0) := (blk_cell BK284.out 0).trans rfl; have hcz24_1 : w23.cell? ⟨gb284, 1, none⟩ = some (.int .i64 0) := (blk_cell BK284.out 1).trans rfl; have hfz24_0 := blk_frozen BK284.out 0; have hfz24_1 := blk_frozen BK284.out 1; have p285 : 0 ≤ (x10_2 : Int) := of_decide_eq_true (by first | (with_reducible assumption) | assumption); have q285 : x10_2 < (l0.length : Int) := of_decide_eq_true (by first | (with_reducible assumption) | assumption); obtain ⟨ad285, e285, hx285_0, hx285_1, hx285_2⟩ := at_T24 HR0.out x10_2 p285 q285; obtain rfl : ad282 = ad285 := (by injection e285); have hn285_0 : ad282.block ≠ gb284 := Nat.ne_of_lt (Nat.lt_of_lt_of_le (by have := World.block_lt_of_cell? _ _ hx285_0; first | rwa [add_block] at this | exact this) GW284.out); have hn285_1 : ad282.block ≠ gb284 := Nat.ne_of_lt (Nat.lt_of_lt_of_le (by have := World.block_lt_of_cell? _ _ hx285_0; first | rwa [add_block] at this | exact this) GW284.out); replace hx285_0 := (HB.out.cell (World.block_lt_of_cell? w _ hx285_0)).trans hx285_0; replace hx285_1 := (HB.out.cell (World.block_lt_of_cell? w _ hx285_1)).trans hx285_1; replace hx285_2 := (HB.out.cell (World.block_lt_of_cell? w _ hx285_2)).trans hx285_2; replace hx285_0 := (cell_far (p := ⟨gb284, 0, none⟩) (by first | (rw [add_block]; exact hn285_0) | (show (Addr.add _ _).block ≠ _; rw [add_block]; exact hn285_0) | exact hn285_0) (.int .i64 ((rd_T67 l1 (ji15)).f0))).trans hx285_0; replace hx285_1 := (cell_far (p := ⟨gb284, 0, none⟩) (by first | (rw [add_block]; exact hn285_0) | (show (Addr.add _ _).block ≠ _; rw [add_block]; exact hn285_0) | exact hn285_0) (.int .i64 ((rd_T67 l1 (ji15)).f0))).trans hx285_1; replace hx285_2 := (cell_far (p := ⟨gb284, 0, none⟩) (by first | (rw [add_block]; exact hn285_0) | (show (Addr.add _ _).block ≠ _; rw [add_block]; exact hn285_0) | exact hn285_0) (.int .i64 ((rd_T67 l1 (ji15)).f0))).trans hx285_2; replace hx285_0 := (cell_far (p := ⟨gb284, 1, none⟩) (by first | (rw [add_block]; exact hn285_1) | (show (Addr.add _ _).block ≠ _; rw [add_block]; exact hn285_1) | exact hn285_1) (.int .i64 ((rd_T67 l1 (ji15)).f1))).trans hx285_0; replace hx285_1 := (cell_far (p := ⟨gb284, 1, none⟩) (by first | (rw [add_block]; exact hn285_1) | (show (Addr.add _ _).block ≠ _; rw [add_block]; exact hn285_1) | exact hn285_1) (.int .i64 ((rd_T67 l1 (ji15)).f1))).trans hx285_1; replace hx285_2 := (cell_far (p := ⟨gb284, 1, none⟩) (by first | (rw [add_block]; exact hn285_1) | (show (Addr.add _ _).block ≠ _; rw [add_block]; exact hn285_1) | exact hn285_1) (.int .i64 ((rd_T67 l1 (ji15)).f1))).trans hx285_2; (try have hy285_0 := fun (n_ : Nat) => (show ((((w23.drewN n_).setCell ⟨gb284, 0, none⟩ (.int .i64 ((rd_T67 l1 (ji15)).f0))).setCell ⟨gb284, 1, none⟩ (.int .i64 ((rd_T67 l1 (ji15)).f1)))).cell? _ = some _ from hx285_0)); (try have hy285_1 := fun (n_ : Nat) => (show ((((w23.drewN n_).setCell ⟨gb284, 0, none⟩ (.int .i64 ((rd_T67 l1 (ji15)).f0))).setCell ⟨gb284, 1, none⟩ (.int .i64 ((rd_T67 l1 (ji15)).f1)))).cell? _ = some _ from hx285_1)); (try have hy285_2 := fun (n_ : Nat) => (show ((((w23.drewN n_).setCell ⟨gb284, 0, none⟩ (.int .i64 ((rd_T67 l1 (ji15)).f0))).setCell ⟨gb284, 1, none⟩ (.int .i64 ((rd_T67 l1 (ji15)).f1)))).cell? _ = some _ from hx285_2)); clear hn285_0; clear hn285_1; replace p285 := eq_true p285; replace q285 := eq_true q285)); try go_wp2_with (first | ((with_reducible refine gate_dst (N := 11) rfl ?_); refine box_event ?hg (N := 11) ?hd (cs := #[.int .i64 0, .int .i64 0]) (t := 67) ?hr ?_; (case hd => rfl); (case hg => rfl); (case hr => first | (go_simp; done) | (go_simp; rfl)); intro gb284 hg w23 hbox hb; have n0_ := Aside0.mk (bst_ hb); have n1_ := Aside0.mk (hbox); have n2_ := Aside0.mk ((by rw [hg]; exact bsz_ : w.heap.size ≤ gb284)); have n3_ := n2_; clear HB; have HB := n0_; have BK284 := n1_; have GW284 := n2_; have GE284 := n3_; clear n0_ n1_ n2_ n3_; clear hb hbox hg; have hcz24_0 : w23.cell? ⟨gb284, 0, none⟩ = some (.int .i64 0) := (blk_cell BK284.out 0).trans rfl; have hcz24_1 : w23.cell? ⟨gb284, 1, none⟩ = some (.int .i64 0) := (blk_cell BK284.out 1).trans rfl; have hfz24_0 := blk_frozen BK284.out 0; have hfz24_1 := blk_frozen BK284.out 1; have p285 : 0 ≤ (x10_2 : Int) := of_decide_eq_true (by first | (with_reducible assumption) | assumption); have q285 : x10_2 < (l0.length : Int) := of_decide_eq_true (by first | (with_reducible assumption) | assumption); obtain ⟨ad285, e285, hx285_0, hx285_1, hx285_2⟩ := at_T24 HR0.out x10_2 p285 q285; obtain rfl : ad282 = ad285 := (by injection e285); have hn285_0 : ad282.block ≠ gb284 := Nat.ne_of_lt (Nat.lt_of_lt_of_le (by have := World.block_lt_of_cell? _ _ hx285_0; first | rwa [add_block] at this | exact this) GW284.out); have hn285_1 : ad282.block ≠ gb284 := Nat.ne_of_lt (Nat.lt_of_lt_of_le (by have := World.block_lt_of_cell? _ _ hx285_0; first | rwa [add_block] at this | exact this) GW284.out); replace hx285_0 := (HB.out.cell (World.block_lt_of_cell? w _ hx285_0)).trans hx285_0; replace hx285_1 := (HB.out.cell (World.block_lt_of_cell? w _ hx285_1)).trans hx285_1; replace hx285_2 := (HB.out.cell (World.block_lt_of_cell? w _ hx285_2)).trans hx285_2; replace hx285_0 := (cell_far (p := ⟨gb284, 0, none⟩) (by first | (rw [add_block]; exact hn285_0) | (show (Addr.add _ _).block ≠ _; rw [add_block]; exact hn285_0) | exact hn285_0) (.int .i64 ((rd_T67 l1 (ji15)).f0))).trans hx285_0; replace hx285_1 := (cell_far (p := ⟨gb284, 0, none⟩) (by first | (rw [add_block]; exact hn285_0) | (show (Addr.add _ _).block ≠ _; rw [add_block]; exact hn285_0) | exact hn285_0) (.int .i64 ((rd_T67 l1 (ji15)).f0))).trans hx285_1; replace hx285_2 := (cell_far (p := ⟨gb284, 0, none⟩) (by first | (rw [add_block]; exact hn285_0) | (show (Addr.add _ _).block ≠ _; rw [add_block]; exact hn285_0) | exact hn285_0) (.int .i64 ((rd_T67 l1 (ji15)).f0))).trans hx285_2; replace hx285_0 := (cell_far (p := ⟨gb284, 1, none⟩) (by first | (rw [add_block]; exact hn285_1) | (show (Addr.add _ _).block ≠ _; rw [add_block]; exact hn285_1) | exact hn285_1) (.int .i64 ((rd_T67 l1 (ji15)).f1))).trans hx285_0; replace hx285_1 := (cell_far (p := ⟨gb284, 1, none⟩) (by first | (rw [add_block]; exact hn285_1) | (show (Addr.add _ _).block ≠ _; rw [add_block]; exact hn285_1) | exact hn285_1) (.int .i64 ((rd_T67 l1 (ji15)).f1))).trans hx285_1; replace hx285_2 := (cell_far (p := ⟨gb284, 1, none⟩) (by first | (rw [add_block]; exact hn285_1) | (show (Addr.add _ _).block ≠ _; rw [add_block]; exact hn285_1) | exact hn285_1) (.int .i64 ((rd_T67 l1 (ji15)).f1))).trans hx285_2; (try have hy285_0 := fun (n_ : Nat) => (show ((((w23.drewN n_).setCell ⟨gb284, 0, none⟩ (.int .i64 ((rd_T67 l1 (ji15)).f0))).setCell ⟨gb284, 1, none⟩ (.int .i64 ((rd_T67 l1 (ji15)).f1)))).cell? _ = some _ from hx285_0)); (try have hy285_1 := fun (n_ : Nat) => (show ((((w23.drewN n_).setCell ⟨gb284, 0, none⟩ (.int .i64 ((rd_T67 l1 (ji15)).f0))).setCell ⟨gb284, 1, none⟩ (.int .i64 ((rd_T67 l1 (ji15)).f1)))).cell? _ = some _ from hx285_1)); (try have hy285_2 := fun (n_ : Nat) => (show ((((w23.drewN n_).setCell ⟨gb284, 0, none⟩ (.int .i64 ((rd_T67 l1 (ji15)).f0))).setCell ⟨gb284, 1, none⟩ (.int .i64 ((rd_T67 l1 (ji15)).f1)))).cell? _ = some _ from hx285_2)); clear hn285_0; clear hn285_1; replace p285 := eq_true p285; replace q285 := eq_true q285)))
                       go_ret
                       exact ⟨by first | rfl | (simp [errW_none, errW_some] <;> rfl) | (simp only [← hji15]; first | rfl | (simp [errW_none, errW_some] <;> rfl)) | (simp [*, errW_none, errW_some] <;> rfl), by repeat (with_reducible first | exact HB.out | apply below_alloc | apply pw_below_drewN | apply below_drew1 | refine below_set ?_ GE284.out)⟩
                   · rw [if_neg c19] at H
                     have c19b0 : decide (0 < ((rd_T67 l1 (ji15)).f1)) = false := decide_eq_false c19
                     clear c19
                     have H' := Aside0.mk H
                     clear H
                     have p282 : 0 ≤ (x10_2 : Int) := of_decide_eq_true (by first | (with_reducible assumption) | assumption)
                     have q282 : x10_2 < (l0.length : Int) := of_decide_eq_true (by first | (with_reducible assumption) | assumption)
                     obtain ⟨ad282, e282, hx282_0, hx282_1, hx282_2⟩ := at_T24 HR0.out x10_2 p282 q282
                     cases e282
                     replace hx282_0 := (HB.out.cell (World.block_lt_of_cell? w _ hx282_0)).trans hx282_0
                     replace hx282_1 := (HB.out.cell (World.block_lt_of_cell? w _ hx282_1)).trans hx282_1
                     replace hx282_2 := (HB.out.cell (World.block_lt_of_cell? w _ hx282_2)).trans hx282_2
                     replace p282 := eq_true p282
                     replace q282 := eq_true q282
                     have p283 : 0 ≤ ((ji15) : Int) := of_decide_eq_true (by first | (with_reducible assumption) | assumption)
                     have q283 : (ji15) < (l1.length : Int) := of_decide_eq_true (by first | (with_reducible assumption) | assumption)
                     obtain ⟨ad283, e283, hx283_0, hx283_1⟩ := at_T67 HR1.out (ji15) p283 q283
                     cases e283
                     replace hx283_0 := (HB.out.cell (World.block_lt_of_cell? w _ hx283_0)).trans hx283_0
                     replace hx283_1 := (HB.out.cell (World.block_lt_of_cell? w _ hx283_1)).trans hx283_1
                     replace p283 := eq_true p283
                     replace q283 := eq_true q283
                     go_wp2_with (first | ((with_reducible refine gate_dst (N := 11) rfl ?_); refine box_event ?hg (N := 11) ?hd (cs := #[.int .i64 0, .int .i64 0]) (t := 67) ?hr ?_; (case hd => rfl); (case hg => rfl); (case hr => first | (go_simp; done) | (go_simp; rfl)); intro gb284 hg w25 hbox hb; have n0_ := Aside0.mk (bst_ hb); have n1_ := Aside0.mk (hbox); have n2_ := Aside0.mk ((by rw [hg]; exact bsz_ : w.heap.size ≤ gb284)); have n3_ := n2_; clear HB; have HB := n0_; have BK284 := n1_; have GW284 := n2_; have GE284 := n3_; clear n0_ n1_ n2_ n3_; clear hb hbox hg; have hcz26_0 : w25.cell? ⟨gb284, 0, none⟩ = some (.int .i64 0) := (blk_cell BK284.out 0).trans rfl; have hcz26_1 : w25.cell? ⟨gb284, 1, none⟩ = some (.int .i64 0) := (blk_cell BK284.out 1).trans rfl; have hfz26_0 := blk_frozen BK284.out 0; have hfz26_1 := blk_frozen BK284.out 1; have p285 : 0 ≤ (x10_2 : Int) := of_decide_eq_true (by first | (with_reducible assumption) | assumption); have q285 : x10_2 < (l0.length : Int) := of_decide_eq_true (by first | (with_reducible assumption) | assumption); obtain ⟨ad285, e285, hx285_0, hx285_1, hx285_2⟩ := at_T24 HR0.out x10_2 p285 q285; obtain rfl : ad282 = ad285 := (by injection e285); have hn285_0 : ad282.block ≠ gb284 := Nat.ne_of_lt (Nat.lt_of_lt_of_le (by have := World.block_lt_of_cell? _ _ hx285_0; first | rwa [add_block] at this | exact this) GW284.out); have hn285_1 : ad282.block ≠ gb284 := Nat.ne_of_lt (Nat.lt_of_lt_of_le (by have := World.block_lt_of_cell? _ _ hx285_0; first | rwa [add_block] at this | exact this) GW284.out); replace hx285_0 := (HB.out.cell (World.block_lt_of_cell? w _ hx285_0)).trans hx285_0; replace hx285_1 := (HB.out.cell (World.block_lt_of_cell? w _ hx285_1)).trans hx285_1; replace hx285_2 := (HB.out.cell (World.block_lt_of_cell? w _ hx285_2)).trans hx285_2; replace hx285_0 := (cell_far (p := ⟨gb284, 0, none⟩) (by first | (rw [add_block]; exact hn285_0) | (show (Addr.add _ _).block ≠ _; rw [add_block]; exact hn285_0) | exact hn285_0) (.int .i64 ((rd_T67 l1 (ji15)).f0))).trans hx285_0; replace hx285_1 := (cell_far (p := ⟨gb284, 0, none⟩) (by first | (rw [add_block]; exact hn285_0) | (show (Addr.add _ _).block ≠ _; rw [add_block]; exact hn285_0) | exact hn285_0) (.int .i64 ((rd_T67 l1 (ji15)).f0))).trans hx285_1; replace hx285_2 := (cell_far (p := ⟨gb284, 0, none⟩) (by first | (rw [add_block]; exact hn285_0) | (show (Addr.add _ _).block ≠ _; rw [add_block]; exact hn285_0) | exact hn285_0) (.int .i64 ((rd_T67 l1 (ji15)).f0))).trans hx285_2; replace hx285_0 := (cell_far (p := ⟨gb284, 1, none⟩) (by first | (rw [add_block]; exact hn285_1) | (show (Addr.add _ _).block ≠ _; rw [add_block]; exact hn285_1) | exact hn285_1) (.int .i64 ((rd_T67 l1 (ji15)).f1))).trans hx285_0; replace hx285_1 := (cell_far (p := ⟨gb284, 1, none⟩) (by first | (rw [add_block]; exact hn285_1) | (show (Addr.add _ _).block ≠ _; rw [add_block]; exact hn285_1) | exact hn285_1) (.int .i64 ((rd_T67 l1 (ji15)).f1))).trans hx285_1; replace hx285_2 := (cell_far (p := ⟨gb284, 1, none⟩) (by first | (rw [add_block]; exact hn285_1) | (show (Addr.add _ _).block ≠ _; rw [add_block]; exact hn285_1) | exact hn285_1) (.int .i64 ((rd_T67 l1 (ji15)).f1))).trans hx285_2; (try have hy285_0 := fun (n_ : Nat) => (show ((((w25.drewN n_).setCell ⟨gb284, 0, none⟩ (.int .i64 ((rd_T67 l1 (ji15)).f0))).setCell ⟨gb284, 1, none⟩ (.int .i64 ((rd_T67 l1 (ji15)).f1)))).cell? _ = some _ from hx285_0)); (try have hy285_1 := fun (n_ : Nat) => (show ((((w25.drewN n_).setCell ⟨gb284, 0, none⟩ (.int .i64 ((rd_T67 l1 (ji15)).f0))).setCell ⟨gb284, 1, none⟩ (.int .i64 ((rd_T67 l1 (ji15)).f1)))).cell? _ = some _ from hx285_1)); (try have hy285_2 := fun (n_ : Nat) => (show ((((w25.drewN n_).setCell ⟨gb284, 0, none⟩ (.int .i64 ((rd_T67 l1 (ji15)).f0))).setCell ⟨gb284, 1, none⟩ (.int .i64 ((rd_T67 l1 (ji15)).f1)))).cell? _ = some _ from hx285_2)); clear hn285_0; clear hn285_1; replace p285 := eq_true p285; replace q285 := eq_true q285))
                     repeat (go_quiet (first | ((with_reducible refine gate_dst (N := 11) rfl ?_); refine box_event ?hg (N := 11) ?hd (cs := #[.int .i64 0, .int .i64 0]) (t := 67) ?hr ?_; (case hd => rfl); (case hg => rfl); (case hr => first | (go_simp; done) | (go_simp; rfl)); intro gb284 hg w25 hbox hb; have n0_ := Aside0.mk (bst_ hb); have n1_ := Aside0.mk (hbox); have n2_ := Aside0.mk ((by rw [hg]; exact bsz_ : w.heap.size ≤ gb284)); have n3_ := n2_; clear HB; have HB := n0_; have BK284 := n1_; have GW284 := n2_; have GE284 := n3_; clear n0_ n1_ n2_ n3_; clear hb hbox hg; have hcz26_0 : w25.cell? ⟨gb284, 0, none⟩ = some (.int .i64 0) := (blk_cell BK284.out 0).trans rfl; have hcz26_1 : w25.cell? ⟨gb284, 1, none⟩ = some (.int .i64 0) := (blk_cell BK284.out 1).trans rfl; have hfz26_0 := blk_frozen BK284.out 0; have hfz26_1 := blk_frozen BK284.out 1; have p285 : 0 ≤ (x10_2 : Int) := of_decide_eq_true (by first | (with_reducible assumption) | assumption); have q285 : x10_2 < (l0.length : Int) := of_decide_eq_true (by first | (with_reducible assumption) | assumption); obtain ⟨ad285, e285, hx285_0, hx285_1, hx285_2⟩ := at_T24 HR0.out x10_2 p285 q285; obtain rfl : ad282 = ad285 := (by injection e285); have hn285_0 : ad282.block ≠ gb284 := Nat.ne_of_lt (Nat.lt_of_lt_of_le (by have := World.block_lt_of_cell? _ _ hx285_0; first | rwa [add_block] at this | exact this) GW284.out); have hn285_1 : ad282.block ≠ gb284 := Nat.ne_of_lt (Nat.lt_of_lt_of_le (by have := World.block_lt_of_cell? _ _ hx285_0; first | rwa [add_block] at this | exact this) GW284.out); replace hx285_0 := (HB.out.cell (World.block_lt_of_cell? w _ hx285_0)).trans hx285_0; replace hx285_1 := (HB.out.cell (World.block_lt_of_cell? w _ hx285_1)).trans hx285_1; replace hx285_2 := (HB.out.cell (World.block_lt_of_cell? w _ hx285_2)).trans hx285_2; replace hx285_0 := (cell_far (p := ⟨gb284, 0, none⟩) (by first | (rw [add_block]; exact hn285_0) | (show (Addr.add _ _).block ≠ _; rw [add_block]; exact hn285_0) | exact hn285_0) (.int .i64 ((rd_T67 l1 (ji15)).f0))).trans hx285_0; replace hx285_1 := (cell_far (p := ⟨gb284, 0, none⟩) (by first | (rw [add_block]; exact hn285_0) | (show (Addr.add _ _).block ≠ _; rw [add_block]; exact hn285_0) | exact hn285_0) (.int .i64 ((rd_T67 l1 (ji15)).f0))).trans hx285_1; replace hx285_2 := (cell_far (p := ⟨gb284, 0, none⟩) (by first | (rw [add_block]; exact hn285_0) | (show (Addr.add _ _).block ≠ _; rw [add_block]; exact hn285_0) | exact hn285_0) (.int .i64 ((rd_T67 l1 (ji15)).f0))).trans hx285_2; replace hx285_0 := (cell_far (p := ⟨gb284, 1, none⟩) (by first | (rw [add_block]; exact hn285_1) | (show (Addr.add _ _).block ≠ _; rw [add_block]; exact hn285_1) | exact hn285_1) (.int .i64 ((rd_T67 l1 (ji15)).f1))).trans hx285_0; replace hx285_1 := (cell_far (p := ⟨gb284, 1, none⟩) (by first | (rw [add_block]; exact hn285_1) | (show (Addr.add _ _).block ≠ _; rw [add_block]; exact hn285_1) | exact hn285_1) (.int .i64 ((rd_T67 l1 (ji15)).f1))).trans hx285_1; replace hx285_2 := (cell_far (p := ⟨gb284, 1, none⟩) (by first | (rw [add_block]; exact hn285_1) | (show (Addr.add _ _).block ≠ _; rw [add_block]; exact hn285_1) | exact hn285_1) (.int .i64 ((rd_T67 l1 (ji15)).f1))).trans hx285_2; (try have hy285_0 := fun (n_ : Nat) => (show ((((w25.drewN n_).setCell ⟨gb284, 0, none⟩ (.int .i64 ((rd_T67 l1 (ji15)).f0))).setCell ⟨gb284, 1, none⟩ (.int .i64 ((rd_T67 l1 (ji15)).f1)))).cell? _ = some _ from hx285_0)); (try have hy285_1 := fun (n_ : Nat) => (show ((((w25.drewN n_).setCell ⟨gb284, 0, none⟩ (.int .i64 ((rd_T67 l1 (ji15)).f0))).setCell ⟨gb284, 1, none⟩ (.int .i64 ((rd_T67 l1 (ji15)).f1)))).cell? _ = some _ from hx285_1)); (try have hy285_2 := fun (n_ : Nat) => (show ((((w25.drewN n_).setCell ⟨gb284, 0, none⟩ (.int .i64 ((rd_T67 l1 (ji15)).f0))).setCell ⟨gb284, 1, none⟩ (.int .i64 ((rd_T67 l1 (ji15)).f1)))).cell? _ = some _ from hx285_2)); clear hn285_0; clear hn285_1; replace p285 := eq_true p285; replace q285 := eq_true q285)); try go_wp2_with (first | ((with_reducible refine gate_dst (N := 11) rfl ?_); refine box_event ?hg (N := 11) ?hd (cs := #[.int .i64 0, .int .i64 0]) (t := 67) ?hr ?_; (case hd => rfl); (case hg => rfl); (case hr => first | (go_simp; done) | (go_simp; rfl)); intro gb284 hg w25 hbox hb; have n0_ := Aside0.mk (bst_ hb); have n1_ := Aside0.mk (hbox); have n2_ := Aside0.mk ((by rw [hg]; exact bsz_ : w.heap.size ≤ gb284)); have n3_ := n2_; clear HB; have HB := n0_; have BK284 := n1_; have GW284 := n2_; have GE284 := n3_; clear n0_ n1_ n2_ n3_; clear hb hbox hg; have hcz26_0 : w25.cell? ⟨gb284, 0, none⟩ = some (.int .i64 0) := (blk_cell BK284.out 0).trans rfl; have hcz26_1 : w25.cell? ⟨gb284, 1, none⟩ = some (.int .i64 0) := (blk_cell BK284.out 1).trans rfl; have hfz26_0 := blk_frozen BK284.out 0; have hfz26_1 := blk_frozen BK284.out 1; have p285 : 0 ≤ (x10_2 : Int) := of_decide_eq_true (by first | (with_reducible assumption) | assumption); have q285 : x10_2 < (l0.length : Int) := of_decide_eq_true (by first | (with_reducible assumption) | assumption); obtain ⟨ad285, e285, hx285_0, hx285_1, hx285_2⟩ := at_T24 HR0.out x10_2 p285 q285; obtain rfl : ad282 = ad285 := (by injection e285); have hn285_0 : ad282.block ≠ gb284 := Nat.ne_of_lt (Nat.lt_of_lt_of_le (by have := World.block_lt_of_cell? _ _ hx285_0; first | rwa [add_block] at this | exact this) GW284.out); have hn285_1 : ad282.block ≠ gb284 := Nat.ne_of_lt (Nat.lt_of_lt_of_le (by have := World.block_lt_of_cell? _ _ hx285_0; first | rwa [add_block] at this | exact this) GW284.out); replace hx285_0 := (HB.out.cell (World.block_lt_of_cell? w _ hx285_0)).trans hx285_0; replace hx285_1 := (HB.out.cell (World.block_lt_of_cell? w _ hx285_1)).trans hx285_1; replace hx285_2 := (HB.out.cell (World.block_lt_of_cell? w _ hx285_2)).trans hx285_2; replace hx285_0 := (cell_far (p := ⟨gb284, 0, none⟩) (by first | (rw [add_block]; exact hn285_0) | (show (Addr.add _ _).block ≠ _; rw [add_block]; exact hn285_0) | exact hn285_0) (.int .i64 ((rd_T67 l1 (ji15)).f0))).trans hx285_0; replace hx285_1 := (cell_far (p := ⟨gb284, 0, none⟩) (by first | (rw [add_block]; exact hn285_0) | (show (Addr.add _ _).block ≠ _; rw [add_block]; exact hn285_0) | exact hn285_0) (.int .i64 ((rd_T67 l1 (ji15)).f0))).trans hx285_1; replace hx285_2 := (cell_far (p := ⟨gb284, 0, none⟩) (by first | (rw [add_block]; exact hn285_0) | (show (Addr.add _ _).block ≠ _; rw [add_block]; exact hn285_0) | exact hn285_0) (.int .i64 ((rd_T67 l1 (ji15)).f0))).trans hx285_2; replace hx285_0 := (cell_far (p := ⟨gb284, 1, none⟩) (by first | (rw [add_block]; exact hn285_1) | (show (Addr.add _ _).block ≠ _; rw [add_block]; exact hn285_1) | exact hn285_1) (.int .i64 ((rd_T67 l1 (ji15)).f1))).trans hx285_0; replace hx285_1 := (cell_far (p := ⟨gb284, 1, none⟩) (by first | (rw [add_block]; exact hn285_1) | (show (Addr.add _ _).block ≠ _; rw [add_block]; exact hn285_1) | exact hn285_1) (.int .i64 ((rd_T67 l1 (ji15)).f1))).trans hx285_1; replace hx285_2 := (cell_far (p := ⟨gb284, 1, none⟩) (by first | (rw [add_block]; exact hn285_1) | (show (Addr.add _ _).block ≠ _; rw [add_block]; exact hn285_1) | exact hn285_1) (.int .i64 ((rd_T67 l1 (ji15)).f1))).trans hx285_2; (try have hy285_0 := fun (n_ : Nat) => (show ((((w25.drewN n_).setCell ⟨gb284, 0, none⟩ (.int .i64 ((rd_T67 l1 (ji15)).f0))).setCell ⟨gb284, 1, none⟩ (.int .i64 ((rd_T67 l1 (ji15)).f1)))).cell? _ = some _ from hx285_0)); (try have hy285_1 := fun (n_ : Nat) => (show ((((w25.drewN n_).setCell ⟨gb284, 0, none⟩ (.int .i64 ((rd_T67 l1 (ji15)).f0))).setCell ⟨gb284, 1, none⟩ (.int .i64 ((rd_T67 l1 (ji15)).f1)))).cell? _ = some _ from hx285_1)); (try have hy285_2 := fun (n_ : Nat) => (show ((((w25.drewN n_).setCell ⟨gb284, 0, none⟩ (.int .i64 ((rd_T67 l1 (ji15)).f0))).setCell ⟨gb284, 1, none⟩ (.int .i64 ((rd_T67 l1 (ji15)).f1)))).cell? _ = some _ from hx285_2)); clear hn285_0; clear hn285_1; replace p285 := eq_true p285; replace q285 := eq_true q285)))
                     go_roundg k2
                     case measure => have := HJ6.out; have := HK2.out; omega
                     case rel => exact ⟨(wrap64 (x10_2 + 1)), (by first | rfl | (simp; done) | (simp [*]; done)), H', ⟨by have := HJ6.out; have := HK2.out; omega⟩, ⟨by repeat (with_reducible first | exact HB.out | apply below_alloc | apply pw_below_drewN | apply below_drew1 | refine below_set ?_ GE284.out)⟩⟩
                 · rw [if_neg c18] at H
                   have c18b0 : (((rd_T67 l1 (ji15)).f0) == ((rd_T24 l0 x10_2).f1)) = false := beq_eq_false_iff_ne.mpr c18
                   have c18b1 : (((rd_T67 l1 (ji15)).f0) != ((rd_T24 l0 x10_2).f1)) = true := bne_iff_ne.mpr c18
                   obtain rfl := Option.some.inj H
                   have p282 : 0 ≤ (x10_2 : Int) := of_decide_eq_true (by first | (with_reducible assumption) | assumption)
                   have q282 : x10_2 < (l0.length : Int) := of_decide_eq_true (by first | (with_reducible assumption) | assumption)
                   obtain ⟨ad282, e282, hx282_0, hx282_1, hx282_2⟩ := at_T24 HR0.out x10_2 p282 q282
                   cases e282
                   replace hx282_0 := (HB.out.cell (World.block_lt_of_cell? w _ hx282_0)).trans hx282_0
                   replace hx282_1 := (HB.out.cell (World.block_lt_of_cell? w _ hx282_1)).trans hx282_1
                   replace hx282_2 := (HB.out.cell (World.block_lt_of_cell? w _ hx282_2)).trans hx282_2
                   replace p282 := eq_true p282
                   replace q282 := eq_true q282
                   have p283 : 0 ≤ ((ji15) : Int) := of_decide_eq_true (by first | (with_reducible assumption) | assumption)
                   have q283 : (ji15) < (l1.length : Int) := of_decide_eq_true (by first | (with_reducible assumption) | assumption)
                   obtain ⟨ad283, e283, hx283_0, hx283_1⟩ := at_T67 HR1.out (ji15) p283 q283
                   cases e283
                   replace hx283_0 := (HB.out.cell (World.block_lt_of_cell? w _ hx283_0)).trans hx283_0
                   replace hx283_1 := (HB.out.cell (World.block_lt_of_cell? w _ hx283_1)).trans hx283_1
                   replace p283 := eq_true p283
                   replace q283 := eq_true q283
                   go_wp2_with (first | ((with_reducible refine gate_dst (N := 11) rfl ?_); refine box_event ?hg (N := 11) ?hd (cs := #[.int .i64 0, .int .i64 0]) (t := 67) ?hr ?_; (case hd => rfl); (case hg => rfl); (case hr => first | (go_simp; done) | (go_simp; rfl)); intro gb284 hg w27 hbox hb; have n0_ := Aside0.mk (bst_ hb); have n1_ := Aside0.mk (hbox); have n2_ := Aside0.mk ((by rw [hg]; exact bsz_ : w.heap.size ≤ gb284)); have n3_ := n2_; clear HB; have HB := n0_; have BK284 := n1_; have GW284 := n2_; have GE284 := n3_; clear n0_ n1_ n2_ n3_; clear hb hbox hg; have hcz28_0 : w27.cell? ⟨gb284, 0, none⟩ = some (.int .i64 0) := (blk_cell BK284.out 0).trans rfl; have hcz28_1 : w27.cell? ⟨gb284, 1, none⟩ = some (.int .i64 0) := (blk_cell BK284.out 1).trans rfl; have hfz28_0 := blk_frozen BK284.out 0; have hfz28_1 := blk_frozen BK284.out 1; have p285 : 0 ≤ (x10_2 : Int) := of_decide_eq_true (by first | (with_reducible assumption) | assumption); have q285 : x10_2 < (l0.length : Int) := of_decide_eq_true (by first | (with_reducible assumption) | assumption); obtain ⟨ad285, e285, hx285_0, hx285_1, hx285_2⟩ := at_T24 HR0.out x10_2 p285 q285; obtain rfl : ad282 = ad285 := (by injection e285); have hn285_0 : ad282.block ≠ gb284 := Nat.ne_of_lt (Nat.lt_of_lt_of_le (by have := World.block_lt_of_cell? _ _ hx285_0; first | rwa [add_block] at this | exact this) GW284.out); have hn285_1 : ad282.block ≠ gb284 := Nat.ne_of_lt (Nat.lt_of_lt_of_le (by have := World.block_lt_of_cell? _ _ hx285_0; first | rwa [add_block] at this | exact this) GW284.out); replace hx285_0 := (HB.out.cell (World.block_lt_of_cell? w _ hx285_0)).trans hx285_0; replace hx285_1 := (HB.out.cell (World.block_lt_of_cell? w _ hx285_1)).trans hx285_1; replace hx285_2 := (HB.out.cell (World.block_lt_of_cell? w _ hx285_2)).trans hx285_2; replace hx285_0 := (cell_far (p := ⟨gb284, 0, none⟩) (by first | (rw [add_block]; exact hn285_0) | (show (Addr.add _ _).block ≠ _; rw [add_block]; exact hn285_0) | exact hn285_0) (.int .i64 ((rd_T67 l1 (ji15)).f0))).trans hx285_0; replace hx285_1 := (cell_far (p := ⟨gb284, 0, none⟩) (by first | (rw [add_block]; exact hn285_0) | (show (Addr.add _ _).block ≠ _; rw [add_block]; exact hn285_0) | exact hn285_0) (.int .i64 ((rd_T67 l1 (ji15)).f0))).trans hx285_1; replace hx285_2 := (cell_far (p := ⟨gb284, 0, none⟩) (by first | (rw [add_block]; exact hn285_0) | (show (Addr.add _ _).block ≠ _; rw [add_block]; exact hn285_0) | exact hn285_0) (.int .i64 ((rd_T67 l1 (ji15)).f0))).trans hx285_2; replace hx285_0 := (cell_far (p := ⟨gb284, 1, none⟩) (by first | (rw [add_block]; exact hn285_1) | (show (Addr.add _ _).block ≠ _; rw [add_block]; exact hn285_1) | exact hn285_1) (.int .i64 ((rd_T67 l1 (ji15)).f1))).trans hx285_0; replace hx285_1 := (cell_far (p := ⟨gb284, 1, none⟩) (by first | (rw [add_block]; exact hn285_1) | (show (Addr.add _ _).block ≠ _; rw [add_block]; exact hn285_1) | exact hn285_1) (.int .i64 ((rd_T67 l1 (ji15)).f1))).trans hx285_1; replace hx285_2 := (cell_far (p := ⟨gb284, 1, none⟩) (by first | (rw [add_block]; exact hn285_1) | (show (Addr.add _ _).block ≠ _; rw [add_block]; exact hn285_1) | exact hn285_1) (.int .i64 ((rd_T67 l1 (ji15)).f1))).trans hx285_2; (try have hy285_0 := fun (n_ : Nat) => (show ((((w27.drewN n_).setCell ⟨gb284, 0, none⟩ (.int .i64 ((rd_T67 l1 (ji15)).f0))).setCell ⟨gb284, 1, none⟩ (.int .i64 ((rd_T67 l1 (ji15)).f1)))).cell? _ = some _ from hx285_0)); (try have hy285_1 := fun (n_ : Nat) => (show ((((w27.drewN n_).setCell ⟨gb284, 0, none⟩ (.int .i64 ((rd_T67 l1 (ji15)).f0))).setCell ⟨gb284, 1, none⟩ (.int .i64 ((rd_T67 l1 (ji15)).f1)))).cell? _ = some _ from hx285_1)); (try have hy285_2 := fun (n_ : Nat) => (show ((((w27.drewN n_).setCell ⟨gb284, 0, none⟩ (.int .i64 ((rd_T67 l1 (ji15)).f0))).setCell ⟨gb284, 1, none⟩ (.int .i64 ((rd_T67 l1 (ji15)).f1)))).cell? _ = some _ from hx285_2)); clear hn285_0; clear hn285_1; replace p285 := eq_true p285; replace q285 := eq_true q285))
                   repeat (go_quiet (first | ((with_reducible refine gate_dst (N := 11) rfl ?_); refine box_event ?hg (N := 11) ?hd (cs := #[.int .i64 0, .int .i64 0]) (t := 67) ?hr ?_; (case hd => rfl); (case hg => rfl); (case hr => first | (go_simp; done) | (go_simp; rfl)); intro gb284 hg w27 hbox hb; have n0_ := Aside0.mk (bst_ hb); have n1_ := Aside0.mk (hbox); have n2_ := Aside0.mk ((by rw [hg]; exact bsz_ : w.heap.size ≤ gb284)); have n3_ := n2_; clear HB; have HB := n0_; have BK284 := n1_; have GW284 := n2_; have GE284 := n3_; clear n0_ n1_ n2_ n3_; clear hb hbox hg; have hcz28_0 : w27.cell? ⟨gb284, 0, none⟩ = some (.int .i64 0) := (blk_cell BK284.out 0).trans rfl; have hcz28_1 : w27.cell? ⟨gb284, 1, none⟩ = some (.int .i64 0) := (blk_cell BK284.out 1).trans rfl; have hfz28_0 := blk_frozen BK284.out 0; have hfz28_1 := blk_frozen BK284.out 1; have p285 : 0 ≤ (x10_2 : Int) := of_decide_eq_true (by first | (with_reducible assumption) | assumption); have q285 : x10_2 < (l0.length : Int) := of_decide_eq_true (by first | (with_reducible assumption) | assumption); obtain ⟨ad285, e285, hx285_0, hx285_1, hx285_2⟩ := at_T24 HR0.out x10_2 p285 q285; obtain rfl : ad282 = ad285 := (by injection e285); have hn285_0 : ad282.block ≠ gb284 := Nat.ne_of_lt (Nat.lt_of_lt_of_le (by have := World.block_lt_of_cell? _ _ hx285_0; first | rwa [add_block] at this | exact this) GW284.out); have hn285_1 : ad282.block ≠ gb284 := Nat.ne_of_lt (Nat.lt_of_lt_of_le (by have := World.block_lt_of_cell? _ _ hx285_0; first | rwa [add_block] at this | exact this) GW284.out); replace hx285_0 := (HB.out.cell (World.block_lt_of_cell? w _ hx285_0)).trans hx285_0; replace hx285_1 := (HB.out.cell (World.block_lt_of_cell? w _ hx285_1)).trans hx285_1; replace hx285_2 := (HB.out.cell (World.block_lt_of_cell? w _ hx285_2)).trans hx285_2; replace hx285_0 := (cell_far (p := ⟨gb284, 0, none⟩) (by first | (rw [add_block]; exact hn285_0) | (show (Addr.add _ _).block ≠ _; rw [add_block]; exact hn285_0) | exact hn285_0) (.int .i64 ((rd_T67 l1 (ji15)).f0))).trans hx285_0; replace hx285_1 := (cell_far (p := ⟨gb284, 0, none⟩) (by first | (rw [add_block]; exact hn285_0) | (show (Addr.add _ _).block ≠ _; rw [add_block]; exact hn285_0) | exact hn285_0) (.int .i64 ((rd_T67 l1 (ji15)).f0))).trans hx285_1; replace hx285_2 := (cell_far (p := ⟨gb284, 0, none⟩) (by first | (rw [add_block]; exact hn285_0) | (show (Addr.add _ _).block ≠ _; rw [add_block]; exact hn285_0) | exact hn285_0) (.int .i64 ((rd_T67 l1 (ji15)).f0))).trans hx285_2; replace hx285_0 := (cell_far (p := ⟨gb284, 1, none⟩) (by first | (rw [add_block]; exact hn285_1) | (show (Addr.add _ _).block ≠ _; rw [add_block]; exact hn285_1) | exact hn285_1) (.int .i64 ((rd_T67 l1 (ji15)).f1))).trans hx285_0; replace hx285_1 := (cell_far (p := ⟨gb284, 1, none⟩) (by first | (rw [add_block]; exact hn285_1) | (show (Addr.add _ _).block ≠ _; rw [add_block]; exact hn285_1) | exact hn285_1) (.int .i64 ((rd_T67 l1 (ji15)).f1))).trans hx285_1; replace hx285_2 := (cell_far (p := ⟨gb284, 1, none⟩) (by first | (rw [add_block]; exact hn285_1) | (show (Addr.add _ _).block ≠ _; rw [add_block]; exact hn285_1) | exact hn285_1) (.int .i64 ((rd_T67 l1 (ji15)).f1))).trans hx285_2; (try have hy285_0 := fun (n_ : Nat) => (show ((((w27.drewN n_).setCell ⟨gb284, 0, none⟩ (.int .i64 ((rd_T67 l1 (ji15)).f0))).setCell ⟨gb284, 1, none⟩ (.int .i64 ((rd_T67 l1 (ji15)).f1)))).cell? _ = some _ from hx285_0)); (try have hy285_1 := fun (n_ : Nat) => (show ((((w27.drewN n_).setCell ⟨gb284, 0, none⟩ (.int .i64 ((rd_T67 l1 (ji15)).f0))).setCell ⟨gb284, 1, none⟩ (.int .i64 ((rd_T67 l1 (ji15)).f1)))).cell? _ = some _ from hx285_1)); (try have hy285_2 := fun (n_ : Nat) => (show ((((w27.drewN n_).setCell ⟨gb284, 0, none⟩ (.int .i64 ((rd_T67 l1 (ji15)).f0))).setCell ⟨gb284, 1, none⟩ (.int .i64 ((rd_T67 l1 (ji15)).f1)))).cell? _ = some _ from hx285_2)); clear hn285_0; clear hn285_1; replace p285 := eq_true p285; replace q285 := eq_true q285)); try go_wp2_with (first | ((with_reducible refine gate_dst (N := 11) rfl ?_); refine box_event ?hg (N := 11) ?hd (cs := #[.int .i64 0, .int .i64 0]) (t := 67) ?hr ?_; (case hd => rfl); (case hg => rfl); (case hr => first | (go_simp; done) | (go_simp; rfl)); intro gb284 hg w27 hbox hb; have n0_ := Aside0.mk (bst_ hb); have n1_ := Aside0.mk (hbox); have n2_ := Aside0.mk ((by rw [hg]; exact bsz_ : w.heap.size ≤ gb284)); have n3_ := n2_; clear HB; have HB := n0_; have BK284 := n1_; have GW284 := n2_; have GE284 := n3_; clear n0_ n1_ n2_ n3_; clear hb hbox hg; have hcz28_0 : w27.cell? ⟨gb284, 0, none⟩ = some (.int .i64 0) := (blk_cell BK284.out 0).trans rfl; have hcz28_1 : w27.cell? ⟨gb284, 1, none⟩ = some (.int .i64 0) := (blk_cell BK284.out 1).trans rfl; have hfz28_0 := blk_frozen BK284.out 0; have hfz28_1 := blk_frozen BK284.out 1; have p285 : 0 ≤ (x10_2 : Int) := of_decide_eq_true (by first | (with_reducible assumption) | assumption); have q285 : x10_2 < (l0.length : Int) := of_decide_eq_true (by first | (with_reducible assumption) | assumption); obtain ⟨ad285, e285, hx285_0, hx285_1, hx285_2⟩ := at_T24 HR0.out x10_2 p285 q285; obtain rfl : ad282 = ad285 := (by injection e285); have hn285_0 : ad282.block ≠ gb284 := Nat.ne_of_lt (Nat.lt_of_lt_of_le (by have := World.block_lt_of_cell? _ _ hx285_0; first | rwa [add_block] at this | exact this) GW284.out); have hn285_1 : ad282.block ≠ gb284 := Nat.ne_of_lt (Nat.lt_of_lt_of_le (by have := World.block_lt_of_cell? _ _ hx285_0; first | rwa [add_block] at this | exact this) GW284.out); replace hx285_0 := (HB.out.cell (World.block_lt_of_cell? w _ hx285_0)).trans hx285_0; replace hx285_1 := (HB.out.cell (World.block_lt_of_cell? w _ hx285_1)).trans hx285_1; replace hx285_2 := (HB.out.cell (World.block_lt_of_cell? w _ hx285_2)).trans hx285_2; replace hx285_0 := (cell_far (p := ⟨gb284, 0, none⟩) (by first | (rw [add_block]; exact hn285_0) | (show (Addr.add _ _).block ≠ _; rw [add_block]; exact hn285_0) | exact hn285_0) (.int .i64 ((rd_T67 l1 (ji15)).f0))).trans hx285_0; replace hx285_1 := (cell_far (p := ⟨gb284, 0, none⟩) (by first | (rw [add_block]; exact hn285_0) | (show (Addr.add _ _).block ≠ _; rw [add_block]; exact hn285_0) | exact hn285_0) (.int .i64 ((rd_T67 l1 (ji15)).f0))).trans hx285_1; replace hx285_2 := (cell_far (p := ⟨gb284, 0, none⟩) (by first | (rw [add_block]; exact hn285_0) | (show (Addr.add _ _).block ≠ _; rw [add_block]; exact hn285_0) | exact hn285_0) (.int .i64 ((rd_T67 l1 (ji15)).f0))).trans hx285_2; replace hx285_0 := (cell_far (p := ⟨gb284, 1, none⟩) (by first | (rw [add_block]; exact hn285_1) | (show (Addr.add _ _).block ≠ _; rw [add_block]; exact hn285_1) | exact hn285_1) (.int .i64 ((rd_T67 l1 (ji15)).f1))).trans hx285_0; replace hx285_1 := (cell_far (p := ⟨gb284, 1, none⟩) (by first | (rw [add_block]; exact hn285_1) | (show (Addr.add _ _).block ≠ _; rw [add_block]; exact hn285_1) | exact hn285_1) (.int .i64 ((rd_T67 l1 (ji15)).f1))).trans hx285_1; replace hx285_2 := (cell_far (p := ⟨gb284, 1, none⟩) (by first | (rw [add_block]; exact hn285_1) | (show (Addr.add _ _).block ≠ _; rw [add_block]; exact hn285_1) | exact hn285_1) (.int .i64 ((rd_T67 l1 (ji15)).f1))).trans hx285_2; (try have hy285_0 := fun (n_ : Nat) => (show ((((w27.drewN n_).setCell ⟨gb284, 0, none⟩ (.int .i64 ((rd_T67 l1 (ji15)).f0))).setCell ⟨gb284, 1, none⟩ (.int .i64 ((rd_T67 l1 (ji15)).f1)))).cell? _ = some _ from hx285_0)); (try have hy285_1 := fun (n_ : Nat) => (show ((((w27.drewN n_).setCell ⟨gb284, 0, none⟩ (.int .i64 ((rd_T67 l1 (ji15)).f0))).setCell ⟨gb284, 1, none⟩ (.int .i64 ((rd_T67 l1 (ji15)).f1)))).cell? _ = some _ from hx285_1)); (try have hy285_2 := fun (n_ : Nat) => (show ((((w27.drewN n_).setCell ⟨gb284, 0, none⟩ (.int .i64 ((rd_T67 l1 (ji15)).f0))).setCell ⟨gb284, 1, none⟩ (.int .i64 ((rd_T67 l1 (ji15)).f1)))).cell? _ = some _ from hx285_2)); clear hn285_0; clear hn285_1; replace p285 := eq_true p285; replace q285 := eq_true q285)))
                   go_ret
                   exact ⟨by first | rfl | (simp [errW_none, errW_some] <;> rfl) | (simp only [← hji15]; first | rfl | (simp [errW_none, errW_some] <;> rfl)) | (simp [*, errW_none, errW_some] <;> rfl), by repeat (with_reducible first | exact HB.out | apply below_alloc | apply pw_below_drewN | apply below_drew1 | refine below_set ?_ GE284.out)⟩
               · rw [if_neg c17] at H
                 exact absurd H (by simp)
             · rw [if_neg c16] at H
               exact absurd H (by simp)
         · rw [if_neg c13] at H
           exact absurd H (by simp)
       · rw [if_neg c12] at H
         have c12b0 : decide (x10_2 < (l0.length : Int)) = false := decide_eq_false c12
         clear c12
         obtain rfl := Option.some.inj H
         go_wp2
         repeat (go_quiet (fail); try go_wp2)
         go_ret
         exact ⟨by first | rfl | (simp [errW_none, errW_some] <;> rfl) | (simp [*, errW_none, errW_some] <;> rfl), by repeat (with_reducible first | exact HB.out | apply below_alloc | apply pw_below_drewN | apply below_drew1)⟩

/-! ### handshakerref02_Right: function 56 -/
def handshakerref02_Right.l0 : Nat → List (S73) → Int → Option (Bool)
 | 0, _, _ => none
 | k + 1, x0, x3 => if x3 < (x0.length : Int) then (if 0 ≤ x3 then ((handshakerref01_Right.f ((rd_T73 x0 x3).f1)).bind fun t287 => (if t287 = true then (if ((rd_T73 x0 x3).f0 = true) then (handshakerref02_Right.l0 k x0 (wrap64 (x3 + 1))) else (if ((rd_T73 x0 x3).f1) = 0 then (handshakerref02_Right.l0 k x0 (wrap64 (x3 + 1))) else (some false))) else (some false))) else (none)) else (if (x0.length : Int) > 0 then (some (decide ((x0.length : Int) < 65))) else (some false))
def handshakerref02_Right.f (k : Nat) (l0 : List (S73)) : Option (Bool) := handshakerref02_Right.l0 k l0 0
theorem handshakerref02_Right.mono_l : ∀ k, (∀ y0 y1, LeO (handshakerref02_Right.l0 k y0 y1) (handshakerref02_Right.l0 (k + 1) y0 y1))
 | 0 => fun _ _ r h => by simp [handshakerref02_Right.l0] at h
 | k + 1 => by
  have ih0 := handshakerref02_Right.mono_l k
  · intro y0 y1
    unfold handshakerref02_Right.l0
    repeat' first
    | (with_reducible exact ih0 _ _)
    | (with_reducible exact LeO.refl _)
    | (with_reducible exact LeO.none _)
    | (with_reducible refine LeO.ite ?_ ?_)
    | (with_reducible refine LeO.bind ?_ (fun _ => ?_))
    | exact ih0 _ _
    | exact LeO.none _
    | refine LeO.ite ?_ ?_
    | refine LeO.bind ?_ (fun _ => ?_)
theorem handshakerref02_Right.mono : ∀ a0 k, LeO (handshakerref02_Right.f k a0) (handshakerref02_Right.f (k + 1) a0) := by
 intro a0 k
 have ih0 := handshakerref02_Right.mono_l k
 unfold handshakerref02_Right.f
 repeat' first
  | (with_reducible exact ih0 _ _)
  | (with_reducible exact LeO.refl _)
  | (with_reducible exact LeO.none _)
  | (with_reducible refine LeO.ite ?_ ?_)
  | (with_reducible refine LeO.bind ?_ (fun _ => ?_))
  | exact ih0 _ _
  | exact LeO.none _
  | refine LeO.ite ?_ ?_
  | refine LeO.bind ?_ (fun _ => ?_)
set_option maxHeartbeats 8000000 in
set_option maxRecDepth 100000 in
theorem handshakerref02_Right.calls (k : Nat) (A0 : Option Addr) (c0 : Nat) (l0 : List (S73)) (r : Bool) (w : World) (hr0 : Kd.C k73 w A0 l0.length l0) (hc0 : l0.length ≤ c0) (h : handshakerref02_Right.f k l0 = some r) :
 Calls Try.prog 56 #[.slice A0 l0.length c0] w fun e w' => e = .returned (.bool r) ∧ Drawn0 w w' := by
 have HR0 := Aside0.mk hr0
 have HC0 := Aside0.mk hc0
 clear hr0 hc0
 have H : (handshakerref02_Right.l0 k l0 0) = some r := h
 clear h
 have H' := Aside0.mk H
 clear H
 go_enter Try.func56, Try.ntmps56
 go_wp2
 go_loopg [3] k (fun kq v3 w' => ∃ (x3_1 : Int), v3 = .int .i64 x3_1 ∧ Aside0 (handshakerref02_Right.l0 kq l0 x3_1 = some r) ∧ Aside0 (kq ≤ k) ∧ Drawn0 w w')
 case atStart => exact ⟨(0), (by first | rfl | (simp; done) | (simp [*]; done)), H', ⟨Nat.le_refl _⟩, by repeat (first | exact Drawn0.refl _ | apply Drawn0.step)⟩
 case round =>
  clear H'
  obtain ⟨x3_1, rfl, HA, HK1, ⟨m1, rfl⟩⟩ := hrel
  cases gk with
  | zero => exact absurd HA.out (by simp [handshakerref02_Right.l0])
  | succ k1 =>
   have H := HA.out
   clear HA
   simp only [handshakerref02_Right.l0] at H
   by_cases c2 : x3_1 < (l0.length : Int)
   · rw [if_pos c2] at H
     have c2b0 : decide (x3_1 < (l0.length : Int)) = true := decide_eq_true c2
     clear c2
     by_cases c3 : 0 ≤ x3_1
     · rw [if_pos c3] at H
       have c3b0 : decide (0 ≤ x3_1) = true := decide_eq_true c3
       clear c3
       replace H := Option.bind_eq_some_iff.mp H
       obtain ⟨t287, A40, H⟩ := H
       replace H : (if t287 = true then (if ((rd_T73 l0 x3_1).f0 = true) then (handshakerref02_Right.l0 k1 l0 (wrap64 (x3_1 + 1))) else (if ((rd_T73 l0 x3_1).f1) = 0 then (handshakerref02_Right.l0 k1 l0 (wrap64 (x3_1 + 1))) else (some false))) else (some false)) = some r := H
       have A4 := Aside0.mk A40
       clear A40
       by_cases c5 : t287 = true
       · subst c5
         have H1 : (if ((rd_T73 l0 x3_1).f0 = true) then (handshakerref02_Right.l0 k1 l0 (wrap64 (x3_1 + 1))) else (if ((rd_T73 l0 x3_1).f1) = 0 then (handshakerref02_Right.l0 k1 l0 (wrap64 (x3_1 + 1))) else (some false))) = some r := by rw [if_pos rfl] at H; exact H
         clear H
         have H := H1
         clear H1
         obtain ⟨bq6, hbq6⟩ : ∃ b_ : Bool, b_ = ((rd_T73 l0 x3_1).f0) := ⟨_, rfl⟩
         replace H : (if (bq6 = true) then (handshakerref02_Right.l0 k1 l0 (wrap64 (x3_1 + 1))) else (if ((rd_T73 l0 x3_1).f1) = 0 then (handshakerref02_Right.l0 k1 l0 (wrap64 (x3_1 + 1))) else (some false))) = some r := by rw [← hbq6] at H; exact H
         have Nbq6 := Aside0.mk hbq6
         clear hbq6
         by_cases c7 : (bq6 = true)
         · subst c7
           have H1 : (handshakerref02_Right.l0 k1 l0 (wrap64 (x3_1 + 1))) = some r := by rw [if_pos rfl] at H; exact H
           clear H
           have H := H1
           clear H1
           have H' := Aside0.mk H
           clear H
           have p286 : 0 ≤ (x3_1 : Int) := of_decide_eq_true (by first | (with_reducible assumption) | assumption)
           have q286 : x3_1 < (l0.length : Int) := of_decide_eq_true (by first | (with_reducible assumption) | assumption)
           obtain ⟨ad286, e286, hx286_0, hx286_1⟩ := at_T73 HR0.out x3_1 p286 q286
           (try rw [← Nbq6.out] at hx286_0)
           cases e286
           replace p286 := eq_true p286
           replace q286 := eq_true q286
           go_wp2_with (first | ((with_reducible refine gate_callee (f := 71) rfl ?_); refine goesL_ (some 16) rfl rfl Try.func71 (by kernel_rfl) rfl #[.int .i64 ((rd_T73 l0 x3_1).f1)] rfl (by (try simp only [List.map_toArray, List.map_cons, List.map_nil]); first | done | rfl) ?_; (with_reducible refine (handshakerref01_Right.calls ((rd_T73 l0 x3_1).f1) true _ A4.out).mono ?_); rintro e w' ⟨rfl, ⟨nd, rfl⟩⟩; refine ⟨_, rfl, ?_⟩; have p288 : 0 ≤ (x3_1 : Int) := of_decide_eq_true (by first | (with_reducible assumption) | assumption); have q288 : x3_1 < (l0.length : Int) := of_decide_eq_true (by first | (with_reducible assumption) | assumption); obtain ⟨ad288, e288, hx288_0, hx288_1⟩ := at_T73 HR0.out x3_1 p288 q288; (try rw [← Nbq6.out] at hx288_0); obtain rfl : ad286 = ad288 := (by injection e288); replace p288 := eq_true p288; replace q288 := eq_true q288))
           go_roundg k1
           case measure => have := HK1.out; omega
           case rel => exact ⟨(wrap64 (x3_1 + 1)), (by first | rfl | (simp; done) | (simp [*]; done)), H', ⟨by have := HK1.out; omega⟩, by repeat (first | exact Drawn0.refl _ | apply Drawn0.step)⟩
         · replace c7 := Bool.eq_false_iff.mpr c7
           subst c7
           have H1 : (if ((rd_T73 l0 x3_1).f1) = 0 then (handshakerref02_Right.l0 k1 l0 (wrap64 (x3_1 + 1))) else (some false)) = some r := by rw [if_neg (show ¬ (false = true) by decide)] at H; exact H
           clear H
           have H := H1
           clear H1
           by_cases c8 : ((rd_T73 l0 x3_1).f1) = 0
           · rw [if_pos c8] at H
             have c8b0 : (((rd_T73 l0 x3_1).f1) == 0) = true := beq_iff_eq.mpr c8
             have c8b1 : (((rd_T73 l0 x3_1).f1) != 0) = false := bne_eq_false_iff_eq.mpr c8
             clear c8
             have H' := Aside0.mk H
             clear H
             have p286 : 0 ≤ (x3_1 : Int) := of_decide_eq_true (by first | (with_reducible assumption) | assumption)
             have q286 : x3_1 < (l0.length : Int) := of_decide_eq_true (by first | (with_reducible assumption) | assumption)
             obtain ⟨ad286, e286, hx286_0, hx286_1⟩ := at_T73 HR0.out x3_1 p286 q286
             (try rw [← Nbq6.out] at hx286_0)
             cases e286
             replace p286 := eq_true p286
             replace q286 := eq_true q286
             go_wp2_with (first | ((with_reducible refine gate_callee (f := 71) rfl ?_); refine goesL_ (some 16) rfl rfl Try.func71 (by kernel_rfl) rfl #[.int .i64 ((rd_T73 l0 x3_1).f1)] rfl (by (try simp only [List.map_toArray, List.map_cons, List.map_nil]); first | done | rfl) ?_; (with_reducible refine (handshakerref01_Right.calls ((rd_T73 l0 x3_1).f1) true _ A4.out).mono ?_); rintro e w' ⟨rfl, ⟨nd, rfl⟩⟩; refine ⟨_, rfl, ?_⟩; have p288 : 0 ≤ (x3_1 : Int) := of_decide_eq_true (by first | (with_reducible assumption) | assumption); have q288 : x3_1 < (l0.length : Int) := of_decide_eq_true (by first | (with_reducible assumption) | assumption); obtain ⟨ad288, e288, hx288_0, hx288_1⟩ := at_T73 HR0.out x3_1 p288 q288; (try rw [← Nbq6.out] at hx288_0); obtain rfl : ad286 = ad288 := (by injection e288); replace p288 := eq_true p288; replace q288 := eq_true q288; have p289 : 0 ≤ (x3_1 : Int) := of_decide_eq_true (by first | (with_reducible assumption) | assumption); have q289 : x3_1 < (l0.length : Int) := of_decide_eq_true (by first | (with_reducible assumption) | assumption); obtain ⟨ad289, e289, hx289_0, hx289_1⟩ := at_T73 HR0.out x3_1 p289 q289; (try rw [← Nbq6.out] at hx289_0); obtain rfl : ad286 = ad289 := (by injection e289); replace p289 := eq_true p289; replace q289 := eq_true q289))
             go_roundg k1
             case measure => have := HK1.out; omega
             case rel => exact ⟨(wrap64 (x3_1 + 1)), (by first | rfl | (simp; done) | (simp [*]; done)), H', ⟨by have := HK1.out; omega⟩, by repeat (first | exact Drawn0.refl _ | apply Drawn0.step)⟩
           · rw [if_neg c8] at H
             have c8b0 : (((rd_T73 l0 x3_1).f1) == 0) = false := beq_eq_false_iff_ne.mpr c8
             have c8b1 : (((rd_T73 l0 x3_1).f1) != 0) = true := bne_iff_ne.mpr c8
             obtain rfl := Option.some.inj H
             have p286 : 0 ≤ (x3_1 : Int) := of_decide_eq_true (by first | (with_reducible assumption) | assumption)
             have q286 : x3_1 < (l0.length : Int) := of_decide_eq_true (by first | (with_reducible assumption) | assumption)
             obtain ⟨ad286, e286, hx286_0, hx286_1⟩ := at_T73 HR0.out x3_1 p286 q286
             (try rw [← Nbq6.out] at hx286_0)
             cases e286
             replace p286 := eq_true p286
             replace q286 := eq_true q286
             go_wp2_with (first | ((with_reducible refine gate_callee (f := 71) rfl ?_); refine goesL_ (some 16) rfl rfl Try.func71 (by kernel_rfl) rfl #[.int .i64 ((rd_T73 l0 x3_1).f1)] rfl (by (try simp only [List.map_toArray, List.map_cons, List.map_nil]); first | done | rfl) ?_; (with_reducible refine (handshakerref01_Right.calls ((rd_T73 l0 x3_1).f1) true _ A4.out).mono ?_); rintro e w' ⟨rfl, ⟨nd, rfl⟩⟩; refine ⟨_, rfl, ?_⟩; have p288 : 0 ≤ (x3_1 : Int) := of_decide_eq_true (by first | (with_reducible assumption) | assumption); have q288 : x3_1 < (l0.length : Int) := of_decide_eq_true (by first | (with_reducible assumption) | assumption); obtain ⟨ad288, e288, hx288_0, hx288_1⟩ := at_T73 HR0.out x3_1 p288 q288; (try rw [← Nbq6.out] at hx288_0); obtain rfl : ad286 = ad288 := (by injection e288); replace p288 := eq_true p288; replace q288 := eq_true q288; have p289 : 0 ≤ (x3_1 : Int) := of_decide_eq_true (by first | (with_reducible assumption) | assumption); have q289 : x3_1 < (l0.length : Int) := of_decide_eq_true (by first | (with_reducible assumption) | assumption); obtain ⟨ad289, e289, hx289_0, hx289_1⟩ := at_T73 HR0.out x3_1 p289 q289; (try rw [← Nbq6.out] at hx289_0); obtain rfl : ad286 = ad289 := (by injection e289); replace p289 := eq_true p289; replace q289 := eq_true q289))
             go_ret
             exact ⟨by first | rfl | (simp; done) | (simp [*]; done), by repeat (first | exact Drawn0.refl _ | apply Drawn0.step)⟩
       · replace c5 := Bool.eq_false_iff.mpr c5
         subst c5
         have H1 : (some false) = some r := by rw [if_neg (show ¬ (false = true) by decide)] at H; exact H
         clear H
         have H := H1
         clear H1
         obtain rfl := Option.some.inj H
         have p286 : 0 ≤ (x3_1 : Int) := of_decide_eq_true (by first | (with_reducible assumption) | assumption)
         have q286 : x3_1 < (l0.length : Int) := of_decide_eq_true (by first | (with_reducible assumption) | assumption)
         obtain ⟨ad286, e286, hx286_0, hx286_1⟩ := at_T73 HR0.out x3_1 p286 q286
         cases e286
         replace p286 := eq_true p286
         replace q286 := eq_true q286
         go_wp2_with (first | ((with_reducible refine gate_callee (f := 71) rfl ?_); refine goesL_ (some 16) rfl rfl Try.func71 (by kernel_rfl) rfl #[.int .i64 ((rd_T73 l0 x3_1).f1)] rfl (by (try simp only [List.map_toArray, List.map_cons, List.map_nil]); first | done | rfl) ?_; (with_reducible refine (handshakerref01_Right.calls ((rd_T73 l0 x3_1).f1) false _ A4.out).mono ?_); rintro e w' ⟨rfl, ⟨nd, rfl⟩⟩; refine ⟨_, rfl, ?_⟩))
         go_ret
         exact ⟨by first | rfl | (simp; done) | (simp [*]; done), by repeat (first | exact Drawn0.refl _ | apply Drawn0.step)⟩
     · rw [if_neg c3] at H
       exact absurd H (by simp)
   · rw [if_neg c2] at H
     have c2b0 : decide (x3_1 < (l0.length : Int)) = false := decide_eq_false c2
     clear c2
     by_cases c9 : (l0.length : Int) > 0
     · rw [if_pos c9] at H
       have c9b0 : decide (0 < (l0.length : Int)) = true := decide_eq_true c9
       have c9b1 : decide (0 < l0.length) = true := decide_eq_true (by omega)
       clear c9
       obtain rfl := Option.some.inj H
       go_wp2
       go_ret
       exact ⟨by first | rfl | (simp; done) | (simp [*]; done), by repeat (first | exact Drawn0.refl _ | apply Drawn0.step)⟩
     · rw [if_neg c9] at H
       have c9b0 : decide (0 < (l0.length : Int)) = false := decide_eq_false c9
       have c9b1 : decide (0 < l0.length) = false := decide_eq_false (by omega)
       clear c9
       obtain rfl := Option.some.inj H
       go_wp2
       go_ret
       exact ⟨by first | rfl | (simp; done) | (simp [*]; done), by repeat (first | exact Drawn0.refl _ | apply Drawn0.step)⟩

/-! ### handshakerref02_Live: function 57 -/
def handshakerref02_Live.l0 : Nat → List (S73) → Int → Int → Option (Bool)
 | 0, _, _, _ => none
 | k + 1, x0, x1, x5 => if x5 < (x0.length : Int) then (if x5 = x1 then (if 0 ≤ x5 then (some ((rd_T73 x0 x5).f0)) else (none)) else (handshakerref02_Live.l0 k x0 x1 (wrap64 (x5 + 1)))) else (some false)
def handshakerref02_Live.f (k : Nat) (l0 : List (S73)) (a1 : Int) : Option (Bool) := handshakerref02_Live.l0 k l0 a1 0
theorem handshakerref02_Live.mono_l : ∀ k, (∀ y0 y1 y2, LeO (handshakerref02_Live.l0 k y0 y1 y2) (handshakerref02_Live.l0 (k + 1) y0 y1 y2))
 | 0 => fun _ _ _ r h => by simp [handshakerref02_Live.l0] at h
 | k + 1 => by
  have ih0 := handshakerref02_Live.mono_l k
  · intro y0 y1 y2
    unfold handshakerref02_Live.l0
    repeat' first
    | (with_reducible exact ih0 _ _ _)
    | (with_reducible exact LeO.refl _)
    | (with_reducible exact LeO.none _)
    | (with_reducible refine LeO.ite ?_ ?_)
    | (with_reducible refine LeO.bind ?_ (fun _ => ?_))
    | exact ih0 _ _ _
    | exact LeO.none _
    | refine LeO.ite ?_ ?_
    | refine LeO.bind ?_ (fun _ => ?_)
theorem handshakerref02_Live.mono : ∀ a0 a1 k, LeO (handshakerref02_Live.f k a0 a1) (handshakerref02_Live.f (k + 1) a0 a1) := by
 intro a0 a1 k
 have ih0 := handshakerref02_Live.mono_l k
 unfold handshakerref02_Live.f
 repeat' first
  | (with_reducible exact ih0 _ _ _)
  | (with_reducible exact LeO.refl _)
  | (with_reducible exact LeO.none _)
  | (with_reducible refine LeO.ite ?_ ?_)
  | (with_reducible refine LeO.bind ?_ (fun _ => ?_))
  | exact ih0 _ _ _
  | exact LeO.none _
  | refine LeO.ite ?_ ?_
  | refine LeO.bind ?_ (fun _ => ?_)
set_option maxHeartbeats 8000000 in
set_option maxRecDepth 100000 in
theorem handshakerref02_Live.calls (k : Nat) (A0 : Option Addr) (c0 : Nat) (l0 : List (S73)) (a1 : Int) (r : Bool) (w : World) (hr0 : Kd.C k73 w A0 l0.length l0) (hc0 : l0.length ≤ c0) (h : handshakerref02_Live.f k l0 a1 = some r) :
 Calls Try.prog 57 #[.slice A0 l0.length c0, .int .i64 a1] w fun e w' => e = .returned (.bool r) ∧ Drawn0 w w' := by
 have HR0 := Aside0.mk hr0
 have HC0 := Aside0.mk hc0
 clear hr0 hc0
 have H : (handshakerref02_Live.l0 k l0 a1 0) = some r := h
 clear h
 have H' := Aside0.mk H
 clear H
 go_enter Try.func57, Try.ntmps57
 go_wp2
 go_loopg [5] k (fun kq v5 w' => ∃ (x5_1 : Int), v5 = .int .i64 x5_1 ∧ Aside0 (handshakerref02_Live.l0 kq l0 a1 x5_1 = some r) ∧ Aside0 (kq ≤ k) ∧ Drawn0 w w')
 case atStart => exact ⟨(0), (by first | rfl | (simp; done) | (simp [*]; done)), H', ⟨Nat.le_refl _⟩, by repeat (first | exact Drawn0.refl _ | apply Drawn0.step)⟩
 case round =>
  clear H'
  try clear p2
  obtain ⟨x5_1, rfl, HA, HK1, ⟨m1, rfl⟩⟩ := hrel
  cases gk with
  | zero => exact absurd HA.out (by simp [handshakerref02_Live.l0])
  | succ k1 =>
   have H := HA.out
   clear HA
   simp only [handshakerref02_Live.l0] at H
   by_cases c3 : x5_1 < (l0.length : Int)
   · rw [if_pos c3] at H
     have c3b0 : decide (x5_1 < (l0.length : Int)) = true := decide_eq_true c3
     clear c3
     by_cases c4 : x5_1 = a1
     · rw [if_pos c4] at H
       have c4b0 : (x5_1 == a1) = true := beq_iff_eq.mpr c4
       have c4b1 : (x5_1 != a1) = false := bne_eq_false_iff_eq.mpr c4
       clear c4
       by_cases c5 : 0 ≤ x5_1
       · rw [if_pos c5] at H
         have c5b0 : decide (0 ≤ x5_1) = true := decide_eq_true c5
         clear c5
         obtain rfl := Option.some.inj H
         have p290 : 0 ≤ (x5_1 : Int) := of_decide_eq_true (by first | (with_reducible assumption) | assumption)
         have q290 : x5_1 < (l0.length : Int) := of_decide_eq_true (by first | (with_reducible assumption) | assumption)
         obtain ⟨ad290, e290, hx290_0, hx290_1⟩ := at_T73 HR0.out x5_1 p290 q290
         cases e290
         replace p290 := eq_true p290
         replace q290 := eq_true q290
         go_wp2
         go_ret
         exact ⟨by first | rfl | (simp; done) | (simp [*]; done), by repeat (first | exact Drawn0.refl _ | apply Drawn0.step)⟩
       · rw [if_neg c5] at H
         exact absurd H (by simp)
     · rw [if_neg c4] at H
       have c4b0 : (x5_1 == a1) = false := beq_eq_false_iff_ne.mpr c4
       have c4b1 : (x5_1 != a1) = true := bne_iff_ne.mpr c4
       have H' := Aside0.mk H
       clear H
       go_wp2
       go_roundg k1
       case measure => have := HK1.out; omega
       case rel => exact ⟨(wrap64 (x5_1 + 1)), (by first | rfl | (simp; done) | (simp [*]; done)), H', ⟨by have := HK1.out; omega⟩, by repeat (first | exact Drawn0.refl _ | apply Drawn0.step)⟩
   · rw [if_neg c3] at H
     have c3b0 : decide (x5_1 < (l0.length : Int)) = false := decide_eq_false c3
     clear c3
     obtain rfl := Option.some.inj H
     go_wp2
     go_ret
     exact ⟨by first | rfl | (simp; done) | (simp [*]; done), by repeat (first | exact Drawn0.refl _ | apply Drawn0.step)⟩

end Go.Proofs.Ytlfmobnmohnjmaa.R
