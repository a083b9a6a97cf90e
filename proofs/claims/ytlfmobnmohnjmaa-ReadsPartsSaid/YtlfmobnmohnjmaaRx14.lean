-- PRINTED by print.py (a twelfth state) out of the translation. Not trusted: Lean checks it.
import Derived.Test.YtlfmobnmohnjmaaRx0
import Derived.Test.YtlfmobnmohnjmaaRx2
import Derived.Test.YtlfmobnmohnjmaaRx3
import Derived.Test.YtlfmobnmohnjmaaRx4
import Derived.Test.YtlfmobnmohnjmaaRx5
import Derived.Test.YtlfmobnmohnjmaaRx8
import Derived.Test.YtlfmobnmohnjmaaRx11
namespace Go.Proofs.Ytlfmobnmohnjmaa.R
open Go.Proofs.Ytlfmobnmohnjmaa.Ho
open Go.RowKit Go.Proofs.YtlfmobnmohnjmaaW.PrintWords Go.Proofs.YtlfmobnmohnjmaaW.PrintLast Go.Proofs.YtlfmobnmohnjmaaW.PrintMore
attribute [local go_sem] max2_int min2_int max_two min_two max_three min_three max_four min_four   -- for this text's walks alone
set_option linter.unusedVariables false
set_option linter.unusedSimpArgs false

/-! ### handshakerlaw05_ReadsParts: function 6 -/
mutual
def handshakerlaw05_ReadsParts.j0 : Nat → List (S24) → List (S67) → Int → List (S73) → Int → Int → Bool → Option (Bool)
 | 0, _, _, _, _, _, _, _ => none
 | k + 1, x0, x1, x2, x3, x4, x5, x40 => if x40 = true then ((handshakerlaw05_awake.f k).bind fun t324 => (some t324)) else (handshakerlaw05_ReadsParts.l0 k x0 x1 x2 x3 x4 x5 ([] : List (S24)) (x0.length : Int) 0)
def handshakerlaw05_ReadsParts.l0 : Nat → List (S24) → List (S67) → Int → List (S73) → Int → Int → List (S24) → Int → Int → Option (Bool)
 | 0, _, _, _, _, _, _, _, _, _ => none
 | k + 1, x0, x1, x2, x3, x4, x5, x13, x43, x44 => if x44 < x43 then (if (x0.length : Int) = 0 then (none) else (if 0 ≤ (Int.tmod (wrap64 ((wrap64 ((x0.length : Int) - x44)) + (wrap64 (x5)))) (x0.length : Int)) then (if (Int.tmod (wrap64 ((wrap64 ((x0.length : Int) - x44)) + (wrap64 (x5)))) (x0.length : Int)) < (x0.length : Int) then ((reads_Add.f k x13 ((rd_T24 x0 (Int.tmod (wrap64 ((wrap64 ((x0.length : Int) - x44)) + (wrap64 (x5)))) (x0.length : Int))).f0) ((rd_T24 x0 (Int.tmod (wrap64 ((wrap64 ((x0.length : Int) - x44)) + (wrap64 (x5)))) (x0.length : Int))).f1) ((rd_T24 x0 (Int.tmod (wrap64 ((wrap64 ((x0.length : Int) - x44)) + (wrap64 (x5)))) (x0.length : Int))).f2)).bind fun bt326 => (if bt326.2 = 0 then (handshakerlaw05_ReadsParts.l0 k x0 x1 x2 x3 x4 x5 bt326.1 x43 (wrap64 (x44 + 1))) else (some false))) else (none)) else (none))) else (if (wrap64 ((x0.length : Int) + 1)) = 0 then (none) else (if 0 ≤ (Int.tmod (wrap64 (x4)) (wrap64 ((x0.length : Int) + 1))) then (if (Int.tmod (wrap64 (x4)) (wrap64 ((x0.length : Int) + 1))) ≤ (x0.length : Int) then ((some (x0.take ((Int.tmod (wrap64 (x4)) (wrap64 ((x0.length : Int) + 1))) : Int).toNat : List (S24))).bind fun y330 => ((reads_Cells.f k x13).bind fun t334 => ((reads_Cells.f k x0).bind fun t337 => ((handshakerref03_Numbers.f k t334 t337).bind fun t340 => (if t340 = true then ((reads_Valid.f k x13 x1 x2).bind fun t341 => ((reads_Valid.f k x0 x1 x2).bind fun t342 => (if t341 = t342 then ((reads_Same.f k x13 x3).bind fun t343 => ((reads_Same.f k x0 x3).bind fun t344 => (if t343 = true then (if t344 = true then (handshakerlaw05_ReadsParts.j2 k x0 x1 x2 x3 y330 false) else (handshakerlaw05_ReadsParts.j2 k x0 x1 x2 x3 y330 true)) else (if t344 = true then (handshakerlaw05_ReadsParts.j2 k x0 x1 x2 x3 y330 true) else (handshakerlaw05_ReadsParts.j2 k x0 x1 x2 x3 y330 false))))) else (handshakerlaw05_ReadsParts.j2 k x0 x1 x2 x3 y330 true)))) else (handshakerlaw05_ReadsParts.j2 k x0 x1 x2 x3 y330 true)))))) else (none)) else (none)))
def handshakerlaw05_ReadsParts.j2 : Nat → List (S24) → List (S67) → Int → List (S73) → List (S24) → Bool → Option (Bool)
 | 0, _, _, _, _, _, _ => none
 | k + 1, x0, x1, x2, x3, x17, x102 => if x102 = true then (some false) else ((reads_Valid.f k x0 x1 x2).bind fun t345 => (if t345 = 0 then ((reads_Valid.f k x17 x1 x2).bind fun t346 => (if t346 = 0 then ((reads_Same.f k x0 x3).bind fun t347 => (if t347 = true then ((reads_Same.f k x17 x3).bind fun t348 => (if t348 = true then ((handshakerlaw05_awake.f k).bind fun t349 => (some t349)) else (some false))) else ((handshakerlaw05_awake.f k).bind fun t350 => (some t350)))) else (some false))) else ((reads_Same.f k x0 x3).bind fun t351 => (if t351 = true then ((reads_Same.f k x17 x3).bind fun t352 => (if t352 = true then ((handshakerlaw05_awake.f k).bind fun t353 => (some t353)) else (some false))) else ((handshakerlaw05_awake.f k).bind fun t354 => (some t354))))))
end
def handshakerlaw05_ReadsParts.f (k : Nat) (l0 : List (S24)) (l1 : List (S67)) (a2 : Int) (l3 : List (S73)) (a4 : Int) (a5 : Int) : Option (Bool) := if (l0.length : Int) > 24 then (handshakerlaw05_ReadsParts.j0 k l0 l1 a2 l3 a4 a5 true) else (if (l1.length : Int) > 16 then (handshakerlaw05_ReadsParts.j0 k l0 l1 a2 l3 a4 a5 true) else (if (l3.length : Int) > 64 then (handshakerlaw05_ReadsParts.j0 k l0 l1 a2 l3 a4 a5 true) else ((reads_Right.f k l0).bind fun t323 => (if t323 = true then (handshakerlaw05_ReadsParts.j0 k l0 l1 a2 l3 a4 a5 ((l0.length : Int) == 0)) else (handshakerlaw05_ReadsParts.j0 k l0 l1 a2 l3 a4 a5 true)))))
theorem handshakerlaw05_ReadsParts.mono_l : ∀ k, (∀ y0 y1 y2 y3 y4 y5 y6, LeO (handshakerlaw05_ReadsParts.j0 k y0 y1 y2 y3 y4 y5 y6) (handshakerlaw05_ReadsParts.j0 (k + 1) y0 y1 y2 y3 y4 y5 y6)) ∧ (∀ y0 y1 y2 y3 y4 y5 y6 y7 y8, LeO (handshakerlaw05_ReadsParts.l0 k y0 y1 y2 y3 y4 y5 y6 y7 y8) (handshakerlaw05_ReadsParts.l0 (k + 1) y0 y1 y2 y3 y4 y5 y6 y7 y8)) ∧ (∀ y0 y1 y2 y3 y4 y5, LeO (handshakerlaw05_ReadsParts.j2 k y0 y1 y2 y3 y4 y5) (handshakerlaw05_ReadsParts.j2 (k + 1) y0 y1 y2 y3 y4 y5))
 | 0 => ⟨fun _ _ _ _ _ _ _ r h => by simp [handshakerlaw05_ReadsParts.j0] at h, fun _ _ _ _ _ _ _ _ _ r h => by simp [handshakerlaw05_ReadsParts.l0] at h, fun _ _ _ _ _ _ r h => by simp [handshakerlaw05_ReadsParts.j2] at h⟩
 | k + 1 => by
  obtain ⟨ih0, ih1, ih2⟩ := handshakerlaw05_ReadsParts.mono_l k
  refine ⟨?_, ?_, ?_⟩
  · intro y0 y1 y2 y3 y4 y5 y6
    unfold handshakerlaw05_ReadsParts.j0
    repeat' first
    | (with_reducible exact ih0 _ _ _ _ _ _ _)
    | (with_reducible exact ih1 _ _ _ _ _ _ _ _ _)
    | (with_reducible exact ih2 _ _ _ _ _ _)
    | (with_reducible exact handshakerlaw05_awake.mono _)
    | (with_reducible exact handshakerref03_Numbers.mono _ _ _)
    | (with_reducible exact reads_Add.mono _ _ _ _ _)
    | (with_reducible exact reads_Cells.mono _ _)
    | (with_reducible exact reads_Right.mono _ _)
    | (with_reducible exact reads_Same.mono _ _ _)
    | (with_reducible exact reads_Valid.mono _ _ _ _)
    | (with_reducible exact LeO.refl _)
    | (with_reducible exact LeO.none _)
    | (with_reducible refine LeO.ite ?_ ?_)
    | (with_reducible refine LeO.bind ?_ (fun _ => ?_))
    | exact ih0 _ _ _ _ _ _ _
    | exact ih1 _ _ _ _ _ _ _ _ _
    | exact ih2 _ _ _ _ _ _
    | exact handshakerlaw05_awake.mono _
    | exact handshakerref03_Numbers.mono _ _ _
    | exact reads_Add.mono _ _ _ _ _
    | exact reads_Cells.mono _ _
    | exact reads_Right.mono _ _
    | exact reads_Same.mono _ _ _
    | exact reads_Valid.mono _ _ _ _
    | exact LeO.none _
    | refine LeO.ite ?_ ?_
    | refine LeO.bind ?_ (fun _ => ?_)
  · intro y0 y1 y2 y3 y4 y5 y6 y7 y8
    unfold handshakerlaw05_ReadsParts.l0
    repeat' first
    | (with_reducible exact ih0 _ _ _ _ _ _ _)
    | (with_reducible exact ih1 _ _ _ _ _ _ _ _ _)
    | (with_reducible exact ih2 _ _ _ _ _ _)
    | (with_reducible exact handshakerlaw05_awake.mono _)
    | (with_reducible exact handshakerref03_Numbers.mono _ _ _)
    | (with_reducible exact reads_Add.mono _ _ _ _ _)
    | (with_reducible exact reads_Cells.mono _ _)
    | (with_reducible exact reads_Right.mono _ _)
    | (with_reducible exact reads_Same.mono _ _ _)
    | (with_reducible exact reads_Valid.mono _ _ _ _)
    | (with_reducible exact LeO.refl _)
    | (with_reducible exact LeO.none _)
    | (with_reducible refine LeO.ite ?_ ?_)
    | (with_reducible refine LeO.bind ?_ (fun _ => ?_))
    | exact ih0 _ _ _ _ _ _ _
    | exact ih1 _ _ _ _ _ _ _ _ _
    | exact ih2 _ _ _ _ _ _
    | exact handshakerlaw05_awake.mono _
    | exact handshakerref03_Numbers.mono _ _ _
    | exact reads_Add.mono _ _ _ _ _
    | exact reads_Cells.mono _ _
    | exact reads_Right.mono _ _
    | exact reads_Same.mono _ _ _
    | exact reads_Valid.mono _ _ _ _
    | exact LeO.none _
    | refine LeO.ite ?_ ?_
    | refine LeO.bind ?_ (fun _ => ?_)
  · intro y0 y1 y2 y3 y4 y5
    unfold handshakerlaw05_ReadsParts.j2
    repeat' first
    | (with_reducible exact ih0 _ _ _ _ _ _ _)
    | (with_reducible exact ih1 _ _ _ _ _ _ _ _ _)
    | (with_reducible exact ih2 _ _ _ _ _ _)
    | (with_reducible exact handshakerlaw05_awake.mono _)
    | (with_reducible exact handshakerref03_Numbers.mono _ _ _)
    | (with_reducible exact reads_Add.mono _ _ _ _ _)
    | (with_reducible exact reads_Cells.mono _ _)
    | (with_reducible exact reads_Right.mono _ _)
    | (with_reducible exact reads_Same.mono _ _ _)
    | (with_reducible exact reads_Valid.mono _ _ _ _)
    | (with_reducible exact LeO.refl _)
    | (with_reducible exact LeO.none _)
    | (with_reducible refine LeO.ite ?_ ?_)
    | (with_reducible refine LeO.bind ?_ (fun _ => ?_))
    | exact ih0 _ _ _ _ _ _ _
    | exact ih1 _ _ _ _ _ _ _ _ _
    | exact ih2 _ _ _ _ _ _
    | exact handshakerlaw05_awake.mono _
    | exact handshakerref03_Numbers.mono _ _ _
    | exact reads_Add.mono _ _ _ _ _
    | exact reads_Cells.mono _ _
    | exact reads_Right.mono _ _
    | exact reads_Same.mono _ _ _
    | exact reads_Valid.mono _ _ _ _
    | exact LeO.none _
    | refine LeO.ite ?_ ?_
    | refine LeO.bind ?_ (fun _ => ?_)
theorem handshakerlaw05_ReadsParts.mono : ∀ a0 a1 a2 a3 a4 a5 k, LeO (handshakerlaw05_ReadsParts.f k a0 a1 a2 a3 a4 a5) (handshakerlaw05_ReadsParts.f (k + 1) a0 a1 a2 a3 a4 a5) := by
 intro a0 a1 a2 a3 a4 a5 k
 obtain ⟨ih0, ih1, ih2⟩ := handshakerlaw05_ReadsParts.mono_l k
 unfold handshakerlaw05_ReadsParts.f
 repeat' first
  | (with_reducible exact ih0 _ _ _ _ _ _ _)
  | (with_reducible exact ih1 _ _ _ _ _ _ _ _ _)
  | (with_reducible exact ih2 _ _ _ _ _ _)
  | (with_reducible exact handshakerlaw05_awake.mono _)
  | (with_reducible exact handshakerref03_Numbers.mono _ _ _)
  | (with_reducible exact reads_Add.mono _ _ _ _ _)
  | (with_reducible exact reads_Cells.mono _ _)
  | (with_reducible exact reads_Right.mono _ _)
  | (with_reducible exact reads_Same.mono _ _ _)
  | (with_reducible exact reads_Valid.mono _ _ _ _)
  | (with_reducible exact LeO.refl _)
  | (with_reducible exact LeO.none _)
  | (with_reducible refine LeO.ite ?_ ?_)
  | (with_reducible refine LeO.bind ?_ (fun _ => ?_))
  | exact ih0 _ _ _ _ _ _ _
  | exact ih1 _ _ _ _ _ _ _ _ _
  | exact ih2 _ _ _ _ _ _
  | exact handshakerlaw05_awake.mono _
  | exact handshakerref03_Numbers.mono _ _ _
  | exact reads_Add.mono _ _ _ _ _
  | exact reads_Cells.mono _ _
  | exact reads_Right.mono _ _
  | exact reads_Same.mono _ _ _
  | exact reads_Valid.mono _ _ _ _
  | exact LeO.none _
  | refine LeO.ite ?_ ?_
  | refine LeO.bind ?_ (fun _ => ?_)
set_option maxHeartbeats 8000000 in
set_option maxRecDepth 100000 in
theorem handshakerlaw05_ReadsParts.calls (k : Nat) (A0 : Option Addr) (c0 : Nat) (l0 : List (S24)) (A1 : Option Addr) (c1 : Nat) (l1 : List (S67)) (a2 : Int) (A3 : Option Addr) (c3 : Nat) (l3 : List (S73)) (a4 : Int) (a5 : Int) (r : Bool) (w : World) (HT : Aside0 (r = true)) (hr0 : Kd.C k24 w A0 l0.length l0) (hc0 : l0.length ≤ c0) (hr1 : Kd.C k67 w A1 l1.length l1) (hc1 : l1.length ≤ c1) (hr3 : Kd.C k73 w A3 l3.length l3) (hc3 : l3.length ≤ c3) (h : handshakerlaw05_ReadsParts.f k l0 l1 a2 l3 a4 a5 = some r) :
 Calls Try.prog 6 #[.slice A0 l0.length c0, .slice A1 l1.length c1, .int .i64 a2, .slice A3 l3.length c3, .int .u8 a4, .int .u8 a5] w fun e w' => e = .returned (.bool r) ∧ Below w.heap.size w w' := by
 have hu24 := Try.underlying24
 have HR0 := Aside0.mk hr0
 have HC0 := Aside0.mk hc0
 clear hr0 hc0
 have HR1 := Aside0.mk hr1
 have HC1 := Aside0.mk hc1
 clear hr1 hc1
 have HR3 := Aside0.mk hr3
 have HC3 := Aside0.mk hc3
 clear hr3 hc3
 have HB := Aside0.mk (Below.refl w.heap.size w)
 have H : (if (l0.length : Int) > 24 then (handshakerlaw05_ReadsParts.j0 k l0 l1 a2 l3 a4 a5 true) else (if (l1.length : Int) > 16 then (handshakerlaw05_ReadsParts.j0 k l0 l1 a2 l3 a4 a5 true) else (if (l3.length : Int) > 64 then (handshakerlaw05_ReadsParts.j0 k l0 l1 a2 l3 a4 a5 true) else ((reads_Right.f k l0).bind fun t323 => (if t323 = true then (handshakerlaw05_ReadsParts.j0 k l0 l1 a2 l3 a4 a5 ((l0.length : Int) == 0)) else (handshakerlaw05_ReadsParts.j0 k l0 l1 a2 l3 a4 a5 true)))))) = some r := h
 clear h
 have HC7 := Aside0.mk H
 clear H
 go_enter Try.func6, Try.ntmps6
 go_upto_region 1 with (fail)
 go_cut [40] (fun v40 wc => ∃ (kq : Nat) (x40_6 : Bool), v40 = .bool x40_6 ∧ Aside0 (handshakerlaw05_ReadsParts.j0 kq l0 l1 a2 l3 a4 a5 x40_6 = some r) ∧ Aside0 (kq ≤ k) ∧ Aside0 (Below w.heap.size w wc))
 case first =>
  have H := HC7.out
  clear HC7
  by_cases c8 : (l0.length : Int) > 24
  · rw [if_pos c8] at H
    have c8b0 : decide (24 < (l0.length : Int)) = true := decide_eq_true c8
    have c8b1 : decide (24 < l0.length) = true := decide_eq_true (by omega)
    clear c8
    (first | rw [c8b0] | (simp only [i64_w, i32_w]; rw [c8b0]) | skip)
    have H' := Aside0.mk H
    clear H
    go_wp2
    go_meet
    case rel => exact ⟨_, (true), (by first | rfl | (simp; done) | (simp [*]; done)), H', ⟨by first | omega | exact Nat.le_refl _⟩, ⟨by repeat (with_reducible first | exact HB.out | apply below_alloc | apply pw_below_drewN | apply below_drew1)⟩⟩
  · rw [if_neg c8] at H
    have c8b0 : decide (24 < (l0.length : Int)) = false := decide_eq_false c8
    have c8b1 : decide (24 < l0.length) = false := decide_eq_false (by omega)
    clear c8
    (first | rw [c8b0] | (simp only [i64_w, i32_w]; rw [c8b0]) | skip)
    by_cases c9 : (l1.length : Int) > 16
    · rw [if_pos c9] at H
      have c9b0 : decide (16 < (l1.length : Int)) = true := decide_eq_true c9
      have c9b1 : decide (16 < l1.length) = true := decide_eq_true (by omega)
      clear c9
      have H' := Aside0.mk H
      clear H
      go_wp2
      go_meet
      case rel => exact ⟨_, (true), (by first | rfl | (simp; done) | (simp [*]; done)), H', ⟨by first | omega | exact Nat.le_refl _⟩, ⟨by repeat (with_reducible first | exact HB.out | apply below_alloc | apply pw_below_drewN | apply below_drew1)⟩⟩
    · rw [if_neg c9] at H
      have c9b0 : decide (16 < (l1.length : Int)) = false := decide_eq_false c9
      have c9b1 : decide (16 < l1.length) = false := decide_eq_false (by omega)
      clear c9
      by_cases c10 : (l3.length : Int) > 64
      · rw [if_pos c10] at H
        have c10b0 : decide (64 < (l3.length : Int)) = true := decide_eq_true c10
        have c10b1 : decide (64 < l3.length) = true := decide_eq_true (by omega)
        clear c10
        have H' := Aside0.mk H
        clear H
        go_wp2
        go_meet
        case rel => exact ⟨_, (true), (by first | rfl | (simp; done) | (simp [*]; done)), H', ⟨by first | omega | exact Nat.le_refl _⟩, ⟨by repeat (with_reducible first | exact HB.out | apply below_alloc | apply pw_below_drewN | apply below_drew1)⟩⟩
      · rw [if_neg c10] at H
        have c10b0 : decide (64 < (l3.length : Int)) = false := decide_eq_false c10
        have c10b1 : decide (64 < l3.length) = false := decide_eq_false (by omega)
        clear c10
        replace H := Option.bind_eq_some_iff.mp H
        obtain ⟨t323, A110, H⟩ := H
        replace H : (if t323 = true then (handshakerlaw05_ReadsParts.j0 k l0 l1 a2 l3 a4 a5 ((l0.length : Int) == 0)) else (handshakerlaw05_ReadsParts.j0 k l0 l1 a2 l3 a4 a5 true)) = some r := H
        have A11 := Aside0.mk A110
        clear A110
        by_cases c12 : t323 = true
        · subst c12
          have H1 : (handshakerlaw05_ReadsParts.j0 k l0 l1 a2 l3 a4 a5 ((l0.length : Int) == 0)) = some r := by rw [if_pos rfl] at H; exact H
          clear H
          have H := H1
          clear H1
          have H' := Aside0.mk H
          clear H
          go_wp2_with (first | (go_at_call 22; (with_reducible refine (reads_Right.calls k _ _ l0 true _ ?side1 ?side2 A11.out).mono ?_); (case side1 => repeat (first | exact (Kd.C_below HR0.out HB.out) | with_reducible first | refine Kd.C_alloc ?_ _ | refine Kd.C_drewN ?_ _ | refine Kd.C_drew ?_)); (case side2 => exact HC0.out); rintro e w13 ⟨rfl, hb⟩; have n0_ := Aside0.mk (bst_ hb); clear HB; have HB := n0_; clear n0_; (try clear hb); (try clear hb2); (try clear hk); (try clear hi)))
          go_meet
          case rel => exact ⟨_, (((l0.length : Int) == 0)), (by first | rfl | (simp; done) | (simp [*]; done)), H', ⟨by first | omega | exact Nat.le_refl _⟩, ⟨by repeat (with_reducible first | exact HB.out | apply below_alloc | apply pw_below_drewN | apply below_drew1)⟩⟩
        · replace c12 := Bool.eq_false_iff.mpr c12
          subst c12
          have H1 : (handshakerlaw05_ReadsParts.j0 k l0 l1 a2 l3 a4 a5 true) = some r := by rw [if_neg (show ¬ (false = true) by decide)] at H; exact H
          clear H
          have H := H1
          clear H1
          have H' := Aside0.mk H
          clear H
          go_wp2_with (first | (go_at_call 22; (with_reducible refine (reads_Right.calls k _ _ l0 false _ ?side1 ?side2 A11.out).mono ?_); (case side1 => repeat (first | exact (Kd.C_below HR0.out HB.out) | with_reducible first | refine Kd.C_alloc ?_ _ | refine Kd.C_drewN ?_ _ | refine Kd.C_drew ?_)); (case side2 => exact HC0.out); rintro e w14 ⟨rfl, hb⟩; have n0_ := Aside0.mk (bst_ hb); clear HB; have HB := n0_; clear n0_; (try clear hb); (try clear hb2); (try clear hk); (try clear hi)))
          go_meet
          case rel => exact ⟨_, (true), (by first | rfl | (simp; done) | (simp [*]; done)), H', ⟨by first | omega | exact Nat.le_refl _⟩, ⟨by repeat (with_reducible first | exact HB.out | apply below_alloc | apply pw_below_drewN | apply below_drew1)⟩⟩
 case rest =>
  clear HC7
  try clear c1
  try clear p2
  try clear c3
  try clear c6
  try clear c8
  try clear c8b0
  try clear c8b1
  try clear c9
  try clear c9b0
  try clear c9b1
  try clear c10
  try clear c10b0
  try clear c10b1
  try clear c12
  obtain ⟨kq, x40_6, rfl, HA, HJ6, HB⟩ := hcut
  cases kq with
  | zero => exact absurd HA.out (by simp [handshakerlaw05_ReadsParts.j0])
  | succ kj6 =>
   have H := HA.out
   clear HA
   simp only [handshakerlaw05_ReadsParts.j0] at H
   by_cases c15 : x40_6 = true
   · subst c15
     have H1 : ((handshakerlaw05_awake.f kj6).bind fun t324 => (some t324)) = some r := by rw [if_pos rfl] at H; exact H
     clear H
     have H := H1
     clear H1
     replace H := Option.bind_eq_some_iff.mp H
     obtain ⟨t324, A160, H⟩ := H
     replace H : (some t324) = some r := H
     have A16 := Aside0.mk A160
     clear A160
     obtain rfl := Option.some.inj H
     go_wp2_with (first | ((with_reducible refine gate_callee (f := 15) rfl ?_); refine goesL_ (some 41) rfl rfl Try.func15 (by kernel_rfl) rfl #[] rfl (by (try simp only [List.map_toArray, List.map_cons, List.map_nil]); first | done | rfl) ?_; (with_reducible refine (handshakerlaw05_awake.calls kj6  t324 _ A16.out).mono ?_); rintro e w17 ⟨rfl, hb⟩; refine ⟨_, rfl, ?_⟩; have n0_ := Aside0.mk (bst_ hb); clear HB; have HB := n0_; clear n0_; (try clear hb); (try clear hb2); (try clear hk); (try clear hi)))
     go_ret
     exact ⟨by first | rfl | (simp [errW_none, errW_some] <;> rfl) | (simp [*, errW_none, errW_some] <;> rfl), by repeat (with_reducible first | exact HB.out | apply below_alloc | apply pw_below_drewN | apply below_drew1)⟩
   · replace c15 := Bool.eq_false_iff.mpr c15
     subst c15
     have H1 : (handshakerlaw05_ReadsParts.l0 kj6 l0 l1 a2 l3 a4 a5 ([] : List (S24)) (l0.length : Int) 0) = some r := by rw [if_neg (show ¬ (false = true) by decide)] at H; exact H
     clear H
     have H := H1
     clear H1
     have H' := Aside0.mk H
     clear H
     go_wp2
     go_loopg [13, 44] kj6 (fun kq v13 v44 w' => ∃ (x13_2 : List (S24)) (x44_2 : Int), v44 = .int .i64 x44_2 ∧ Aside0 (handshakerlaw05_ReadsParts.l0 kq l0 l1 a2 l3 a4 a5 x13_2 (l0.length : Int) x44_2 = some r) ∧ Aside0 (kq ≤ kj6) ∧ Aside0 (Kd.V k24 24 w' w.heap.size (fun _ => True) v13 x13_2) ∧ Aside0 (Below w.heap.size w w'))
     case atStart => exact ⟨(([] : List (S24))), (0), (by first | rfl | (simp; done) | (simp [*]; done)), H', ⟨Nat.le_refl _⟩, ⟨Kd.V_nil _ _ _ _ _⟩, ⟨by repeat (with_reducible first | exact HB.out | apply below_alloc | apply pw_below_drewN | apply below_drew1)⟩⟩
     case round =>
      clear H'
      try clear c1
      try clear p2
      try clear c3
      try clear c6
      try clear c8
      try clear c8b0
      try clear c8b1
      try clear c9
      try clear c9b0
      try clear c9b1
      try clear c10
      try clear c10b0
      try clear c10b1
      try clear c12
      try clear c15
      try clear p2
      obtain ⟨x13_2, x44_2, rfl, HA, HK2, HO_13, HB⟩ := hrel
      cases gk with
      | zero => exact absurd HA.out (by simp [handshakerlaw05_ReadsParts.l0])
      | succ k2 =>
       have H := HA.out
       clear HA
       simp only [handshakerlaw05_ReadsParts.l0] at H
       by_cases c18 : x44_2 < (l0.length : Int)
       · rw [if_pos c18] at H
         have c18b0 : decide (x44_2 < (l0.length : Int)) = true := decide_eq_true c18
         clear c18
         by_cases c19 : (l0.length : Int) = 0
         · rw [if_pos c19] at H
           exact absurd H (by simp)
         · rw [if_neg c19] at H
           have c19b0 : ((l0.length : Int) == 0) = false := beq_eq_false_iff_ne.mpr c19
           have c19b1 : ((l0.length : Int) != 0) = true := bne_iff_ne.mpr c19
           have c19b2 : ¬ (l0 = []) := fun h_ => c19 (by rw [h_]; rfl)
           obtain ⟨ji20, hji20⟩ : ∃ j_ : Int, (Int.tmod (wrap64 ((wrap64 ((l0.length : Int) - x44_2)) + (wrap64 (a5)))) (l0.length : Int)) = j_ := ⟨_, rfl⟩
           replace H : (if 0 ≤ (ji20) then (if (ji20) < (l0.length : Int) then ((reads_Add.f k2 x13_2 ((rd_T24 l0 (ji20)).f0) ((rd_T24 l0 (ji20)).f1) ((rd_T24 l0 (ji20)).f2)).bind fun bt326 => (if bt326.2 = 0 then (handshakerlaw05_ReadsParts.l0 k2 l0 l1 a2 l3 a4 a5 bt326.1 (l0.length : Int) (wrap64 (x44_2 + 1))) else (some false))) else (none)) else (none)) = some r := by first | (rw [hji20] at H; exact H) | (simp only [hji20] at H ⊢; exact H)
           by_cases c21 : 0 ≤ (ji20)
           · rw [if_pos c21] at H
             have c21b0 : decide (0 ≤ (ji20)) = true := decide_eq_true c21
             clear c21
             by_cases c22 : (ji20) < (l0.length : Int)
             · rw [if_pos c22] at H
               have c22b0 : decide ((ji20) < (l0.length : Int)) = true := decide_eq_true c22
               clear c22
               replace H := Option.bind_eq_some_iff.mp H
               obtain ⟨⟨t326, t329⟩, A230, H⟩ := H
               replace H : (if t329 = 0 then (handshakerlaw05_ReadsParts.l0 k2 l0 l1 a2 l3 a4 a5 t326 (l0.length : Int) (wrap64 (x44_2 + 1))) else (some false)) = some r := H
               have A23 := Aside0.mk A230
               clear A230
               by_cases c24 : t329 = 0
               · rw [if_pos c24] at H
                 have c24b0 : (t329 == 0) = true := beq_iff_eq.mpr c24
                 have c24b1 : (t329 != 0) = false := bne_eq_false_iff_eq.mpr c24
                 clear c24
                 have H' := Aside0.mk H
                 clear H
                 have p325 : 0 ≤ ((ji20) : Int) := of_decide_eq_true (by first | (with_reducible assumption) | assumption)
                 have q325 : (ji20) < (l0.length : Int) := of_decide_eq_true (by first | (with_reducible assumption) | assumption)
                 obtain ⟨ad325, e325, hx325_0, hx325_1, hx325_2⟩ := at_T24 HR0.out (ji20) p325 q325
                 cases e325
                 replace hx325_0 := (HB.out.cell (World.block_lt_of_cell? w _ hx325_0)).trans hx325_0
                 replace hx325_1 := (HB.out.cell (World.block_lt_of_cell? w _ hx325_1)).trans hx325_1
                 replace hx325_2 := (HB.out.cell (World.block_lt_of_cell? w _ hx325_2)).trans hx325_2
                 replace p325 := eq_true p325
                 replace q325 := eq_true q325
                 obtain ⟨Ao25, co25, eo25⟩ := Kd.V_slice HO_13.out
                 subst eo25
                 go_wp2_with (first | ((with_reducible refine gate_callee (f := 16) rfl ?_); refine goesL_ (some 62) rfl rfl Try.func16 (by kernel_rfl) rfl #[.slice Ao25 x13_2.length co25, .agg #[.int .i64 ((rd_T24 l0 (ji20)).f0), .int .i64 ((rd_T24 l0 (ji20)).f1), .int .i64 ((rd_T24 l0 (ji20)).f2)]] rfl (by (try simp only [List.map_toArray, List.map_cons, List.map_nil]); first | done | (simp only [hji20]; rfl) | rfl | (simp only [List.length_drop, List.length_take]; rfl)) ?_; (with_reducible refine (reads_Add.calls k2 (fun k_ => True) _ _ x13_2 ((rd_T24 l0 (ji20)).f0) ((rd_T24 l0 (ji20)).f1) ((rd_T24 l0 (ji20)).f2) t326 t329 _ ?side1 A23.out).mono ?_); (case side1 => exact HO_13.out); rintro e w26 ⟨v327, rfl, ho0, hb⟩; refine ⟨_, rfl, ?_⟩; have n0_ := Aside0.mk (Kd.V_below (by (with_reducible repeat (first | apply Kd.V_alloc | apply Kd.V_drewN | apply Kd.V_drew)); exact HO_13.out) hb); have n1_ := Aside0.mk (Kd.V_lower (Kd.V_mono (ok' := fun k_ => True) ho0 (fun k_ hk_ => trivial)) bsz_); have n2_ := Aside0.mk (bst_ hb); clear HO_13; clear HB; have HO_13 := n0_; have HO328 := n1_; have HB := n2_; clear n0_ n1_ n2_; (try clear hb); (try clear hb2); (try clear hk); (try clear hi); (try clear ho0)))
                 go_roundg k2
                 case measure => have := HJ6.out; have := HK2.out; omega
                 case rel => exact ⟨(t326), (wrap64 (x44_2 + 1)), (by first | rfl | (simp; done) | (simp [*]; done)), H', ⟨by have := HJ6.out; have := HK2.out; omega⟩, ⟨by (with_reducible repeat (first | apply Kd.V_alloc | apply Kd.V_drewN | apply Kd.V_drew)); exact HO328.out⟩, ⟨by repeat (with_reducible first | exact HB.out | apply below_alloc | apply pw_below_drewN | apply below_drew1)⟩⟩
               · rw [if_neg c24] at H
                 have c24b0 : (t329 == 0) = false := beq_eq_false_iff_ne.mpr c24
                 have c24b1 : (t329 != 0) = true := bne_iff_ne.mpr c24
                 exact absurd (Option.some.inj H) (by rw [HT.out]; decide)
             · rw [if_neg c22] at H
               exact absurd H (by simp)
           · rw [if_neg c21] at H
             exact absurd H (by simp)
       · rw [if_neg c18] at H
         have c18b0 : decide (x44_2 < (l0.length : Int)) = false := decide_eq_false c18
         clear c18
         by_cases c27 : (wrap64 ((l0.length : Int) + 1)) = 0
         · rw [if_pos c27] at H
           exact absurd H (by simp)
         · rw [if_neg c27] at H
           have c27b0 : ((wrap64 ((l0.length : Int) + 1)) == 0) = false := beq_eq_false_iff_ne.mpr c27
           have c27b1 : ((wrap64 ((l0.length : Int) + 1)) != 0) = true := bne_iff_ne.mpr c27
           obtain ⟨ji28, hji28⟩ : ∃ j_ : Int, (Int.tmod (wrap64 (a4)) (wrap64 ((l0.length : Int) + 1))) = j_ := ⟨_, rfl⟩
           replace H : (if 0 ≤ (ji28) then (if (ji28) ≤ (l0.length : Int) then ((some (l0.take ((ji28) : Int).toNat : List (S24))).bind fun y330 => ((reads_Cells.f k2 x13_2).bind fun t334 => ((reads_Cells.f k2 l0).bind fun t337 => ((handshakerref03_Numbers.f k2 t334 t337).bind fun t340 => (if t340 = true then ((reads_Valid.f k2 x13_2 l1 a2).bind fun t341 => ((reads_Valid.f k2 l0 l1 a2).bind fun t342 => (if t341 = t342 then ((reads_Same.f k2 x13_2 l3).bind fun t343 => ((reads_Same.f k2 l0 l3).bind fun t344 => (if t343 = true then (if t344 = true then (handshakerlaw05_ReadsParts.j2 k2 l0 l1 a2 l3 y330 false) else (handshakerlaw05_ReadsParts.j2 k2 l0 l1 a2 l3 y330 true)) else (if t344 = true then (handshakerlaw05_ReadsParts.j2 k2 l0 l1 a2 l3 y330 true) else (handshakerlaw05_ReadsParts.j2 k2 l0 l1 a2 l3 y330 false))))) else (handshakerlaw05_ReadsParts.j2 k2 l0 l1 a2 l3 y330 true)))) else (handshakerlaw05_ReadsParts.j2 k2 l0 l1 a2 l3 y330 true)))))) else (none)) else (none)) = some r := by first | (rw [hji28] at H; exact H) | (simp only [hji28] at H ⊢; exact H)
           by_cases c29 : 0 ≤ (ji28)
           · rw [if_pos c29] at H
             have c29b0 := eq_true c29
             have c29b1 : decide (0 ≤ (ji28)) = true := decide_eq_true c29
             clear c29
             by_cases c30 : (ji28) ≤ (l0.length : Int)
             · rw [if_pos c30] at H
               have c30b0 := eq_true c30
               have c30b1 : decide ((ji28) ≤ (l0.length : Int)) = true := decide_eq_true c30
               clear c30
               obtain ⟨y330, hy330⟩ : ∃ y_ : List (S24), y_ = (l0.take ((ji28) : Int).toNat) := ⟨_, rfl⟩
               replace H : ((reads_Cells.f k2 x13_2).bind fun t334 => ((reads_Cells.f k2 l0).bind fun t337 => ((handshakerref03_Numbers.f k2 t334 t337).bind fun t340 => (if t340 = true then ((reads_Valid.f k2 x13_2 l1 a2).bind fun t341 => ((reads_Valid.f k2 l0 l1 a2).bind fun t342 => (if t341 = t342 then ((reads_Same.f k2 x13_2 l3).bind fun t343 => ((reads_Same.f k2 l0 l3).bind fun t344 => (if t343 = true then (if t344 = true then (handshakerlaw05_ReadsParts.j2 k2 l0 l1 a2 l3 y330 false) else (handshakerlaw05_ReadsParts.j2 k2 l0 l1 a2 l3 y330 true)) else (if t344 = true then (handshakerlaw05_ReadsParts.j2 k2 l0 l1 a2 l3 y330 true) else (handshakerlaw05_ReadsParts.j2 k2 l0 l1 a2 l3 y330 false))))) else (handshakerlaw05_ReadsParts.j2 k2 l0 l1 a2 l3 y330 true)))) else (handshakerlaw05_ReadsParts.j2 k2 l0 l1 a2 l3 y330 true))))) = some r := by first | (rw [hy330]; with_reducible exact H) | (have H2_ := (Option.bind_some _ _).symm.trans H; rw [hy330]; with_reducible exact H2_) | (have H2_ := (Option.bind_some _ _).symm.trans H; with_reducible exact H2_) | with_reducible exact H | (rw [hy330]; exact H) | exact H
               have Ny330 := Aside0.mk hy330
               clear hy330
               have HC31 := Aside0.mk H
               clear H
               have q32 : ((ji28) : Int) ≤ ((l0.length : Int) : Int) := of_decide_eq_true (by first | (with_reducible assumption) | assumption)
               obtain ⟨i032, hi032, _, hsz32, _⟩ := info_parts info24
               have hroom32 : l0.length ≤ c0 := HC0.out
               have hC32 : Kd.C k24 _ A0 l0.length l0 := HR0.out
               have hcut32 := cut_to (P := Try.prog) 22 24 .i64 Try.underlying22 hi032 A0 l0.length c0 (ji28) (of_decide_eq_true (by first | (with_reducible assumption) | assumption)) q32 hroom32
               have hr32 := Kd.C_take (m := ((ji28) : Int).toNat) hC32 (by omega)
               have hy32 : y330.length = ((ji28) : Int).toNat := (by rw [Ny330.out, List.length_take]; omega)
               rw [← Ny330.out] at hr32
               rw [← hy32] at hcut32
               have HR333 := Aside0.mk hr32
               have HC333 := Aside0.mk (show y330.length ≤ c0 from by omega)
               clear hr32 hC32 hroom32 hi032 hsz32
               have KY32 := Aside0.mk hy32
               clear hy32
               replace q32 := eq_true q32
               go_upto_region 13 with (fail)
               go_cut [102] (fun v102 wc => ∃ (kq : Nat) (x102_30 : Bool), v102 = .bool x102_30 ∧ Aside0 (handshakerlaw05_ReadsParts.j2 kq l0 l1 a2 l3 y330 x102_30 = some r) ∧ Aside0 (kq ≤ k2) ∧ Aside0 (Below w.heap.size w wc))
               case first =>
                have H := HC31.out
                clear HC31
                replace H := Option.bind_eq_some_iff.mp H
                obtain ⟨t334, A330, H⟩ := H
                replace H : ((reads_Cells.f k2 l0).bind fun t337 => ((handshakerref03_Numbers.f k2 t334 t337).bind fun t340 => (if t340 = true then ((reads_Valid.f k2 x13_2 l1 a2).bind fun t341 => ((reads_Valid.f k2 l0 l1 a2).bind fun t342 => (if t341 = t342 then ((reads_Same.f k2 x13_2 l3).bind fun t343 => ((reads_Same.f k2 l0 l3).bind fun t344 => (if t343 = true then (if t344 = true then (handshakerlaw05_ReadsParts.j2 k2 l0 l1 a2 l3 y330 false) else (handshakerlaw05_ReadsParts.j2 k2 l0 l1 a2 l3 y330 true)) else (if t344 = true then (handshakerlaw05_ReadsParts.j2 k2 l0 l1 a2 l3 y330 true) else (handshakerlaw05_ReadsParts.j2 k2 l0 l1 a2 l3 y330 false))))) else (handshakerlaw05_ReadsParts.j2 k2 l0 l1 a2 l3 y330 true)))) else (handshakerlaw05_ReadsParts.j2 k2 l0 l1 a2 l3 y330 true)))) = some r := H
                have A33 := Aside0.mk A330
                clear A330
                replace H := Option.bind_eq_some_iff.mp H
                obtain ⟨t337, A340, H⟩ := H
                replace H : ((handshakerref03_Numbers.f k2 t334 t337).bind fun t340 => (if t340 = true then ((reads_Valid.f k2 x13_2 l1 a2).bind fun t341 => ((reads_Valid.f k2 l0 l1 a2).bind fun t342 => (if t341 = t342 then ((reads_Same.f k2 x13_2 l3).bind fun t343 => ((reads_Same.f k2 l0 l3).bind fun t344 => (if t343 = true then (if t344 = true then (handshakerlaw05_ReadsParts.j2 k2 l0 l1 a2 l3 y330 false) else (handshakerlaw05_ReadsParts.j2 k2 l0 l1 a2 l3 y330 true)) else (if t344 = true then (handshakerlaw05_ReadsParts.j2 k2 l0 l1 a2 l3 y330 true) else (handshakerlaw05_ReadsParts.j2 k2 l0 l1 a2 l3 y330 false))))) else (handshakerlaw05_ReadsParts.j2 k2 l0 l1 a2 l3 y330 true)))) else (handshakerlaw05_ReadsParts.j2 k2 l0 l1 a2 l3 y330 true))) = some r := H
                have A34 := Aside0.mk A340
                clear A340
                replace H := Option.bind_eq_some_iff.mp H
                obtain ⟨t340, A350, H⟩ := H
                replace H : (if t340 = true then ((reads_Valid.f k2 x13_2 l1 a2).bind fun t341 => ((reads_Valid.f k2 l0 l1 a2).bind fun t342 => (if t341 = t342 then ((reads_Same.f k2 x13_2 l3).bind fun t343 => ((reads_Same.f k2 l0 l3).bind fun t344 => (if t343 = true then (if t344 = true then (handshakerlaw05_ReadsParts.j2 k2 l0 l1 a2 l3 y330 false) else (handshakerlaw05_ReadsParts.j2 k2 l0 l1 a2 l3 y330 true)) else (if t344 = true then (handshakerlaw05_ReadsParts.j2 k2 l0 l1 a2 l3 y330 true) else (handshakerlaw05_ReadsParts.j2 k2 l0 l1 a2 l3 y330 false))))) else (handshakerlaw05_ReadsParts.j2 k2 l0 l1 a2 l3 y330 true)))) else (handshakerlaw05_ReadsParts.j2 k2 l0 l1 a2 l3 y330 true)) = some r := H
                have A35 := Aside0.mk A350
                clear A350
                by_cases c36 : t340 = true
                · subst c36
                  have H1 : ((reads_Valid.f k2 x13_2 l1 a2).bind fun t341 => ((reads_Valid.f k2 l0 l1 a2).bind fun t342 => (if t341 = t342 then ((reads_Same.f k2 x13_2 l3).bind fun t343 => ((reads_Same.f k2 l0 l3).bind fun t344 => (if t343 = true then (if t344 = true then (handshakerlaw05_ReadsParts.j2 k2 l0 l1 a2 l3 y330 false) else (handshakerlaw05_ReadsParts.j2 k2 l0 l1 a2 l3 y330 true)) else (if t344 = true then (handshakerlaw05_ReadsParts.j2 k2 l0 l1 a2 l3 y330 true) else (handshakerlaw05_ReadsParts.j2 k2 l0 l1 a2 l3 y330 false))))) else (handshakerlaw05_ReadsParts.j2 k2 l0 l1 a2 l3 y330 true)))) = some r := by rw [if_pos rfl] at H; exact H
                  clear H
                  have H := H1
                  clear H1
                  replace H := Option.bind_eq_some_iff.mp H
                  obtain ⟨t341, A370, H⟩ := H
                  replace H : ((reads_Valid.f k2 l0 l1 a2).bind fun t342 => (if t341 = t342 then ((reads_Same.f k2 x13_2 l3).bind fun t343 => ((reads_Same.f k2 l0 l3).bind fun t344 => (if t343 = true then (if t344 = true then (handshakerlaw05_ReadsParts.j2 k2 l0 l1 a2 l3 y330 false) else (handshakerlaw05_ReadsParts.j2 k2 l0 l1 a2 l3 y330 true)) else (if t344 = true then (handshakerlaw05_ReadsParts.j2 k2 l0 l1 a2 l3 y330 true) else (handshakerlaw05_ReadsParts.j2 k2 l0 l1 a2 l3 y330 false))))) else (handshakerlaw05_ReadsParts.j2 k2 l0 l1 a2 l3 y330 true))) = some r := H
                  have A37 := Aside0.mk A370
                  clear A370
                  replace H := Option.bind_eq_some_iff.mp H
                  obtain ⟨t342, A380, H⟩ := H
                  replace H : (if t341 = t342 then ((reads_Same.f k2 x13_2 l3).bind fun t343 => ((reads_Same.f k2 l0 l3).bind fun t344 => (if t343 = true then (if t344 = true then (handshakerlaw05_ReadsParts.j2 k2 l0 l1 a2 l3 y330 false) else (handshakerlaw05_ReadsParts.j2 k2 l0 l1 a2 l3 y330 true)) else (if t344 = true then (handshakerlaw05_ReadsParts.j2 k2 l0 l1 a2 l3 y330 true) else (handshakerlaw05_ReadsParts.j2 k2 l0 l1 a2 l3 y330 false))))) else (handshakerlaw05_ReadsParts.j2 k2 l0 l1 a2 l3 y330 true)) = some r := H
                  have A38 := Aside0.mk A380
                  clear A380
                  by_cases c39 : t341 = t342
                  · rw [if_pos c39] at H
                    have c39b0 : (t341 == t342) = true := beq_iff_eq.mpr c39
                    have c39b1 : (t341 != t342) = false := bne_eq_false_iff_eq.mpr c39
                    clear c39
                    (first | rw [c39b0] | (simp only [i64_w, i32_w]; rw [c39b0]) | skip)
                    replace H := Option.bind_eq_some_iff.mp H
                    obtain ⟨t343, A400, H⟩ := H
                    replace H : ((reads_Same.f k2 l0 l3).bind fun t344 => (if t343 = true then (if t344 = true then (handshakerlaw05_ReadsParts.j2 k2 l0 l1 a2 l3 y330 false) else (handshakerlaw05_ReadsParts.j2 k2 l0 l1 a2 l3 y330 true)) else (if t344 = true then (handshakerlaw05_ReadsParts.j2 k2 l0 l1 a2 l3 y330 true) else (handshakerlaw05_ReadsParts.j2 k2 l0 l1 a2 l3 y330 false)))) = some r := H
                    have A40 := Aside0.mk A400
                    clear A400
                    replace H := Option.bind_eq_some_iff.mp H
                    obtain ⟨t344, A410, H⟩ := H
                    replace H : (if t343 = true then (if t344 = true then (handshakerlaw05_ReadsParts.j2 k2 l0 l1 a2 l3 y330 false) else (handshakerlaw05_ReadsParts.j2 k2 l0 l1 a2 l3 y330 true)) else (if t344 = true then (handshakerlaw05_ReadsParts.j2 k2 l0 l1 a2 l3 y330 true) else (handshakerlaw05_ReadsParts.j2 k2 l0 l1 a2 l3 y330 false))) = some r := H
                    have A41 := Aside0.mk A410
                    clear A410
                    by_cases c42 : t343 = true
                    · subst c42
                      have H1 : (if t344 = true then (handshakerlaw05_ReadsParts.j2 k2 l0 l1 a2 l3 y330 false) else (handshakerlaw05_ReadsParts.j2 k2 l0 l1 a2 l3 y330 true)) = some r := by rw [if_pos rfl] at H; exact H
                      clear H
                      have H := H1
                      clear H1
                      by_cases c43 : t344 = true
                      · subst c43
                        have H1 : (handshakerlaw05_ReadsParts.j2 k2 l0 l1 a2 l3 y330 false) = some r := by rw [if_pos rfl] at H; exact H
                        clear H
                        have H := H1
                        clear H1
                        have H' := Aside0.mk H
                        clear H
                        obtain ⟨Ao44, co44, eo44⟩ := Kd.V_slice HO_13.out
                        subst eo44
                        go_wp2_with (first | ((with_reducible refine gate_callee (f := 25) rfl ?_); refine goesL_ (some 78) rfl rfl Try.func25 (by kernel_rfl) rfl #[.slice Ao44 x13_2.length co44] rfl (by (try simp only [List.map_toArray, List.map_cons, List.map_nil]); first | done | rfl) ?_; (with_reducible refine (reads_Cells.calls k2 _ _ x13_2 t334 _ ?side1 ?side2 A33.out).mono ?_); (case side1 => repeat (first | exact (Kd.V_reads' HO_13.out).2.2 | with_reducible first | refine Kd.C_alloc ?_ _ | refine Kd.C_drewN ?_ _ | refine Kd.C_drew ?_)); (case side2 => exact (Kd.V_reads' HO_13.out).2.1); rintro e w45 ⟨v335, rfl, ho0, hb⟩; refine ⟨_, rfl, ?_⟩; have n0_ := Aside0.mk (Kd.V_elder' (by (with_reducible repeat (first | apply Kd.V_alloc | apply Kd.V_drewN | apply Kd.V_drew)); exact HO_13.out) (Kd.R_base ho0) hb); have n1_ := Aside0.mk (Kd.R_lower ho0 bsz_); have n2_ := Aside0.mk (bst_ hb); clear HO_13; clear HB; have HO_13 := n0_; have HO336 := n1_; have HB := n2_; clear n0_ n1_ n2_; (try clear hb); (try clear hb2); (try clear hk); (try clear hi); (try clear ho0)) | ((with_reducible refine gate_callee (f := 25) rfl ?_); refine goesL_ (some 80) rfl rfl Try.func25 (by kernel_rfl) rfl #[.slice A0 l0.length c0] rfl (by (try simp only [List.map_toArray, List.map_cons, List.map_nil]); first | done | rfl) ?_; (with_reducible refine (reads_Cells.calls k2 _ _ l0 t337 _ ?side1 ?side2 A34.out).mono ?_); (case side1 => repeat (first | exact (Kd.C_below HR0.out HB.out) | with_reducible first | refine Kd.C_alloc ?_ _ | refine Kd.C_drewN ?_ _ | refine Kd.C_drew ?_)); (case side2 => exact HC0.out); rintro e w46 ⟨v338, rfl, ho0, hb⟩; refine ⟨_, rfl, ?_⟩; have n0_ := Aside0.mk (Kd.V_elder' (by (with_reducible repeat (first | apply Kd.V_alloc | apply Kd.V_drewN | apply Kd.V_drew)); exact HO_13.out) (Kd.R_base ho0) hb); have n1_ := Aside0.mk (Kd.R_elder' (by (with_reducible repeat (first | apply Kd.R_alloc | apply Kd.R_drewN | apply Kd.R_drew)); exact HO336.out) (Kd.R_base ho0) hb); have n2_ := Aside0.mk (Kd.R_lower (Kd.R_new' ho0 (Kd.R_lt (by (with_reducible repeat (first | apply Kd.R_alloc | apply Kd.R_drewN | apply Kd.R_drew)); exact HO336.out))) bsz_); have n3_ := Aside0.mk (bst_ hb); clear HO_13; clear HO336; clear HB; have HO_13 := n0_; have HO336 := n1_; have HO339 := n2_; have HB := n3_; clear n0_ n1_ n2_ n3_; (try clear hb); (try clear hb2); (try clear hk); (try clear hi); (try clear ho0); obtain ⟨Ao47, co47, eo47⟩ := Kd.R_slice HO336.out; subst eo47; obtain ⟨Ao48, co48, eo48⟩ := Kd.R_slice HO339.out; subst eo48) | ((with_reducible refine gate_callee (f := 24) rfl ?_); refine goesL_ (some 81) rfl rfl Try.func24 (by kernel_rfl) rfl #[.slice Ao47 t334.length co47, .slice Ao48 t337.length co48] rfl (by (try simp only [List.map_toArray, List.map_cons, List.map_nil]); first | done | rfl) ?_; (with_reducible refine (handshakerref03_Numbers.calls k2 _ _ t334 _ _ t337 true _ ?side1 ?side2 ?side3 ?side4 A35.out).mono ?_); (case side1 => repeat (first | exact (Kd.R_reads' HO336.out).2.2 | with_reducible first | refine Kd.C_alloc ?_ _ | refine Kd.C_drewN ?_ _ | refine Kd.C_drew ?_)); (case side2 => exact (Kd.R_reads' HO336.out).2.1); (case side3 => repeat (first | exact (Kd.R_reads' HO339.out).2.2 | with_reducible first | refine Kd.C_alloc ?_ _ | refine Kd.C_drewN ?_ _ | refine Kd.C_drew ?_)); (case side4 => exact (Kd.R_reads' HO339.out).2.1); rintro e w' ⟨rfl, ⟨nd, rfl⟩⟩; refine ⟨_, rfl, ?_⟩) | (go_at_call 26; (with_reducible refine (reads_Valid.calls k2 _ _ x13_2 _ _ l1 a2 t341 _ ?side1 ?side2 ?side3 ?side4 A37.out).mono ?_); (case side1 => repeat (first | exact (Kd.V_reads' HO_13.out).2.2 | with_reducible first | refine Kd.C_alloc ?_ _ | refine Kd.C_drewN ?_ _ | refine Kd.C_drew ?_)); (case side2 => exact (Kd.V_reads' HO_13.out).2.1); (case side3 => repeat (first | exact (Kd.C_below HR1.out (by repeat (with_reducible first | exact HB.out | apply below_alloc | apply pw_below_drewN | apply below_drew1))) | with_reducible first | refine Kd.C_alloc ?_ _ | refine Kd.C_drewN ?_ _ | refine Kd.C_drew ?_)); (case side4 => exact HC1.out); rintro e w49 ⟨rfl, hb⟩; have n0_ := Aside0.mk (Kd.V_below (by (with_reducible repeat (first | apply Kd.V_alloc | apply Kd.V_drewN | apply Kd.V_drew)); exact HO_13.out) hb); have n1_ := Aside0.mk (Kd.R_below (by (with_reducible repeat (first | apply Kd.R_alloc | apply Kd.R_drewN | apply Kd.R_drew)); exact HO336.out) hb); have n2_ := Aside0.mk (Kd.R_below (by (with_reducible repeat (first | apply Kd.R_alloc | apply Kd.R_drewN | apply Kd.R_drew)); exact HO339.out) hb); have n3_ := Aside0.mk (bst_ hb); clear HO_13; clear HO336; clear HO339; clear HB; have HO_13 := n0_; have HO336 := n1_; have HO339 := n2_; have HB := n3_; clear n0_ n1_ n2_ n3_; (try clear hb); (try clear hb2); (try clear hk); (try clear hi)) | (go_at_call 26; (with_reducible refine (reads_Valid.calls k2 _ _ l0 _ _ l1 a2 t342 _ ?side1 ?side2 ?side3 ?side4 A38.out).mono ?_); (case side1 => repeat (first | exact (Kd.C_below HR0.out HB.out) | with_reducible first | refine Kd.C_alloc ?_ _ | refine Kd.C_drewN ?_ _ | refine Kd.C_drew ?_)); (case side2 => exact HC0.out); (case side3 => repeat (first | exact (Kd.C_below HR1.out HB.out) | with_reducible first | refine Kd.C_alloc ?_ _ | refine Kd.C_drewN ?_ _ | refine Kd.C_drew ?_)); (case side4 => exact HC1.out); rintro e w50 ⟨rfl, hb⟩; have n0_ := Aside0.mk (Kd.V_below (by (with_reducible repeat (first | apply Kd.V_alloc | apply Kd.V_drewN | apply Kd.V_drew)); exact HO_13.out) hb); have n1_ := Aside0.mk (Kd.R_below (by (with_reducible repeat (first | apply Kd.R_alloc | apply Kd.R_drewN | apply Kd.R_drew)); exact HO336.out) hb); have n2_ := Aside0.mk (Kd.R_below (by (with_reducible repeat (first | apply Kd.R_alloc | apply Kd.R_drewN | apply Kd.R_drew)); exact HO339.out) hb); have n3_ := Aside0.mk (bst_ hb); clear HO_13; clear HO336; clear HO339; clear HB; have HO_13 := n0_; have HO336 := n1_; have HO339 := n2_; have HB := n3_; clear n0_ n1_ n2_ n3_; (try clear hb); (try clear hb2); (try clear hk); (try clear hi)) | (go_at_call 28; (with_reducible refine (reads_Same.calls k2 _ _ x13_2 _ _ l3 true _ ?side1 ?side2 ?side3 ?side4 A40.out).mono ?_); (case side1 => repeat (first | exact (Kd.V_reads' HO_13.out).2.2 | with_reducible first | refine Kd.C_alloc ?_ _ | refine Kd.C_drewN ?_ _ | refine Kd.C_drew ?_)); (case side2 => exact (Kd.V_reads' HO_13.out).2.1); (case side3 => repeat (first | exact (Kd.C_below HR3.out HB.out) | with_reducible first | refine Kd.C_alloc ?_ _ | refine Kd.C_drewN ?_ _ | refine Kd.C_drew ?_)); (case side4 => exact HC3.out); rintro e w51 ⟨rfl, hb⟩; have n0_ := Aside0.mk (Kd.V_below (by (with_reducible repeat (first | apply Kd.V_alloc | apply Kd.V_drewN | apply Kd.V_drew)); exact HO_13.out) hb); have n1_ := Aside0.mk (Kd.R_below (by (with_reducible repeat (first | apply Kd.R_alloc | apply Kd.R_drewN | apply Kd.R_drew)); exact HO336.out) hb); have n2_ := Aside0.mk (Kd.R_below (by (with_reducible repeat (first | apply Kd.R_alloc | apply Kd.R_drewN | apply Kd.R_drew)); exact HO339.out) hb); have n3_ := Aside0.mk (bst_ hb); clear HO_13; clear HO336; clear HO339; clear HB; have HO_13 := n0_; have HO336 := n1_; have HO339 := n2_; have HB := n3_; clear n0_ n1_ n2_ n3_; (try clear hb); (try clear hb2); (try clear hk); (try clear hi)) | (go_at_call 28; (with_reducible refine (reads_Same.calls k2 _ _ l0 _ _ l3 true _ ?side1 ?side2 ?side3 ?side4 A41.out).mono ?_); (case side1 => repeat (first | exact (Kd.C_below HR0.out HB.out) | with_reducible first | refine Kd.C_alloc ?_ _ | refine Kd.C_drewN ?_ _ | refine Kd.C_drew ?_)); (case side2 => exact HC0.out); (case side3 => repeat (first | exact (Kd.C_below HR3.out HB.out) | with_reducible first | refine Kd.C_alloc ?_ _ | refine Kd.C_drewN ?_ _ | refine Kd.C_drew ?_)); (case side4 => exact HC3.out); rintro e w52 ⟨rfl, hb⟩; have n0_ := Aside0.mk (Kd.V_below (by (with_reducible repeat (first | apply Kd.V_alloc | apply Kd.V_drewN | apply Kd.V_drew)); exact HO_13.out) hb); have n1_ := Aside0.mk (Kd.R_below (by (with_reducible repeat (first | apply Kd.R_alloc | apply Kd.R_drewN | apply Kd.R_drew)); exact HO336.out) hb); have n2_ := Aside0.mk (Kd.R_below (by (with_reducible repeat (first | apply Kd.R_alloc | apply Kd.R_drewN | apply Kd.R_drew)); exact HO339.out) hb); have n3_ := Aside0.mk (bst_ hb); clear HO_13; clear HO336; clear HO339; clear HB; have HO_13 := n0_; have HO336 := n1_; have HO339 := n2_; have HB := n3_; clear n0_ n1_ n2_ n3_; (try clear hb); (try clear hb2); (try clear hk); (try clear hi)))
                        go_meet
                        case rel => exact ⟨_, (false), (by first | rfl | (simp; done) | (simp [*]; done)), H', ⟨by have := HJ6.out; have := HK2.out; first | omega | exact Nat.le_refl _⟩, ⟨by repeat (with_reducible first | exact HB.out | apply below_alloc | apply pw_below_drewN | apply below_drew1)⟩⟩
                      · replace c43 := Bool.eq_false_iff.mpr c43
                        subst c43
                        have H1 : (handshakerlaw05_ReadsParts.j2 k2 l0 l1 a2 l3 y330 true) = some r := by rw [if_neg (show ¬ (false = true) by decide)] at H; exact H
                        clear H
                        have H := H1
                        clear H1
                        have H' := Aside0.mk H
                        clear H
                        obtain ⟨Ao53, co53, eo53⟩ := Kd.V_slice HO_13.out
                        subst eo53
                        go_wp2_with (first | ((with_reducible refine gate_callee (f := 25) rfl ?_); refine goesL_ (some 78) rfl rfl Try.func25 (by kernel_rfl) rfl #[.slice Ao53 x13_2.length co53] rfl (by (try simp only [List.map_toArray, List.map_cons, List.map_nil]); first | done | rfl) ?_; (with_reducible refine (reads_Cells.calls k2 _ _ x13_2 t334 _ ?side1 ?side2 A33.out).mono ?_); (case side1 => repeat (first | exact (Kd.V_reads' HO_13.out).2.2 | with_reducible first | refine Kd.C_alloc ?_ _ | refine Kd.C_drewN ?_ _ | refine Kd.C_drew ?_)); (case side2 => exact (Kd.V_reads' HO_13.out).2.1); rintro e w54 ⟨v335, rfl, ho0, hb⟩; refine ⟨_, rfl, ?_⟩; have n0_ := Aside0.mk (Kd.V_elder' (by (with_reducible repeat (first | apply Kd.V_alloc | apply Kd.V_drewN | apply Kd.V_drew)); exact HO_13.out) (Kd.R_base ho0) hb); have n1_ := Aside0.mk (Kd.R_lower ho0 bsz_); have n2_ := Aside0.mk (bst_ hb); clear HO_13; clear HB; have HO_13 := n0_; have HO336 := n1_; have HB := n2_; clear n0_ n1_ n2_; (try clear hb); (try clear hb2); (try clear hk); (try clear hi); (try clear ho0)) | ((with_reducible refine gate_callee (f := 25) rfl ?_); refine goesL_ (some 80) rfl rfl Try.func25 (by kernel_rfl) rfl #[.slice A0 l0.length c0] rfl (by (try simp only [List.map_toArray, List.map_cons, List.map_nil]); first | done | rfl) ?_; (with_reducible refine (reads_Cells.calls k2 _ _ l0 t337 _ ?side1 ?side2 A34.out).mono ?_); (case side1 => repeat (first | exact (Kd.C_below HR0.out HB.out) | with_reducible first | refine Kd.C_alloc ?_ _ | refine Kd.C_drewN ?_ _ | refine Kd.C_drew ?_)); (case side2 => exact HC0.out); rintro e w55 ⟨v338, rfl, ho0, hb⟩; refine ⟨_, rfl, ?_⟩; have n0_ := Aside0.mk (Kd.V_elder' (by (with_reducible repeat (first | apply Kd.V_alloc | apply Kd.V_drewN | apply Kd.V_drew)); exact HO_13.out) (Kd.R_base ho0) hb); have n1_ := Aside0.mk (Kd.R_elder' (by (with_reducible repeat (first | apply Kd.R_alloc | apply Kd.R_drewN | apply Kd.R_drew)); exact HO336.out) (Kd.R_base ho0) hb); have n2_ := Aside0.mk (Kd.R_lower (Kd.R_new' ho0 (Kd.R_lt (by (with_reducible repeat (first | apply Kd.R_alloc | apply Kd.R_drewN | apply Kd.R_drew)); exact HO336.out))) bsz_); have n3_ := Aside0.mk (bst_ hb); clear HO_13; clear HO336; clear HB; have HO_13 := n0_; have HO336 := n1_; have HO339 := n2_; have HB := n3_; clear n0_ n1_ n2_ n3_; (try clear hb); (try clear hb2); (try clear hk); (try clear hi); (try clear ho0); obtain ⟨Ao56, co56, eo56⟩ := Kd.R_slice HO336.out; subst eo56; obtain ⟨Ao57, co57, eo57⟩ := Kd.R_slice HO339.out; subst eo57) | ((with_reducible refine gate_callee (f := 24) rfl ?_); refine goesL_ (some 81) rfl rfl Try.func24 (by kernel_rfl) rfl #[.slice Ao56 t334.length co56, .slice Ao57 t337.length co57] rfl (by (try simp only [List.map_toArray, List.map_cons, List.map_nil]); first | done | rfl) ?_; (with_reducible refine (handshakerref03_Numbers.calls k2 _ _ t334 _ _ t337 true _ ?side1 ?side2 ?side3 ?side4 A35.out).mono ?_); (case side1 => repeat (first | exact (Kd.R_reads' HO336.out).2.2 | with_reducible first | refine Kd.C_alloc ?_ _ | refine Kd.C_drewN ?_ _ | refine Kd.C_drew ?_)); (case side2 => exact (Kd.R_reads' HO336.out).2.1); (case side3 => repeat (first | exact (Kd.R_reads' HO339.out).2.2 | with_reducible first | refine Kd.C_alloc ?_ _ | refine Kd.C_drewN ?_ _ | refine Kd.C_drew ?_)); (case side4 => exact (Kd.R_reads' HO339.out).2.1); rintro e w' ⟨rfl, ⟨nd, rfl⟩⟩; refine ⟨_, rfl, ?_⟩) | (go_at_call 26; (with_reducible refine (reads_Valid.calls k2 _ _ x13_2 _ _ l1 a2 t341 _ ?side1 ?side2 ?side3 ?side4 A37.out).mono ?_); (case side1 => repeat (first | exact (Kd.V_reads' HO_13.out).2.2 | with_reducible first | refine Kd.C_alloc ?_ _ | refine Kd.C_drewN ?_ _ | refine Kd.C_drew ?_)); (case side2 => exact (Kd.V_reads' HO_13.out).2.1); (case side3 => repeat (first | exact (Kd.C_below HR1.out (by repeat (with_reducible first | exact HB.out | apply below_alloc | apply pw_below_drewN | apply below_drew1))) | with_reducible first | refine Kd.C_alloc ?_ _ | refine Kd.C_drewN ?_ _ | refine Kd.C_drew ?_)); (case side4 => exact HC1.out); rintro e w58 ⟨rfl, hb⟩; have n0_ := Aside0.mk (Kd.V_below (by (with_reducible repeat (first | apply Kd.V_alloc | apply Kd.V_drewN | apply Kd.V_drew)); exact HO_13.out) hb); have n1_ := Aside0.mk (Kd.R_below (by (with_reducible repeat (first | apply Kd.R_alloc | apply Kd.R_drewN | apply Kd.R_drew)); exact HO336.out) hb); have n2_ := Aside0.mk (Kd.R_below (by (with_reducible repeat (first | apply Kd.R_alloc | apply Kd.R_drewN | apply Kd.R_drew)); exact HO339.out) hb); have n3_ := Aside0.mk (bst_ hb); clear HO_13; clear HO336; clear HO339; clear HB; have HO_13 := n0_; have HO336 := n1_; have HO339 := n2_; have HB := n3_; clear n0_ n1_ n2_ n3_; (try clear hb); (try clear hb2); (try clear hk); (try clear hi)) | (go_at_call 26; (with_reducible refine (reads_Valid.calls k2 _ _ l0 _ _ l1 a2 t342 _ ?side1 ?side2 ?side3 ?side4 A38.out).mono ?_); (case side1 => repeat (first | exact (Kd.C_below HR0.out HB.out) | with_reducible first | refine Kd.C_alloc ?_ _ | refine Kd.C_drewN ?_ _ | refine Kd.C_drew ?_)); (case side2 => exact HC0.out); (case side3 => repeat (first | exact (Kd.C_below HR1.out HB.out) | with_reducible first | refine Kd.C_alloc ?_ _ | refine Kd.C_drewN ?_ _ | refine Kd.C_drew ?_)); (case side4 => exact HC1.out); rintro e w59 ⟨rfl, hb⟩; have n0_ := Aside0.mk (Kd.V_below (by (with_reducible repeat (first | apply Kd.V_alloc | apply Kd.V_drewN | apply Kd.V_drew)); exact HO_13.out) hb); have n1_ := Aside0.mk (Kd.R_below (by (with_reducible repeat (first | apply Kd.R_alloc | apply Kd.R_drewN | apply Kd.R_drew)); exact HO336.out) hb); have n2_ := Aside0.mk (Kd.R_below (by (with_reducible repeat (first | apply Kd.R_alloc | apply Kd.R_drewN | apply Kd.R_drew)); exact HO339.out) hb); have n3_ := Aside0.mk (bst_ hb); clear HO_13; clear HO336; clear HO339; clear HB; have HO_13 := n0_; have HO336 := n1_; have HO339 := n2_; have HB := n3_; clear n0_ n1_ n2_ n3_; (try clear hb); (try clear hb2); (try clear hk); (try clear hi)) | (go_at_call 28; (with_reducible refine (reads_Same.calls k2 _ _ x13_2 _ _ l3 true _ ?side1 ?side2 ?side3 ?side4 A40.out).mono ?_); (case side1 => repeat (first | exact (Kd.V_reads' HO_13.out).2.2 | with_reducible first | refine Kd.C_alloc ?_ _ | refine Kd.C_drewN ?_ _ | refine Kd.C_drew ?_)); (case side2 => exact (Kd.V_reads' HO_13.out).2.1); (case side3 => repeat (first | exact (Kd.C_below HR3.out HB.out) | with_reducible first | refine Kd.C_alloc ?_ _ | refine Kd.C_drewN ?_ _ | refine Kd.C_drew ?_)); (case side4 => exact HC3.out); rintro e w60 ⟨rfl, hb⟩; have n0_ := Aside0.mk (Kd.V_below (by (with_reducible repeat (first | apply Kd.V_alloc | apply Kd.V_drewN | apply Kd.V_drew)); exact HO_13.out) hb); have n1_ := Aside0.mk (Kd.R_below (by (with_reducible repeat (first | apply Kd.R_alloc | apply Kd.R_drewN | apply Kd.R_drew)); exact HO336.out) hb); have n2_ := Aside0.mk (Kd.R_below (by (with_reducible repeat (first | apply Kd.R_alloc | apply Kd.R_drewN | apply Kd.R_drew)); exact HO339.out) hb); have n3_ := Aside0.mk (bst_ hb); clear HO_13; clear HO336; clear HO339; clear HB; have HO_13 := n0_; have HO336 := n1_; have HO339 := n2_; have HB := n3_; clear n0_ n1_ n2_ n3_; (try clear hb); (try clear hb2); (try clear hk); (try clear hi)) | (go_at_call 28; (with_reducible refine (reads_Same.calls k2 _ _ l0 _ _ l3 false _ ?side1 ?side2 ?side3 ?side4 A41.out).mono ?_); (case side1 => repeat (first | exact (Kd.C_below HR0.out HB.out) | with_reducible first | refine Kd.C_alloc ?_ _ | refine Kd.C_drewN ?_ _ | refine Kd.C_drew ?_)); (case side2 => exact HC0.out); (case side3 => repeat (first | exact (Kd.C_below HR3.out HB.out) | with_reducible first | refine Kd.C_alloc ?_ _ | refine Kd.C_drewN ?_ _ | refine Kd.C_drew ?_)); (case side4 => exact HC3.out); rintro e w61 ⟨rfl, hb⟩; have n0_ := Aside0.mk (Kd.V_below (by (with_reducible repeat (first | apply Kd.V_alloc | apply Kd.V_drewN | apply Kd.V_drew)); exact HO_13.out) hb); have n1_ := Aside0.mk (Kd.R_below (by (with_reducible repeat (first | apply Kd.R_alloc | apply Kd.R_drewN | apply Kd.R_drew)); exact HO336.out) hb); have n2_ := Aside0.mk (Kd.R_below (by (with_reducible repeat (first | apply Kd.R_alloc | apply Kd.R_drewN | apply Kd.R_drew)); exact HO339.out) hb); have n3_ := Aside0.mk (bst_ hb); clear HO_13; clear HO336; clear HO339; clear HB; have HO_13 := n0_; have HO336 := n1_; have HO339 := n2_; have HB := n3_; clear n0_ n1_ n2_ n3_; (try clear hb); (try clear hb2); (try clear hk); (try clear hi)))
                        go_meet
                        case rel => exact ⟨_, (true), (by first | rfl | (simp; done) | (simp [*]; done)), H', ⟨by have := HJ6.out; have := HK2.out; first | omega | exact Nat.le_refl _⟩, ⟨by repeat (with_reducible first | exact HB.out | apply below_alloc | apply pw_below_drewN | apply below_drew1)⟩⟩
                    · replace c42 := Bool.eq_false_iff.mpr c42
                      subst c42
                      have H1 : (if t344 = true then (handshakerlaw05_ReadsParts.j2 k2 l0 l1 a2 l3 y330 true) else (handshakerlaw05_ReadsParts.j2 k2 l0 l1 a2 l3 y330 false)) = some r := by rw [if_neg (show ¬ (false = true) by decide)] at H; exact H
                      clear H
                      have H := H1
                      clear H1
                      by_cases c62 : t344 = true
                      · subst c62
                        have H1 : (handshakerlaw05_ReadsParts.j2 k2 l0 l1 a2 l3 y330 true) = some r := by rw [if_pos rfl] at H; exact H
                        clear H
                        have H := H1
                        clear H1
                        have H' := Aside0.mk H
                        clear H
                        obtain ⟨Ao63, co63, eo63⟩ := Kd.V_slice HO_13.out
                        subst eo63
                        go_wp2_with (first | ((with_reducible refine gate_callee (f := 25) rfl ?_); refine goesL_ (some 78) rfl rfl Try.func25 (by kernel_rfl) rfl #[.slice Ao63 x13_2.length co63] rfl (by (try simp only [List.map_toArray, List.map_cons, List.map_nil]); first | done | rfl) ?_; (with_reducible refine (reads_Cells.calls k2 _ _ x13_2 t334 _ ?side1 ?side2 A33.out).mono ?_); (case side1 => repeat (first | exact (Kd.V_reads' HO_13.out).2.2 | with_reducible first | refine Kd.C_alloc ?_ _ | refine Kd.C_drewN ?_ _ | refine Kd.C_drew ?_)); (case side2 => exact (Kd.V_reads' HO_13.out).2.1); rintro e w64 ⟨v335, rfl, ho0, hb⟩; refine ⟨_, rfl, ?_⟩; have n0_ := Aside0.mk (Kd.V_elder' (by (with_reducible repeat (first | apply Kd.V_alloc | apply Kd.V_drewN | apply Kd.V_drew)); exact HO_13.out) (Kd.R_base ho0) hb); have n1_ := Aside0.mk (Kd.R_lower ho0 bsz_); have n2_ := Aside0.mk (bst_ hb); clear HO_13; clear HB; have HO_13 := n0_; have HO336 := n1_; have HB := n2_; clear n0_ n1_ n2_; (try clear hb); (try clear hb2); (try clear hk); (try clear hi); (try clear ho0)) | ((with_reducible refine gate_callee (f := 25) rfl ?_); refine goesL_ (some 80) rfl rfl Try.func25 (by kernel_rfl) rfl #[.slice A0 l0.length c0] rfl (by (try simp only [List.map_toArray, List.map_cons, List.map_nil]); first | done | rfl) ?_; (with_reducible refine (reads_Cells.calls k2 _ _ l0 t337 _ ?side1 ?side2 A34.out).mono ?_); (case side1 => repeat (first | exact (Kd.C_below HR0.out HB.out) | with_reducible first | refine Kd.C_alloc ?_ _ | refine Kd.C_drewN ?_ _ | refine Kd.C_drew ?_)); (case side2 => exact HC0.out); rintro e w65 ⟨v338, rfl, ho0, hb⟩; refine ⟨_, rfl, ?_⟩; have n0_ := Aside0.mk (Kd.V_elder' (by (with_reducible repeat (first | apply Kd.V_alloc | apply Kd.V_drewN | apply Kd.V_drew)); exact HO_13.out) (Kd.R_base ho0) hb); have n1_ := Aside0.mk (Kd.R_elder' (by (with_reducible repeat (first | apply Kd.R_alloc | apply Kd.R_drewN | apply Kd.R_drew)); exact HO336.out) (Kd.R_base ho0) hb); have n2_ := Aside0.mk (Kd.R_lower (Kd.R_new' ho0 (Kd.R_lt (by (with_reducible repeat (first | apply Kd.R_alloc | apply Kd.R_drewN | apply Kd.R_drew)); exact HO336.out))) bsz_); have n3_ := Aside0.mk (bst_ hb); clear HO_13; clear HO336; clear HB; have HO_13 := n0_; have HO336 := n1_; have HO339 := n2_; have HB := n3_; clear n0_ n1_ n2_ n3_; (try clear hb); (try clear hb2); (try clear hk); (try clear hi); (try clear ho0); obtain ⟨Ao66, co66, eo66⟩ := Kd.R_slice HO336.out; subst eo66; obtain ⟨Ao67, co67, eo67⟩ := Kd.R_slice HO339.out; subst eo67) | ((with_reducible refine gate_callee (f := 24) rfl ?_); refine goesL_ (some 81) rfl rfl Try.func24 (by kernel_rfl) rfl #[.slice Ao66 t334.length co66, .slice Ao67 t337.length co67] rfl (by (try simp only [List.map_toArray, List.map_cons, List.map_nil]); first | done | rfl) ?_; (with_reducible refine (handshakerref03_Numbers.calls k2 _ _ t334 _ _ t337 true _ ?side1 ?side2 ?side3 ?side4 A35.out).mono ?_); (case side1 => repeat (first | exact (Kd.R_reads' HO336.out).2.2 | with_reducible first | refine Kd.C_alloc ?_ _ | refine Kd.C_drewN ?_ _ | refine Kd.C_drew ?_)); (case side2 => exact (Kd.R_reads' HO336.out).2.1); (case side3 => repeat (first | exact (Kd.R_reads' HO339.out).2.2 | with_reducible first | refine Kd.C_alloc ?_ _ | refine Kd.C_drewN ?_ _ | refine Kd.C_drew ?_)); (case side4 => exact (Kd.R_reads' HO339.out).2.1); rintro e w' ⟨rfl, ⟨nd, rfl⟩⟩; refine ⟨_, rfl, ?_⟩) | (go_at_call 26; (with_reducible refine (reads_Valid.calls k2 _ _ x13_2 _ _ l1 a2 t341 _ ?side1 ?side2 ?side3 ?side4 A37.out).mono ?_); (case side1 => repeat (first | exact (Kd.V_reads' HO_13.out).2.2 | with_reducible first | refine Kd.C_alloc ?_ _ | refine Kd.C_drewN ?_ _ | refine Kd.C_drew ?_)); (case side2 => exact (Kd.V_reads' HO_13.out).2.1); (case side3 => repeat (first | exact (Kd.C_below HR1.out (by repeat (with_reducible first | exact HB.out | apply below_alloc | apply pw_below_drewN | apply below_drew1))) | with_reducible first | refine Kd.C_alloc ?_ _ | refine Kd.C_drewN ?_ _ | refine Kd.C_drew ?_)); (case side4 => exact HC1.out); rintro e w68 ⟨rfl, hb⟩; have n0_ := Aside0.mk (Kd.V_below (by (with_reducible repeat (first | apply Kd.V_alloc | apply Kd.V_drewN | apply Kd.V_drew)); exact HO_13.out) hb); have n1_ := Aside0.mk (Kd.R_below (by (with_reducible repeat (first | apply Kd.R_alloc | apply Kd.R_drewN | apply Kd.R_drew)); exact HO336.out) hb); have n2_ := Aside0.mk (Kd.R_below (by (with_reducible repeat (first | apply Kd.R_alloc | apply Kd.R_drewN | apply Kd.R_drew)); exact HO339.out) hb); have n3_ := Aside0.mk (bst_ hb); clear HO_13; clear HO336; clear HO339; clear HB; have HO_13 := n0_; have HO336 := n1_; have HO339 := n2_; have HB := n3_; clear n0_ n1_ n2_ n3_; (try clear hb); (try clear hb2); (try clear hk); (try clear hi)) | (go_at_call 26; (with_reducible refine (reads_Valid.calls k2 _ _ l0 _ _ l1 a2 t342 _ ?side1 ?side2 ?side3 ?side4 A38.out).mono ?_); (case side1 => repeat (first | exact (Kd.C_below HR0.out HB.out) | with_reducible first | refine Kd.C_alloc ?_ _ | refine Kd.C_drewN ?_ _ | refine Kd.C_drew ?_)); (case side2 => exact HC0.out); (case side3 => repeat (first | exact (Kd.C_below HR1.out HB.out) | with_reducible first | refine Kd.C_alloc ?_ _ | refine Kd.C_drewN ?_ _ | refine Kd.C_drew ?_)); (case side4 => exact HC1.out); rintro e w69 ⟨rfl, hb⟩; have n0_ := Aside0.mk (Kd.V_below (by (with_reducible repeat (first | apply Kd.V_alloc | apply Kd.V_drewN | apply Kd.V_drew)); exact HO_13.out) hb); have n1_ := Aside0.mk (Kd.R_below (by (with_reducible repeat (first | apply Kd.R_alloc | apply Kd.R_drewN | apply Kd.R_drew)); exact HO336.out) hb); have n2_ := Aside0.mk (Kd.R_below (by (with_reducible repeat (first | apply Kd.R_alloc | apply Kd.R_drewN | apply Kd.R_drew)); exact HO339.out) hb); have n3_ := Aside0.mk (bst_ hb); clear HO_13; clear HO336; clear HO339; clear HB; have HO_13 := n0_; have HO336 := n1_; have HO339 := n2_; have HB := n3_; clear n0_ n1_ n2_ n3_; (try clear hb); (try clear hb2); (try clear hk); (try clear hi)) | (go_at_call 28; (with_reducible refine (reads_Same.calls k2 _ _ x13_2 _ _ l3 false _ ?side1 ?side2 ?side3 ?side4 A40.out).mono ?_); (case side1 => repeat (first | exact (Kd.V_reads' HO_13.out).2.2 | with_reducible first | refine Kd.C_alloc ?_ _ | refine Kd.C_drewN ?_ _ | refine Kd.C_drew ?_)); (case side2 => exact (Kd.V_reads' HO_13.out).2.1); (case side3 => repeat (first | exact (Kd.C_below HR3.out HB.out) | with_reducible first | refine Kd.C_alloc ?_ _ | refine Kd.C_drewN ?_ _ | refine Kd.C_drew ?_)); (case side4 => exact HC3.out); rintro e w70 ⟨rfl, hb⟩; have n0_ := Aside0.mk (Kd.V_below (by (with_reducible repeat (first | apply Kd.V_alloc | apply Kd.V_drewN | apply Kd.V_drew)); exact HO_13.out) hb); have n1_ := Aside0.mk (Kd.R_below (by (with_reducible repeat (first | apply Kd.R_alloc | apply Kd.R_drewN | apply Kd.R_drew)); exact HO336.out) hb); have n2_ := Aside0.mk (Kd.R_below (by (with_reducible repeat (first | apply Kd.R_alloc | apply Kd.R_drewN | apply Kd.R_drew)); exact HO339.out) hb); have n3_ := Aside0.mk (bst_ hb); clear HO_13; clear HO336; clear HO339; clear HB; have HO_13 := n0_; have HO336 := n1_; have HO339 := n2_; have HB := n3_; clear n0_ n1_ n2_ n3_; (try clear hb); (try clear hb2); (try clear hk); (try clear hi)) | (go_at_call 28; (with_reducible refine (reads_Same.calls k2 _ _ l0 _ _ l3 true _ ?side1 ?side2 ?side3 ?side4 A41.out).mono ?_); (case side1 => repeat (first | exact (Kd.C_below HR0.out HB.out) | with_reducible first | refine Kd.C_alloc ?_ _ | refine Kd.C_drewN ?_ _ | refine Kd.C_drew ?_)); (case side2 => exact HC0.out); (case side3 => repeat (first | exact (Kd.C_below HR3.out HB.out) | with_reducible first | refine Kd.C_alloc ?_ _ | refine Kd.C_drewN ?_ _ | refine Kd.C_drew ?_)); (case side4 => exact HC3.out); rintro e w71 ⟨rfl, hb⟩; have n0_ := Aside0.mk (Kd.V_below (by (with_reducible repeat (first | apply Kd.V_alloc | apply Kd.V_drewN | apply Kd.V_drew)); exact HO_13.out) hb); have n1_ := Aside0.mk (Kd.R_below (by (with_reducible repeat (first | apply Kd.R_alloc | apply Kd.R_drewN | apply Kd.R_drew)); exact HO336.out) hb); have n2_ := Aside0.mk (Kd.R_below (by (with_reducible repeat (first | apply Kd.R_alloc | apply Kd.R_drewN | apply Kd.R_drew)); exact HO339.out) hb); have n3_ := Aside0.mk (bst_ hb); clear HO_13; clear HO336; clear HO339; clear HB; have HO_13 := n0_; have HO336 := n1_; have HO339 := n2_; have HB := n3_; clear n0_ n1_ n2_ n3_; (try clear hb); (try clear hb2); (try clear hk); (try clear hi)))
                        go_meet
                        case rel => exact ⟨_, (true), (by first | rfl | (simp; done) | (simp [*]; done)), H', ⟨by have := HJ6.out; have := HK2.out; first | omega | exact Nat.le_refl _⟩, ⟨by repeat (with_reducible first | exact HB.out | apply below_alloc | apply pw_below_drewN | apply below_drew1)⟩⟩
                      · replace c62 := Bool.eq_false_iff.mpr c62
                        subst c62
                        have H1 : (handshakerlaw05_ReadsParts.j2 k2 l0 l1 a2 l3 y330 false) = some r := by rw [if_neg (show ¬ (false = true) by decide)] at H; exact H
                        clear H
                        have H := H1
                        clear H1
                        have H' := Aside0.mk H
                        clear H
                        obtain ⟨Ao72, co72, eo72⟩ := Kd.V_slice HO_13.out
                        subst eo72
                        go_wp2_with (first | ((with_reducible refine gate_callee (f := 25) rfl ?_); refine goesL_ (some 78) rfl rfl Try.func25 (by kernel_rfl) rfl #[.slice Ao72 x13_2.length co72] rfl (by (try simp only [List.map_toArray, List.map_cons, List.map_nil]); first | done | rfl) ?_; (with_reducible refine (reads_Cells.calls k2 _ _ x13_2 t334 _ ?side1 ?side2 A33.out).mono ?_); (case side1 => repeat (first | exact (Kd.V_reads' HO_13.out).2.2 | with_reducible first | refine Kd.C_alloc ?_ _ | refine Kd.C_drewN ?_ _ | refine Kd.C_drew ?_)); (case side2 => exact (Kd.V_reads' HO_13.out).2.1); rintro e w73 ⟨v335, rfl, ho0, hb⟩; refine ⟨_, rfl, ?_⟩; have n0_ := Aside0.mk (Kd.V_elder' (by (with_reducible repeat (first | apply Kd.V_alloc | apply Kd.V_drewN | apply Kd.V_drew)); exact HO_13.out) (Kd.R_base ho0) hb); have n1_ := Aside0.mk (Kd.R_lower ho0 bsz_); have n2_ := Aside0.mk (bst_ hb); clear HO_13; clear HB; have HO_13 := n0_; have HO336 := n1_; have HB := n2_; clear n0_ n1_ n2_; (try clear hb); (try clear hb2); (try clear hk); (try clear hi); (try clear ho0)) | ((with_reducible refine gate_callee (f := 25) rfl ?_); refine goesL_ (some 80) rfl rfl Try.func25 (by kernel_rfl) rfl #[.slice A0 l0.length c0] rfl (by (try simp only [List.map_toArray, List.map_cons, List.map_nil]); first | done | rfl) ?_; (with_reducible refine (reads_Cells.calls k2 _ _ l0 t337 _ ?side1 ?side2 A34.out).mono ?_); (case side1 => repeat (first | exact (Kd.C_below HR0.out HB.out) | with_reducible first | refine Kd.C_alloc ?_ _ | refine Kd.C_drewN ?_ _ | refine Kd.C_drew ?_)); (case side2 => exact HC0.out); rintro e w74 ⟨v338, rfl, ho0, hb⟩; refine ⟨_, rfl, ?_⟩; have n0_ := Aside0.mk (Kd.V_elder' (by (with_reducible repeat (first | apply Kd.V_alloc | apply Kd.V_drewN | apply Kd.V_drew)); exact HO_13.out) (Kd.R_base ho0) hb); have n1_ := Aside0.mk (Kd.R_elder' (by (with_reducible repeat (first | apply Kd.R_alloc | apply Kd.R_drewN | apply Kd.R_drew)); exact HO336.out) (Kd.R_base ho0) hb); have n2_ := Aside0.mk (Kd.R_lower (Kd.R_new' ho0 (Kd.R_lt (by (with_reducible repeat (first | apply Kd.R_alloc | apply Kd.R_drewN | apply Kd.R_drew)); exact HO336.out))) bsz_); have n3_ := Aside0.mk (bst_ hb); clear HO_13; clear HO336; clear HB; have HO_13 := n0_; have HO336 := n1_; have HO339 := n2_; have HB := n3_; clear n0_ n1_ n2_ n3_; (try clear hb); (try clear hb2); (try clear hk); (try clear hi); (try clear ho0); obtain ⟨Ao75, co75, eo75⟩ := Kd.R_slice HO336.out; subst eo75; obtain ⟨Ao76, co76, eo76⟩ := Kd.R_slice HO339.out; subst eo76) | ((with_reducible refine gate_callee (f := 24) rfl ?_); refine goesL_ (some 81) rfl rfl Try.func24 (by kernel_rfl) rfl #[.slice Ao75 t334.length co75, .slice Ao76 t337.length co76] rfl (by (try simp only [List.map_toArray, List.map_cons, List.map_nil]); first | done | rfl) ?_; (with_reducible refine (handshakerref03_Numbers.calls k2 _ _ t334 _ _ t337 true _ ?side1 ?side2 ?side3 ?side4 A35.out).mono ?_); (case side1 => repeat (first | exact (Kd.R_reads' HO336.out).2.2 | with_reducible first | refine Kd.C_alloc ?_ _ | refine Kd.C_drewN ?_ _ | refine Kd.C_drew ?_)); (case side2 => exact (Kd.R_reads' HO336.out).2.1); (case side3 => repeat (first | exact (Kd.R_reads' HO339.out).2.2 | with_reducible first | refine Kd.C_alloc ?_ _ | refine Kd.C_drewN ?_ _ | refine Kd.C_drew ?_)); (case side4 => exact (Kd.R_reads' HO339.out).2.1); rintro e w' ⟨rfl, ⟨nd, rfl⟩⟩; refine ⟨_, rfl, ?_⟩) | (go_at_call 26; (with_reducible refine (reads_Valid.calls k2 _ _ x13_2 _ _ l1 a2 t341 _ ?side1 ?side2 ?side3 ?side4 A37.out).mono ?_); (case side1 => repeat (first | exact (Kd.V_reads' HO_13.out).2.2 | with_reducible first | refine Kd.C_alloc ?_ _ | refine Kd.C_drewN ?_ _ | refine Kd.C_drew ?_)); (case side2 => exact (Kd.V_reads' HO_13.out).2.1); (case side3 => repeat (first | exact (Kd.C_below HR1.out (by repeat (with_reducible first | exact HB.out | apply below_alloc | apply pw_below_drewN | apply below_drew1))) | with_reducible first | refine Kd.C_alloc ?_ _ | refine Kd.C_drewN ?_ _ | refine Kd.C_drew ?_)); (case side4 => exact HC1.out); rintro e w77 ⟨rfl, hb⟩; have n0_ := Aside0.mk (Kd.V_below (by (with_reducible repeat (first | apply Kd.V_alloc | apply Kd.V_drewN | apply Kd.V_drew)); exact HO_13.out) hb); have n1_ := Aside0.mk (Kd.R_below (by (with_reducible repeat (first | apply Kd.R_alloc | apply Kd.R_drewN | apply Kd.R_drew)); exact HO336.out) hb); have n2_ := Aside0.mk (Kd.R_below (by (with_reducible repeat (first | apply Kd.R_alloc | apply Kd.R_drewN | apply Kd.R_drew)); exact HO339.out) hb); have n3_ := Aside0.mk (bst_ hb); clear HO_13; clear HO336; clear HO339; clear HB; have HO_13 := n0_; have HO336 := n1_; have HO339 := n2_; have HB := n3_; clear n0_ n1_ n2_ n3_; (try clear hb); (try clear hb2); (try clear hk); (try clear hi)) | (go_at_call 26; (with_reducible refine (reads_Valid.calls k2 _ _ l0 _ _ l1 a2 t342 _ ?side1 ?side2 ?side3 ?side4 A38.out).mono ?_); (case side1 => repeat (first | exact (Kd.C_below HR0.out HB.out) | with_reducible first | refine Kd.C_alloc ?_ _ | refine Kd.C_drewN ?_ _ | refine Kd.C_drew ?_)); (case side2 => exact HC0.out); (case side3 => repeat (first | exact (Kd.C_below HR1.out HB.out) | with_reducible first | refine Kd.C_alloc ?_ _ | refine Kd.C_drewN ?_ _ | refine Kd.C_drew ?_)); (case side4 => exact HC1.out); rintro e w78 ⟨rfl, hb⟩; have n0_ := Aside0.mk (Kd.V_below (by (with_reducible repeat (first | apply Kd.V_alloc | apply Kd.V_drewN | apply Kd.V_drew)); exact HO_13.out) hb); have n1_ := Aside0.mk (Kd.R_below (by (with_reducible repeat (first | apply Kd.R_alloc | apply Kd.R_drewN | apply Kd.R_drew)); exact HO336.out) hb); have n2_ := Aside0.mk (Kd.R_below (by (with_reducible repeat (first | apply Kd.R_alloc | apply Kd.R_drewN | apply Kd.R_drew)); exact HO339.out) hb); have n3_ := Aside0.mk (bst_ hb); clear HO_13; clear HO336; clear HO339; clear HB; have HO_13 := n0_; have HO336 := n1_; have HO339 := n2_; have HB := n3_; clear n0_ n1_ n2_ n3_; (try clear hb); (try clear hb2); (try clear hk); (try clear hi)) | (go_at_call 28; (with_reducible refine (reads_Same.calls k2 _ _ x13_2 _ _ l3 false _ ?side1 ?side2 ?side3 ?side4 A40.out).mono ?_); (case side1 => repeat (first | exact (Kd.V_reads' HO_13.out).2.2 | with_reducible first | refine Kd.C_alloc ?_ _ | refine Kd.C_drewN ?_ _ | refine Kd.C_drew ?_)); (case side2 => exact (Kd.V_reads' HO_13.out).2.1); (case side3 => repeat (first | exact (Kd.C_below HR3.out HB.out) | with_reducible first | refine Kd.C_alloc ?_ _ | refine Kd.C_drewN ?_ _ | refine Kd.C_drew ?_)); (case side4 => exact HC3.out); rintro e w79 ⟨rfl, hb⟩; have n0_ := Aside0.mk (Kd.V_below (by (with_reducible repeat (first | apply Kd.V_alloc | apply Kd.V_drewN | apply Kd.V_drew)); exact HO_13.out) hb); have n1_ := Aside0.mk (Kd.R_below (by (with_reducible repeat (first | apply Kd.R_alloc | apply Kd.R_drewN | apply Kd.R_drew)); exact HO336.out) hb); have n2_ := Aside0.mk (Kd.R_below (by (with_reducible repeat (first | apply Kd.R_alloc | apply Kd.R_drewN | apply Kd.R_drew)); exact HO339.out) hb); have n3_ := Aside0.mk (bst_ hb); clear HO_13; clear HO336; clear HO339; clear HB; have HO_13 := n0_; have HO336 := n1_; have HO339 := n2_; have HB := n3_; clear n0_ n1_ n2_ n3_; (try clear hb); (try clear hb2); (try clear hk); (try clear hi)) | (go_at_call 28; (with_reducible refine (reads_Same.calls k2 _ _ l0 _ _ l3 false _ ?side1 ?side2 ?side3 ?side4 A41.out).mono ?_); (case side1 => repeat (first | exact (Kd.C_below HR0.out HB.out) | with_reducible first | refine Kd.C_alloc ?_ _ | refine Kd.C_drewN ?_ _ | refine Kd.C_drew ?_)); (case side2 => exact HC0.out); (case side3 => repeat (first | exact (Kd.C_below HR3.out HB.out) | with_reducible first | refine Kd.C_alloc ?_ _ | refine Kd.C_drewN ?_ _ | refine Kd.C_drew ?_)); (case side4 => exact HC3.out); rintro e w80 ⟨rfl, hb⟩; have n0_ := Aside0.mk (Kd.V_below (by (with_reducible repeat (first | apply Kd.V_alloc | apply Kd.V_drewN | apply Kd.V_drew)); exact HO_13.out) hb); have n1_ := Aside0.mk (Kd.R_below (by (with_reducible repeat (first | apply Kd.R_alloc | apply Kd.R_drewN | apply Kd.R_drew)); exact HO336.out) hb); have n2_ := Aside0.mk (Kd.R_below (by (with_reducible repeat (first | apply Kd.R_alloc | apply Kd.R_drewN | apply Kd.R_drew)); exact HO339.out) hb); have n3_ := Aside0.mk (bst_ hb); clear HO_13; clear HO336; clear HO339; clear HB; have HO_13 := n0_; have HO336 := n1_; have HO339 := n2_; have HB := n3_; clear n0_ n1_ n2_ n3_; (try clear hb); (try clear hb2); (try clear hk); (try clear hi)))
                        go_meet
                        case rel => exact ⟨_, (false), (by first | rfl | (simp; done) | (simp [*]; done)), H', ⟨by have := HJ6.out; have := HK2.out; first | omega | exact Nat.le_refl _⟩, ⟨by repeat (with_reducible first | exact HB.out | apply below_alloc | apply pw_below_drewN | apply below_drew1)⟩⟩
                  · rw [if_neg c39] at H
                    have c39b0 : (t341 == t342) = false := beq_eq_false_iff_ne.mpr c39
                    have c39b1 : (t341 != t342) = true := bne_iff_ne.mpr c39
                    (first | rw [c39b0] | (simp only [i64_w, i32_w]; rw [c39b0]) | skip)
                    have H' := Aside0.mk H
                    clear H
                    obtain ⟨Ao81, co81, eo81⟩ := Kd.V_slice HO_13.out
                    subst eo81
                    go_wp2_with (first | ((with_reducible refine gate_callee (f := 25) rfl ?_); refine goesL_ (some 78) rfl rfl Try.func25 (by kernel_rfl) rfl #[.slice Ao81 x13_2.length co81] rfl (by (try simp only [List.map_toArray, List.map_cons, List.map_nil]); first | done | rfl) ?_; (with_reducible refine (reads_Cells.calls k2 _ _ x13_2 t334 _ ?side1 ?side2 A33.out).mono ?_); (case side1 => repeat (first | exact (Kd.V_reads' HO_13.out).2.2 | with_reducible first | refine Kd.C_alloc ?_ _ | refine Kd.C_drewN ?_ _ | refine Kd.C_drew ?_)); (case side2 => exact (Kd.V_reads' HO_13.out).2.1); rintro e w82 ⟨v335, rfl, ho0, hb⟩; refine ⟨_, rfl, ?_⟩; have n0_ := Aside0.mk (Kd.V_elder' (by (with_reducible repeat (first | apply Kd.V_alloc | apply Kd.V_drewN | apply Kd.V_drew)); exact HO_13.out) (Kd.R_base ho0) hb); have n1_ := Aside0.mk (Kd.R_lower ho0 bsz_); have n2_ := Aside0.mk (bst_ hb); clear HO_13; clear HB; have HO_13 := n0_; have HO336 := n1_; have HB := n2_; clear n0_ n1_ n2_; (try clear hb); (try clear hb2); (try clear hk); (try clear hi); (try clear ho0)) | ((with_reducible refine gate_callee (f := 25) rfl ?_); refine goesL_ (some 80) rfl rfl Try.func25 (by kernel_rfl) rfl #[.slice A0 l0.length c0] rfl (by (try simp only [List.map_toArray, List.map_cons, List.map_nil]); first | done | rfl) ?_; (with_reducible refine (reads_Cells.calls k2 _ _ l0 t337 _ ?side1 ?side2 A34.out).mono ?_); (case side1 => repeat (first | exact (Kd.C_below HR0.out HB.out) | with_reducible first | refine Kd.C_alloc ?_ _ | refine Kd.C_drewN ?_ _ | refine Kd.C_drew ?_)); (case side2 => exact HC0.out); rintro e w83 ⟨v338, rfl, ho0, hb⟩; refine ⟨_, rfl, ?_⟩; have n0_ := Aside0.mk (Kd.V_elder' (by (with_reducible repeat (first | apply Kd.V_alloc | apply Kd.V_drewN | apply Kd.V_drew)); exact HO_13.out) (Kd.R_base ho0) hb); have n1_ := Aside0.mk (Kd.R_elder' (by (with_reducible repeat (first | apply Kd.R_alloc | apply Kd.R_drewN | apply Kd.R_drew)); exact HO336.out) (Kd.R_base ho0) hb); have n2_ := Aside0.mk (Kd.R_lower (Kd.R_new' ho0 (Kd.R_lt (by (with_reducible repeat (first | apply Kd.R_alloc | apply Kd.R_drewN | apply Kd.R_drew)); exact HO336.out))) bsz_); have n3_ := Aside0.mk (bst_ hb); clear HO_13; clear HO336; clear HB; have HO_13 := n0_; have HO336 := n1_; have HO339 := n2_; have HB := n3_; clear n0_ n1_ n2_ n3_; (try clear hb); (try clear hb2); (try clear hk); (try clear hi); (try clear ho0); obtain ⟨Ao84, co84, eo84⟩ := Kd.R_slice HO336.out; subst eo84; obtain ⟨Ao85, co85, eo85⟩ := Kd.R_slice HO339.out; subst eo85) | ((with_reducible refine gate_callee (f := 24) rfl ?_); refine goesL_ (some 81) rfl rfl Try.func24 (by kernel_rfl) rfl #[.slice Ao84 t334.length co84, .slice Ao85 t337.length co85] rfl (by (try simp only [List.map_toArray, List.map_cons, List.map_nil]); first | done | rfl) ?_; (with_reducible refine (handshakerref03_Numbers.calls k2 _ _ t334 _ _ t337 true _ ?side1 ?side2 ?side3 ?side4 A35.out).mono ?_); (case side1 => repeat (first | exact (Kd.R_reads' HO336.out).2.2 | with_reducible first | refine Kd.C_alloc ?_ _ | refine Kd.C_drewN ?_ _ | refine Kd.C_drew ?_)); (case side2 => exact (Kd.R_reads' HO336.out).2.1); (case side3 => repeat (first | exact (Kd.R_reads' HO339.out).2.2 | with_reducible first | refine Kd.C_alloc ?_ _ | refine Kd.C_drewN ?_ _ | refine Kd.C_drew ?_)); (case side4 => exact (Kd.R_reads' HO339.out).2.1); rintro e w' ⟨rfl, ⟨nd, rfl⟩⟩; refine ⟨_, rfl, ?_⟩) | (go_at_call 26; (with_reducible refine (reads_Valid.calls k2 _ _ x13_2 _ _ l1 a2 t341 _ ?side1 ?side2 ?side3 ?side4 A37.out).mono ?_); (case side1 => repeat (first | exact (Kd.V_reads' HO_13.out).2.2 | with_reducible first | refine Kd.C_alloc ?_ _ | refine Kd.C_drewN ?_ _ | refine Kd.C_drew ?_)); (case side2 => exact (Kd.V_reads' HO_13.out).2.1); (case side3 => repeat (first | exact (Kd.C_below HR1.out (by repeat (with_reducible first | exact HB.out | apply below_alloc | apply pw_below_drewN | apply below_drew1))) | with_reducible first | refine Kd.C_alloc ?_ _ | refine Kd.C_drewN ?_ _ | refine Kd.C_drew ?_)); (case side4 => exact HC1.out); rintro e w86 ⟨rfl, hb⟩; have n0_ := Aside0.mk (Kd.V_below (by (with_reducible repeat (first | apply Kd.V_alloc | apply Kd.V_drewN | apply Kd.V_drew)); exact HO_13.out) hb); have n1_ := Aside0.mk (Kd.R_below (by (with_reducible repeat (first | apply Kd.R_alloc | apply Kd.R_drewN | apply Kd.R_drew)); exact HO336.out) hb); have n2_ := Aside0.mk (Kd.R_below (by (with_reducible repeat (first | apply Kd.R_alloc | apply Kd.R_drewN | apply Kd.R_drew)); exact HO339.out) hb); have n3_ := Aside0.mk (bst_ hb); clear HO_13; clear HO336; clear HO339; clear HB; have HO_13 := n0_; have HO336 := n1_; have HO339 := n2_; have HB := n3_; clear n0_ n1_ n2_ n3_; (try clear hb); (try clear hb2); (try clear hk); (try clear hi)) | (go_at_call 26; (with_reducible refine (reads_Valid.calls k2 _ _ l0 _ _ l1 a2 t342 _ ?side1 ?side2 ?side3 ?side4 A38.out).mono ?_); (case side1 => repeat (first | exact (Kd.C_below HR0.out HB.out) | with_reducible first | refine Kd.C_alloc ?_ _ | refine Kd.C_drewN ?_ _ | refine Kd.C_drew ?_)); (case side2 => exact HC0.out); (case side3 => repeat (first | exact (Kd.C_below HR1.out HB.out) | with_reducible first | refine Kd.C_alloc ?_ _ | refine Kd.C_drewN ?_ _ | refine Kd.C_drew ?_)); (case side4 => exact HC1.out); rintro e w87 ⟨rfl, hb⟩; have n0_ := Aside0.mk (Kd.V_below (by (with_reducible repeat (first | apply Kd.V_alloc | apply Kd.V_drewN | apply Kd.V_drew)); exact HO_13.out) hb); have n1_ := Aside0.mk (Kd.R_below (by (with_reducible repeat (first | apply Kd.R_alloc | apply Kd.R_drewN | apply Kd.R_drew)); exact HO336.out) hb); have n2_ := Aside0.mk (Kd.R_below (by (with_reducible repeat (first | apply Kd.R_alloc | apply Kd.R_drewN | apply Kd.R_drew)); exact HO339.out) hb); have n3_ := Aside0.mk (bst_ hb); clear HO_13; clear HO336; clear HO339; clear HB; have HO_13 := n0_; have HO336 := n1_; have HO339 := n2_; have HB := n3_; clear n0_ n1_ n2_ n3_; (try clear hb); (try clear hb2); (try clear hk); (try clear hi)))
                    go_meet
                    case rel => exact ⟨_, (true), (by first | rfl | (simp; done) | (simp [*]; done)), H', ⟨by have := HJ6.out; have := HK2.out; first | omega | exact Nat.le_refl _⟩, ⟨by repeat (with_reducible first | exact HB.out | apply below_alloc | apply pw_below_drewN | apply below_drew1)⟩⟩
                · replace c36 := Bool.eq_false_iff.mpr c36
                  subst c36
                  have H1 : (handshakerlaw05_ReadsParts.j2 k2 l0 l1 a2 l3 y330 true) = some r := by rw [if_neg (show ¬ (false = true) by decide)] at H; exact H
                  clear H
                  have H := H1
                  clear H1
                  have H' := Aside0.mk H
                  clear H
                  obtain ⟨Ao88, co88, eo88⟩ := Kd.V_slice HO_13.out
                  subst eo88
                  go_wp2_with (first | ((with_reducible refine gate_callee (f := 25) rfl ?_); refine goesL_ (some 78) rfl rfl Try.func25 (by kernel_rfl) rfl #[.slice Ao88 x13_2.length co88] rfl (by (try simp only [List.map_toArray, List.map_cons, List.map_nil]); first | done | rfl) ?_; (with_reducible refine (reads_Cells.calls k2 _ _ x13_2 t334 _ ?side1 ?side2 A33.out).mono ?_); (case side1 => repeat (first | exact (Kd.V_reads' HO_13.out).2.2 | with_reducible first | refine Kd.C_alloc ?_ _ | refine Kd.C_drewN ?_ _ | refine Kd.C_drew ?_)); (case side2 => exact (Kd.V_reads' HO_13.out).2.1); rintro e w89 ⟨v335, rfl, ho0, hb⟩; refine ⟨_, rfl, ?_⟩; have n0_ := Aside0.mk (Kd.V_elder' (by (with_reducible repeat (first | apply Kd.V_alloc | apply Kd.V_drewN | apply Kd.V_drew)); exact HO_13.out) (Kd.R_base ho0) hb); have n1_ := Aside0.mk (Kd.R_lower ho0 bsz_); have n2_ := Aside0.mk (bst_ hb); clear HO_13; clear HB; have HO_13 := n0_; have HO336 := n1_; have HB := n2_; clear n0_ n1_ n2_; (try clear hb); (try clear hb2); (try clear hk); (try clear hi); (try clear ho0)) | ((with_reducible refine gate_callee (f := 25) rfl ?_); refine goesL_ (some 80) rfl rfl Try.func25 (by kernel_rfl) rfl #[.slice A0 l0.length c0] rfl (by (try simp only [List.map_toArray, List.map_cons, List.map_nil]); first | done | rfl) ?_; (with_reducible refine (reads_Cells.calls k2 _ _ l0 t337 _ ?side1 ?side2 A34.out).mono ?_); (case side1 => repeat (first | exact (Kd.C_below HR0.out HB.out) | with_reducible first | refine Kd.C_alloc ?_ _ | refine Kd.C_drewN ?_ _ | refine Kd.C_drew ?_)); (case side2 => exact HC0.out); rintro e w90 ⟨v338, rfl, ho0, hb⟩; refine ⟨_, rfl, ?_⟩; have n0_ := Aside0.mk (Kd.V_elder' (by (with_reducible repeat (first | apply Kd.V_alloc | apply Kd.V_drewN | apply Kd.V_drew)); exact HO_13.out) (Kd.R_base ho0) hb); have n1_ := Aside0.mk (Kd.R_elder' (by (with_reducible repeat (first | apply Kd.R_alloc | apply Kd.R_drewN | apply Kd.R_drew)); exact HO336.out) (Kd.R_base ho0) hb); have n2_ := Aside0.mk (Kd.R_lower (Kd.R_new' ho0 (Kd.R_lt (by (with_reducible repeat (first | apply Kd.R_alloc | apply Kd.R_drewN | apply Kd.R_drew)); exact HO336.out))) bsz_); have n3_ := Aside0.mk (bst_ hb); clear HO_13; clear HO336; clear HB; have HO_13 := n0_; have HO336 := n1_; have HO339 := n2_; have HB := n3_; clear n0_ n1_ n2_ n3_; (try clear hb); (try clear hb2); (try clear hk); (try clear hi); (try clear ho0); obtain ⟨Ao91, co91, eo91⟩ := Kd.R_slice HO336.out; subst eo91; obtain ⟨Ao92, co92, eo92⟩ := Kd.R_slice HO339.out; subst eo92) | ((with_reducible refine gate_callee (f := 24) rfl ?_); refine goesL_ (some 81) rfl rfl Try.func24 (by kernel_rfl) rfl #[.slice Ao91 t334.length co91, .slice Ao92 t337.length co92] rfl (by (try simp only [List.map_toArray, List.map_cons, List.map_nil]); first | done | rfl) ?_; (with_reducible refine (handshakerref03_Numbers.calls k2 _ _ t334 _ _ t337 false _ ?side1 ?side2 ?side3 ?side4 A35.out).mono ?_); (case side1 => repeat (first | exact (Kd.R_reads' HO336.out).2.2 | with_reducible first | refine Kd.C_alloc ?_ _ | refine Kd.C_drewN ?_ _ | refine Kd.C_drew ?_)); (case side2 => exact (Kd.R_reads' HO336.out).2.1); (case side3 => repeat (first | exact (Kd.R_reads' HO339.out).2.2 | with_reducible first | refine Kd.C_alloc ?_ _ | refine Kd.C_drewN ?_ _ | refine Kd.C_drew ?_)); (case side4 => exact (Kd.R_reads' HO339.out).2.1); rintro e w' ⟨rfl, ⟨nd, rfl⟩⟩; refine ⟨_, rfl, ?_⟩))
                  go_meet
                  case rel => exact ⟨_, (true), (by first | rfl | (simp; done) | (simp [*]; done)), H', ⟨by have := HJ6.out; have := HK2.out; first | omega | exact Nat.le_refl _⟩, ⟨by repeat (with_reducible first | exact HB.out | apply below_alloc | apply pw_below_drewN | apply below_drew1)⟩⟩
               case rest =>
                clear HC31
                try clear c1
                try clear c2
                try clear p2
                try clear c3
                try clear p3
                try clear q3
                try clear hx3
                try clear c4
                try clear c6
                try clear p6
                try clear c8
                try clear c8b0
                try clear c8b1
                try clear c9
                try clear c9b0
                try clear c9b1
                try clear c10
                try clear c10b0
                try clear c10b1
                try clear c12
                try clear c15
                try clear c16
                try clear c18
                try clear c18b0
                try clear c19
                try clear c19b0
                try clear c19b1
                try clear c19b2
                try clear c21
                try clear c21b0
                try clear c22
                try clear c22b0
                try clear c24
                try clear c24b0
                try clear c24b1
                try clear c25
                try clear c27
                try clear c27b0
                try clear c27b1
                try clear c29
                try clear c29b0
                try clear c29b1
                try clear c30
                try clear c30b0
                try clear c30b1
                try clear p32
                try clear q32
                try clear hx32
                try clear c36
                try clear c39
                try clear c39b0
                try clear c39b1
                try clear c42
                try clear c43
                try clear c62
                try clear p64
                try clear hx325_0
                try clear hx325_1
                try clear hx325_2
                try clear p2
                try clear p325
                try clear q32
                try clear q325
                obtain ⟨kq, x102_30, rfl, HA, HJ30, HB⟩ := hcut
                cases kq with
                | zero => exact absurd HA.out (by simp [handshakerlaw05_ReadsParts.j2])
                | succ kj30 =>
                 have H := HA.out
                 clear HA
                 simp only [handshakerlaw05_ReadsParts.j2] at H
                 by_cases c93 : x102_30 = true
                 · subst c93
                   have H1 : (some false) = some r := by rw [if_pos rfl] at H; exact H
                   clear H
                   have H := H1
                   clear H1
                   exact absurd (Option.some.inj H) (by rw [HT.out]; decide)
                 · replace c93 := Bool.eq_false_iff.mpr c93
                   subst c93
                   have H1 : ((reads_Valid.f kj30 l0 l1 a2).bind fun t345 => (if t345 = 0 then ((reads_Valid.f kj30 y330 l1 a2).bind fun t346 => (if t346 = 0 then ((reads_Same.f kj30 l0 l3).bind fun t347 => (if t347 = true then ((reads_Same.f kj30 y330 l3).bind fun t348 => (if t348 = true then ((handshakerlaw05_awake.f kj30).bind fun t349 => (some t349)) else (some false))) else ((handshakerlaw05_awake.f kj30).bind fun t350 => (some t350)))) else (some false))) else ((reads_Same.f kj30 l0 l3).bind fun t351 => (if t351 = true then ((reads_Same.f kj30 y330 l3).bind fun t352 => (if t352 = true then ((handshakerlaw05_awake.f kj30).bind fun t353 => (some t353)) else (some false))) else ((handshakerlaw05_awake.f kj30).bind fun t354 => (some t354)))))) = some r := by rw [if_neg (show ¬ (false = true) by decide)] at H; exact H
                   clear H
                   have H := H1
                   clear H1
                   replace H := Option.bind_eq_some_iff.mp H
                   obtain ⟨t345, A940, H⟩ := H
                   replace H : (if t345 = 0 then ((reads_Valid.f kj30 y330 l1 a2).bind fun t346 => (if t346 = 0 then ((reads_Same.f kj30 l0 l3).bind fun t347 => (if t347 = true then ((reads_Same.f kj30 y330 l3).bind fun t348 => (if t348 = true then ((handshakerlaw05_awake.f kj30).bind fun t349 => (some t349)) else (some false))) else ((handshakerlaw05_awake.f kj30).bind fun t350 => (some t350)))) else (some false))) else ((reads_Same.f kj30 l0 l3).bind fun t351 => (if t351 = true then ((reads_Same.f kj30 y330 l3).bind fun t352 => (if t352 = true then ((handshakerlaw05_awake.f kj30).bind fun t353 => (some t353)) else (some false))) else ((handshakerlaw05_awake.f kj30).bind fun t354 => (some t354))))) = some r := H
                   have A94 := Aside0.mk A940
                   clear A940
                   by_cases c95 : t345 = 0
                   · rw [if_pos c95] at H
                     have c95b0 : (t345 == 0) = true := beq_iff_eq.mpr c95
                     have c95b1 : (t345 != 0) = false := bne_eq_false_iff_eq.mpr c95
                     clear c95
                     replace H := Option.bind_eq_some_iff.mp H
                     obtain ⟨t346, A960, H⟩ := H
                     replace H : (if t346 = 0 then ((reads_Same.f kj30 l0 l3).bind fun t347 => (if t347 = true then ((reads_Same.f kj30 y330 l3).bind fun t348 => (if t348 = true then ((handshakerlaw05_awake.f kj30).bind fun t349 => (some t349)) else (some false))) else ((handshakerlaw05_awake.f kj30).bind fun t350 => (some t350)))) else (some false)) = some r := H
                     have A96 := Aside0.mk A960
                     clear A960
                     by_cases c97 : t346 = 0
                     · rw [if_pos c97] at H
                       have c97b0 : (t346 == 0) = true := beq_iff_eq.mpr c97
                       have c97b1 : (t346 != 0) = false := bne_eq_false_iff_eq.mpr c97
                       clear c97
                       replace H := Option.bind_eq_some_iff.mp H
                       obtain ⟨t347, A980, H⟩ := H
                       replace H : (if t347 = true then ((reads_Same.f kj30 y330 l3).bind fun t348 => (if t348 = true then ((handshakerlaw05_awake.f kj30).bind fun t349 => (some t349)) else (some false))) else ((handshakerlaw05_awake.f kj30).bind fun t350 => (some t350))) = some r := H
                       have A98 := Aside0.mk A980
                       clear A980
                       by_cases c99 : t347 = true
                       · subst c99
                         have H1 : ((reads_Same.f kj30 y330 l3).bind fun t348 => (if t348 = true then ((handshakerlaw05_awake.f kj30).bind fun t349 => (some t349)) else (some false))) = some r := by rw [if_pos rfl] at H; exact H
                         clear H
                         have H := H1
                         clear H1
                         replace H := Option.bind_eq_some_iff.mp H
                         obtain ⟨t348, A1000, H⟩ := H
                         replace H : (if t348 = true then ((handshakerlaw05_awake.f kj30).bind fun t349 => (some t349)) else (some false)) = some r := H
                         have A100 := Aside0.mk A1000
                         clear A1000
                         by_cases c101 : t348 = true
                         · subst c101
                           have H1 : ((handshakerlaw05_awake.f kj30).bind fun t349 => (some t349)) = some r := by rw [if_pos rfl] at H; exact H
                           clear H
                           have H := H1
                           clear H1
                           replace H := Option.bind_eq_some_iff.mp H
                           obtain ⟨t349, A1020, H⟩ := H
                           replace H : (some t349) = some r := H
                           have A102 := Aside0.mk A1020
                           clear A1020
                           obtain rfl := Option.some.inj H
                           go_wp2_with (first | ((with_reducible refine gate_callee (f := 26) rfl ?_); refine goesL_ (some 106) rfl rfl Try.func26 (by kernel_rfl) rfl #[.slice A0 l0.length c0, .slice A1 l1.length c1, .int .i64 a2] rfl (by (try simp only [List.map_toArray, List.map_cons, List.map_nil]); first | done | rfl) ?_; (with_reducible refine (reads_Valid.calls kj30 _ _ l0 _ _ l1 a2 t345 _ ?side1 ?side2 ?side3 ?side4 A94.out).mono ?_); (case side1 => repeat (first | exact (Kd.C_below HR0.out HB.out) | with_reducible first | refine Kd.C_alloc ?_ _ | refine Kd.C_drewN ?_ _ | refine Kd.C_drew ?_)); (case side2 => exact HC0.out); (case side3 => repeat (first | exact (Kd.C_below HR1.out HB.out) | with_reducible first | refine Kd.C_alloc ?_ _ | refine Kd.C_drewN ?_ _ | refine Kd.C_drew ?_)); (case side4 => exact HC1.out); rintro e w103 ⟨rfl, hb⟩; refine ⟨_, rfl, ?_⟩; have n0_ := Aside0.mk (bst_ hb); clear HB; have HB := n0_; clear n0_; (try clear hb); (try clear hb2); (try clear hk); (try clear hi)) | (go_at_call 26; (with_reducible refine (reads_Valid.calls kj30 _ _ y330 _ _ l1 a2 t346 _ ?side1 ?side2 ?side3 ?side4 A96.out).mono ?_); (case side1 => repeat (first | exact (Kd.C_below HR333.out HB.out) | with_reducible first | refine Kd.C_alloc ?_ _ | refine Kd.C_drewN ?_ _ | refine Kd.C_drew ?_)); (case side2 => exact HC333.out); (case side3 => repeat (first | exact (Kd.C_below HR1.out HB.out) | with_reducible first | refine Kd.C_alloc ?_ _ | refine Kd.C_drewN ?_ _ | refine Kd.C_drew ?_)); (case side4 => exact HC1.out); rintro e w104 ⟨rfl, hb⟩; have n0_ := Aside0.mk (bst_ hb); clear HB; have HB := n0_; clear n0_; (try clear hb); (try clear hb2); (try clear hk); (try clear hi)) | (go_at_call 28; (with_reducible refine (reads_Same.calls kj30 _ _ l0 _ _ l3 true _ ?side1 ?side2 ?side3 ?side4 A98.out).mono ?_); (case side1 => repeat (first | exact (Kd.C_below HR0.out HB.out) | with_reducible first | refine Kd.C_alloc ?_ _ | refine Kd.C_drewN ?_ _ | refine Kd.C_drew ?_)); (case side2 => exact HC0.out); (case side3 => repeat (first | exact (Kd.C_below HR3.out HB.out) | with_reducible first | refine Kd.C_alloc ?_ _ | refine Kd.C_drewN ?_ _ | refine Kd.C_drew ?_)); (case side4 => exact HC3.out); rintro e w105 ⟨rfl, hb⟩; have n0_ := Aside0.mk (bst_ hb); clear HB; have HB := n0_; clear n0_; (try clear hb); (try clear hb2); (try clear hk); (try clear hi)) | (go_at_call 28; (with_reducible refine (reads_Same.calls kj30 _ _ y330 _ _ l3 true _ ?side1 ?side2 ?side3 ?side4 A100.out).mono ?_); (case side1 => repeat (first | exact (Kd.C_below HR333.out HB.out) | with_reducible first | refine Kd.C_alloc ?_ _ | refine Kd.C_drewN ?_ _ | refine Kd.C_drew ?_)); (case side2 => exact HC333.out); (case side3 => repeat (first | exact (Kd.C_below HR3.out HB.out) | with_reducible first | refine Kd.C_alloc ?_ _ | refine Kd.C_drewN ?_ _ | refine Kd.C_drew ?_)); (case side4 => exact HC3.out); rintro e w106 ⟨rfl, hb⟩; have n0_ := Aside0.mk (bst_ hb); clear HB; have HB := n0_; clear n0_; (try clear hb); (try clear hb2); (try clear hk); (try clear hi)) | (go_at_call 15; (with_reducible refine (handshakerlaw05_awake.calls kj30  t349 _ A102.out).mono ?_); rintro e w107 ⟨rfl, hb⟩; have n0_ := Aside0.mk (bst_ hb); clear HB; have HB := n0_; clear n0_; (try clear hb); (try clear hb2); (try clear hk); (try clear hi)))
                           go_ret
                           exact ⟨by first | rfl | (simp [errW_none, errW_some] <;> rfl) | (simp only [← hji28]; first | rfl | (simp [errW_none, errW_some] <;> rfl)) | (simp [*, errW_none, errW_some] <;> rfl), by repeat (with_reducible first | exact HB.out | apply below_alloc | apply pw_below_drewN | apply below_drew1)⟩
                         · replace c101 := Bool.eq_false_iff.mpr c101
                           subst c101
                           have H1 : (some false) = some r := by rw [if_neg (show ¬ (false = true) by decide)] at H; exact H
                           clear H
                           have H := H1
                           clear H1
                           exact absurd (Option.some.inj H) (by rw [HT.out]; decide)
                       · replace c99 := Bool.eq_false_iff.mpr c99
                         subst c99
                         have H1 : ((handshakerlaw05_awake.f kj30).bind fun t350 => (some t350)) = some r := by rw [if_neg (show ¬ (false = true) by decide)] at H; exact H
                         clear H
                         have H := H1
                         clear H1
                         replace H := Option.bind_eq_some_iff.mp H
                         obtain ⟨t350, A1080, H⟩ := H
                         replace H : (some t350) = some r := H
                         have A108 := Aside0.mk A1080
                         clear A1080
                         obtain rfl := Option.some.inj H
                         go_wp2_with (first | ((with_reducible refine gate_callee (f := 26) rfl ?_); refine goesL_ (some 106) rfl rfl Try.func26 (by kernel_rfl) rfl #[.slice A0 l0.length c0, .slice A1 l1.length c1, .int .i64 a2] rfl (by (try simp only [List.map_toArray, List.map_cons, List.map_nil]); first | done | rfl) ?_; (with_reducible refine (reads_Valid.calls kj30 _ _ l0 _ _ l1 a2 t345 _ ?side1 ?side2 ?side3 ?side4 A94.out).mono ?_); (case side1 => repeat (first | exact (Kd.C_below HR0.out HB.out) | with_reducible first | refine Kd.C_alloc ?_ _ | refine Kd.C_drewN ?_ _ | refine Kd.C_drew ?_)); (case side2 => exact HC0.out); (case side3 => repeat (first | exact (Kd.C_below HR1.out HB.out) | with_reducible first | refine Kd.C_alloc ?_ _ | refine Kd.C_drewN ?_ _ | refine Kd.C_drew ?_)); (case side4 => exact HC1.out); rintro e w109 ⟨rfl, hb⟩; refine ⟨_, rfl, ?_⟩; have n0_ := Aside0.mk (bst_ hb); clear HB; have HB := n0_; clear n0_; (try clear hb); (try clear hb2); (try clear hk); (try clear hi)) | (go_at_call 26; (with_reducible refine (reads_Valid.calls kj30 _ _ y330 _ _ l1 a2 t346 _ ?side1 ?side2 ?side3 ?side4 A96.out).mono ?_); (case side1 => repeat (first | exact (Kd.C_below HR333.out HB.out) | with_reducible first | refine Kd.C_alloc ?_ _ | refine Kd.C_drewN ?_ _ | refine Kd.C_drew ?_)); (case side2 => exact HC333.out); (case side3 => repeat (first | exact (Kd.C_below HR1.out HB.out) | with_reducible first | refine Kd.C_alloc ?_ _ | refine Kd.C_drewN ?_ _ | refine Kd.C_drew ?_)); (case side4 => exact HC1.out); rintro e w110 ⟨rfl, hb⟩; have n0_ := Aside0.mk (bst_ hb); clear HB; have HB := n0_; clear n0_; (try clear hb); (try clear hb2); (try clear hk); (try clear hi)) | (go_at_call 28; (with_reducible refine (reads_Same.calls kj30 _ _ l0 _ _ l3 false _ ?side1 ?side2 ?side3 ?side4 A98.out).mono ?_); (case side1 => repeat (first | exact (Kd.C_below HR0.out HB.out) | with_reducible first | refine Kd.C_alloc ?_ _ | refine Kd.C_drewN ?_ _ | refine Kd.C_drew ?_)); (case side2 => exact HC0.out); (case side3 => repeat (first | exact (Kd.C_below HR3.out HB.out) | with_reducible first | refine Kd.C_alloc ?_ _ | refine Kd.C_drewN ?_ _ | refine Kd.C_drew ?_)); (case side4 => exact HC3.out); rintro e w111 ⟨rfl, hb⟩; have n0_ := Aside0.mk (bst_ hb); clear HB; have HB := n0_; clear n0_; (try clear hb); (try clear hb2); (try clear hk); (try clear hi)) | (go_at_call 15; (with_reducible refine (handshakerlaw05_awake.calls kj30  t350 _ A108.out).mono ?_); rintro e w112 ⟨rfl, hb⟩; have n0_ := Aside0.mk (bst_ hb); clear HB; have HB := n0_; clear n0_; (try clear hb); (try clear hb2); (try clear hk); (try clear hi)))
                         go_ret
                         exact ⟨by first | rfl | (simp [errW_none, errW_some] <;> rfl) | (simp only [← hji28]; first | rfl | (simp [errW_none, errW_some] <;> rfl)) | (simp [*, errW_none, errW_some] <;> rfl), by repeat (with_reducible first | exact HB.out | apply below_alloc | apply pw_below_drewN | apply below_drew1)⟩
                     · rw [if_neg c97] at H
                       have c97b0 : (t346 == 0) = false := beq_eq_false_iff_ne.mpr c97
                       have c97b1 : (t346 != 0) = true := bne_iff_ne.mpr c97
                       exact absurd (Option.some.inj H) (by rw [HT.out]; decide)
                   · rw [if_neg c95] at H
                     have c95b0 : (t345 == 0) = false := beq_eq_false_iff_ne.mpr c95
                     have c95b1 : (t345 != 0) = true := bne_iff_ne.mpr c95
                     replace H := Option.bind_eq_some_iff.mp H
                     obtain ⟨t351, A1130, H⟩ := H
                     replace H : (if t351 = true then ((reads_Same.f kj30 y330 l3).bind fun t352 => (if t352 = true then ((handshakerlaw05_awake.f kj30).bind fun t353 => (some t353)) else (some false))) else ((handshakerlaw05_awake.f kj30).bind fun t354 => (some t354))) = some r := H
                     have A113 := Aside0.mk A1130
                     clear A1130
                     by_cases c114 : t351 = true
                     · subst c114
                       have H1 : ((reads_Same.f kj30 y330 l3).bind fun t352 => (if t352 = true then ((handshakerlaw05_awake.f kj30).bind fun t353 => (some t353)) else (some false))) = some r := by rw [if_pos rfl] at H; exact H
                       clear H
                       have H := H1
                       clear H1
                       replace H := Option.bind_eq_some_iff.mp H
                       obtain ⟨t352, A1150, H⟩ := H
                       replace H : (if t352 = true then ((handshakerlaw05_awake.f kj30).bind fun t353 => (some t353)) else (some false)) = some r := H
                       have A115 := Aside0.mk A1150
                       clear A1150
                       by_cases c116 : t352 = true
                       · subst c116
                         have H1 : ((handshakerlaw05_awake.f kj30).bind fun t353 => (some t353)) = some r := by rw [if_pos rfl] at H; exact H
                         clear H
                         have H := H1
                         clear H1
                         replace H := Option.bind_eq_some_iff.mp H
                         obtain ⟨t353, A1170, H⟩ := H
                         replace H : (some t353) = some r := H
                         have A117 := Aside0.mk A1170
                         clear A1170
                         obtain rfl := Option.some.inj H
                         go_wp2_with (first | ((with_reducible refine gate_callee (f := 26) rfl ?_); refine goesL_ (some 106) rfl rfl Try.func26 (by kernel_rfl) rfl #[.slice A0 l0.length c0, .slice A1 l1.length c1, .int .i64 a2] rfl (by (try simp only [List.map_toArray, List.map_cons, List.map_nil]); first | done | rfl) ?_; (with_reducible refine (reads_Valid.calls kj30 _ _ l0 _ _ l1 a2 t345 _ ?side1 ?side2 ?side3 ?side4 A94.out).mono ?_); (case side1 => repeat (first | exact (Kd.C_below HR0.out HB.out) | with_reducible first | refine Kd.C_alloc ?_ _ | refine Kd.C_drewN ?_ _ | refine Kd.C_drew ?_)); (case side2 => exact HC0.out); (case side3 => repeat (first | exact (Kd.C_below HR1.out HB.out) | with_reducible first | refine Kd.C_alloc ?_ _ | refine Kd.C_drewN ?_ _ | refine Kd.C_drew ?_)); (case side4 => exact HC1.out); rintro e w118 ⟨rfl, hb⟩; refine ⟨_, rfl, ?_⟩; have n0_ := Aside0.mk (bst_ hb); clear HB; have HB := n0_; clear n0_; (try clear hb); (try clear hb2); (try clear hk); (try clear hi)) | (go_at_call 28; (with_reducible refine (reads_Same.calls kj30 _ _ l0 _ _ l3 true _ ?side1 ?side2 ?side3 ?side4 A113.out).mono ?_); (case side1 => repeat (first | exact (Kd.C_below HR0.out HB.out) | with_reducible first | refine Kd.C_alloc ?_ _ | refine Kd.C_drewN ?_ _ | refine Kd.C_drew ?_)); (case side2 => exact HC0.out); (case side3 => repeat (first | exact (Kd.C_below HR3.out HB.out) | with_reducible first | refine Kd.C_alloc ?_ _ | refine Kd.C_drewN ?_ _ | refine Kd.C_drew ?_)); (case side4 => exact HC3.out); rintro e w119 ⟨rfl, hb⟩; have n0_ := Aside0.mk (bst_ hb); clear HB; have HB := n0_; clear n0_; (try clear hb); (try clear hb2); (try clear hk); (try clear hi)) | (go_at_call 28; (with_reducible refine (reads_Same.calls kj30 _ _ y330 _ _ l3 true _ ?side1 ?side2 ?side3 ?side4 A115.out).mono ?_); (case side1 => repeat (first | exact (Kd.C_below HR333.out HB.out) | with_reducible first | refine Kd.C_alloc ?_ _ | refine Kd.C_drewN ?_ _ | refine Kd.C_drew ?_)); (case side2 => exact HC333.out); (case side3 => repeat (first | exact (Kd.C_below HR3.out HB.out) | with_reducible first | refine Kd.C_alloc ?_ _ | refine Kd.C_drewN ?_ _ | refine Kd.C_drew ?_)); (case side4 => exact HC3.out); rintro e w120 ⟨rfl, hb⟩; have n0_ := Aside0.mk (bst_ hb); clear HB; have HB := n0_; clear n0_; (try clear hb); (try clear hb2); (try clear hk); (try clear hi)) | (go_at_call 15; (with_reducible refine (handshakerlaw05_awake.calls kj30  t353 _ A117.out).mono ?_); rintro e w121 ⟨rfl, hb⟩; have n0_ := Aside0.mk (bst_ hb); clear HB; have HB := n0_; clear n0_; (try clear hb); (try clear hb2); (try clear hk); (try clear hi)))
                         go_ret
                         exact ⟨by first | rfl | (simp [errW_none, errW_some] <;> rfl) | (simp only [← hji28]; first | rfl | (simp [errW_none, errW_some] <;> rfl)) | (simp [*, errW_none, errW_some] <;> rfl), by repeat (with_reducible first | exact HB.out | apply below_alloc | apply pw_below_drewN | apply below_drew1)⟩
                       · replace c116 := Bool.eq_false_iff.mpr c116
                         subst c116
                         have H1 : (some false) = some r := by rw [if_neg (show ¬ (false = true) by decide)] at H; exact H
                         clear H
                         have H := H1
                         clear H1
                         exact absurd (Option.some.inj H) (by rw [HT.out]; decide)
                     · replace c114 := Bool.eq_false_iff.mpr c114
                       subst c114
                       have H1 : ((handshakerlaw05_awake.f kj30).bind fun t354 => (some t354)) = some r := by rw [if_neg (show ¬ (false = true) by decide)] at H; exact H
                       clear H
                       have H := H1
                       clear H1
                       replace H := Option.bind_eq_some_iff.mp H
                       obtain ⟨t354, A1220, H⟩ := H
                       replace H : (some t354) = some r := H
                       have A122 := Aside0.mk A1220
                       clear A1220
                       obtain rfl := Option.some.inj H
                       go_wp2_with (first | ((with_reducible refine gate_callee (f := 26) rfl ?_); refine goesL_ (some 106) rfl rfl Try.func26 (by kernel_rfl) rfl #[.slice A0 l0.length c0, .slice A1 l1.length c1, .int .i64 a2] rfl (by (try simp only [List.map_toArray, List.map_cons, List.map_nil]); first | done | rfl) ?_; (with_reducible refine (reads_Valid.calls kj30 _ _ l0 _ _ l1 a2 t345 _ ?side1 ?side2 ?side3 ?side4 A94.out).mono ?_); (case side1 => repeat (first | exact (Kd.C_below HR0.out HB.out) | with_reducible first | refine Kd.C_alloc ?_ _ | refine Kd.C_drewN ?_ _ | refine Kd.C_drew ?_)); (case side2 => exact HC0.out); (case side3 => repeat (first | exact (Kd.C_below HR1.out HB.out) | with_reducible first | refine Kd.C_alloc ?_ _ | refine Kd.C_drewN ?_ _ | refine Kd.C_drew ?_)); (case side4 => exact HC1.out); rintro e w123 ⟨rfl, hb⟩; refine ⟨_, rfl, ?_⟩; have n0_ := Aside0.mk (bst_ hb); clear HB; have HB := n0_; clear n0_; (try clear hb); (try clear hb2); (try clear hk); (try clear hi)) | (go_at_call 28; (with_reducible refine (reads_Same.calls kj30 _ _ l0 _ _ l3 false _ ?side1 ?side2 ?side3 ?side4 A113.out).mono ?_); (case side1 => repeat (first | exact (Kd.C_below HR0.out HB.out) | with_reducible first | refine Kd.C_alloc ?_ _ | refine Kd.C_drewN ?_ _ | refine Kd.C_drew ?_)); (case side2 => exact HC0.out); (case side3 => repeat (first | exact (Kd.C_below HR3.out HB.out) | with_reducible first | refine Kd.C_alloc ?_ _ | refine Kd.C_drewN ?_ _ | refine Kd.C_drew ?_)); (case side4 => exact HC3.out); rintro e w124 ⟨rfl, hb⟩; have n0_ := Aside0.mk (bst_ hb); clear HB; have HB := n0_; clear n0_; (try clear hb); (try clear hb2); (try clear hk); (try clear hi)) | (go_at_call 15; (with_reducible refine (handshakerlaw05_awake.calls kj30  t354 _ A122.out).mono ?_); rintro e w125 ⟨rfl, hb⟩; have n0_ := Aside0.mk (bst_ hb); clear HB; have HB := n0_; clear n0_; (try clear hb); (try clear hb2); (try clear hk); (try clear hi)))
                       go_ret
                       exact ⟨by first | rfl | (simp [errW_none, errW_some] <;> rfl) | (simp only [← hji28]; first | rfl | (simp [errW_none, errW_some] <;> rfl)) | (simp [*, errW_none, errW_some] <;> rfl), by repeat (with_reducible first | exact HB.out | apply below_alloc | apply pw_below_drewN | apply below_drew1)⟩
             · rw [if_neg c30] at H
               exact absurd H (by simp)
           · rw [if_neg c29] at H
             exact absurd H (by simp)

/-- THE ONE PURE STATEMENT of handshakerlaw05_ReadsParts. -/
def handshakerlaw05_ReadsParts.Pure : Prop := ∀ (l0 : List (S24)) (l1 : List (S67)) (a2 : Int) (l3 : List (S73)) (a4 : Int) (a5 : Int), l0.length ≤ maxLen → l0.length * 24 ≤ 140737488351232 → (∀ y ∈ l0, wfS24 y) → l1.length ≤ maxLen → l1.length * 16 ≤ 140737488351232 → (∀ y ∈ l1, wfS67 y) → (Lit.int .i64 a2).wf = true → l3.length ≤ maxLen → l3.length * 16 ≤ 140737488351232 → (∀ y ∈ l3, wfS73 y) → (Lit.int .u8 a4).wf = true → (Lit.int .u8 a5).wf = true → ∃ k, handshakerlaw05_ReadsParts.f k l0 l1 a2 l3 a4 a5 = some true

end Go.Proofs.Ytlfmobnmohnjmaa.R
