-- PRINTED by print.py (a twelfth state) out of the translation. Not trusted: Lean checks it.
import Derived.Test.YtihcnbhcemkncaaAx0
import Derived.Test.YtihcnbhcemkncaaAx3
import Derived.Test.YtihcnbhcemkncaaAx4
import Derived.Test.YtihcnbhcemkncaaAx7
import Derived.Test.YtihcnbhcemkncaaAx8
import Derived.Test.YtihcnbhcemkncaaAx15
namespace Go.Proofs.Ytihcnbhcemkncaa.A
open Go.Proofs.Ytihcnbhcemkncaa.Ho
open Go.RowKit Go.Proofs.YtihcnbhcemkncaaW.PrintWords Go.Proofs.YtihcnbhcemkncaaW.PrintLast Go.Proofs.YtihcnbhcemkncaaW.PrintMore
attribute [local go_sem] max2_int min2_int max_two min_two max_three min_three max_four min_four   -- for this text's walks alone
set_option linter.unusedVariables false
set_option linter.unusedSimpArgs false

/-! ### handshakerlaw22_AfterOrder: function 5 -/
mutual
def handshakerlaw22_AfterOrder.j0 : Nat → List (S25) → List (S66) → Int → Bool → Option (Bool)
 | 0, _, _, _, _ => none
 | k + 1, x0, x1, x2, x33 => if x33 = true then ((handshakerlaw22_awake.f k).bind fun t535 => (some t535)) else (handshakerlaw22_AfterOrder.l0 k x0 x1 x2 ([] : List Int) ([] : List Int) (x0.length : Int) 0)
def handshakerlaw22_AfterOrder.l0 : Nat → List (S25) → List (S66) → Int → List Int → List Int → Int → Int → Option (Bool)
 | 0, _, _, _, _, _, _, _ => none
 | k + 1, x0, x1, x2, x7, x8, x36, x37 => if x37 < x36 then (if 0 ≤ x37 then (if x37 < (x0.length : Int) then (if x7.length < 17592186044416 then (if (x0.length : Int) = 0 then (none) else (if 0 ≤ (Int.tmod (wrap64 ((wrap64 ((x0.length : Int) - x37)) + (wrap64 (x2)))) (x0.length : Int)) then (if (Int.tmod (wrap64 ((wrap64 ((x0.length : Int) - x37)) + (wrap64 (x2)))) (x0.length : Int)) < (x0.length : Int) then (if x8.length < 17592186044416 then (handshakerlaw22_AfterOrder.l0 k x0 x1 x2 (x7 ++ [(rd_T25 x0 x37).f0]) (x8 ++ [(rd_T25 x0 (Int.tmod (wrap64 ((wrap64 ((x0.length : Int) - x37)) + (wrap64 (x2)))) (x0.length : Int))).f0]) x36 (wrap64 (x37 + 1))) else (none)) else (none)) else (none))) else (none)) else (none)) else (none)) else ((after_All.f k x0 x1 x7).bind fun bt544 => ((after_All.f k x0 x1 x8).bind fun bt551 => (if bt544.2.2 = bt551.2.2 then ((handshakerlaw22_Refs.f k bt544.1).bind fun t558 => ((handshakerlaw22_Refs.f k bt551.1).bind fun t561 => ((handshakerref22_Same.f k t558 t561).bind fun t564 => (if t564 = true then ((handshakerref02_Same.f k bt544.2.1 bt551.2.1).bind fun t565 => (if t565 = true then (if bt544.2.2 = 0 then (if (bt544.1.length : Int) = 0 then ((handshakerlaw22_awake.f k).bind fun t566 => (some t566)) else (some false)) else ((handshakerlaw22_awake.f k).bind fun t567 => (some t567))) else (some false))) else (some false))))) else (some false))))
end
def handshakerlaw22_AfterOrder.f (k : Nat) (l0 : List (S25)) (l1 : List (S66)) (a2 : Int) : Option (Bool) := (handshakerlaw22_small.f k l0).bind fun t533 => (if t533 = true then (if (l1.length : Int) > 64 then (handshakerlaw22_AfterOrder.j0 k l0 l1 a2 true) else ((after_Right.f k l0).bind fun t534 => (if t534 = true then (handshakerlaw22_AfterOrder.j0 k l0 l1 a2 ((l0.length : Int) == 0)) else (handshakerlaw22_AfterOrder.j0 k l0 l1 a2 true)))) else (handshakerlaw22_AfterOrder.j0 k l0 l1 a2 true))
theorem handshakerlaw22_AfterOrder.mono_l : ∀ k, (∀ y0 y1 y2 y3, LeO (handshakerlaw22_AfterOrder.j0 k y0 y1 y2 y3) (handshakerlaw22_AfterOrder.j0 (k + 1) y0 y1 y2 y3)) ∧ (∀ y0 y1 y2 y3 y4 y5 y6, LeO (handshakerlaw22_AfterOrder.l0 k y0 y1 y2 y3 y4 y5 y6) (handshakerlaw22_AfterOrder.l0 (k + 1) y0 y1 y2 y3 y4 y5 y6))
 | 0 => ⟨fun _ _ _ _ r h => by simp [handshakerlaw22_AfterOrder.j0] at h, fun _ _ _ _ _ _ _ r h => by simp [handshakerlaw22_AfterOrder.l0] at h⟩
 | k + 1 => by
  obtain ⟨ih0, ih1⟩ := handshakerlaw22_AfterOrder.mono_l k
  refine ⟨?_, ?_⟩
  · intro y0 y1 y2 y3
    unfold handshakerlaw22_AfterOrder.j0
    repeat' first
    | (with_reducible exact ih0 _ _ _ _)
    | (with_reducible exact ih1 _ _ _ _ _ _ _)
    | (with_reducible exact after_All.mono _ _ _ _)
    | (with_reducible exact after_Right.mono _ _)
    | (with_reducible exact handshakerlaw22_Refs.mono _ _)
    | (with_reducible exact handshakerlaw22_awake.mono _)
    | (with_reducible exact handshakerlaw22_small.mono _ _)
    | (with_reducible exact handshakerref02_Same.mono _ _ _)
    | (with_reducible exact handshakerref22_Same.mono _ _ _)
    | (with_reducible exact LeO.refl _)
    | (with_reducible exact LeO.none _)
    | (with_reducible refine LeO.ite ?_ ?_)
    | (with_reducible refine LeO.bind ?_ (fun _ => ?_))
    | exact ih0 _ _ _ _
    | exact ih1 _ _ _ _ _ _ _
    | exact after_All.mono _ _ _ _
    | exact after_Right.mono _ _
    | exact handshakerlaw22_Refs.mono _ _
    | exact handshakerlaw22_awake.mono _
    | exact handshakerlaw22_small.mono _ _
    | exact handshakerref02_Same.mono _ _ _
    | exact handshakerref22_Same.mono _ _ _
    | exact LeO.none _
    | refine LeO.ite ?_ ?_
    | refine LeO.bind ?_ (fun _ => ?_)
  · intro y0 y1 y2 y3 y4 y5 y6
    unfold handshakerlaw22_AfterOrder.l0
    repeat' first
    | (with_reducible exact ih0 _ _ _ _)
    | (with_reducible exact ih1 _ _ _ _ _ _ _)
    | (with_reducible exact after_All.mono _ _ _ _)
    | (with_reducible exact after_Right.mono _ _)
    | (with_reducible exact handshakerlaw22_Refs.mono _ _)
    | (with_reducible exact handshakerlaw22_awake.mono _)
    | (with_reducible exact handshakerlaw22_small.mono _ _)
    | (with_reducible exact handshakerref02_Same.mono _ _ _)
    | (with_reducible exact handshakerref22_Same.mono _ _ _)
    | (with_reducible exact LeO.refl _)
    | (with_reducible exact LeO.none _)
    | (with_reducible refine LeO.ite ?_ ?_)
    | (with_reducible refine LeO.bind ?_ (fun _ => ?_))
    | exact ih0 _ _ _ _
    | exact ih1 _ _ _ _ _ _ _
    | exact after_All.mono _ _ _ _
    | exact after_Right.mono _ _
    | exact handshakerlaw22_Refs.mono _ _
    | exact handshakerlaw22_awake.mono _
    | exact handshakerlaw22_small.mono _ _
    | exact handshakerref02_Same.mono _ _ _
    | exact handshakerref22_Same.mono _ _ _
    | exact LeO.none _
    | refine LeO.ite ?_ ?_
    | refine LeO.bind ?_ (fun _ => ?_)
theorem handshakerlaw22_AfterOrder.mono : ∀ a0 a1 a2 k, LeO (handshakerlaw22_AfterOrder.f k a0 a1 a2) (handshakerlaw22_AfterOrder.f (k + 1) a0 a1 a2) := by
 intro a0 a1 a2 k
 obtain ⟨ih0, ih1⟩ := handshakerlaw22_AfterOrder.mono_l k
 unfold handshakerlaw22_AfterOrder.f
 repeat' first
  | (with_reducible exact ih0 _ _ _ _)
  | (with_reducible exact ih1 _ _ _ _ _ _ _)
  | (with_reducible exact after_All.mono _ _ _ _)
  | (with_reducible exact after_Right.mono _ _)
  | (with_reducible exact handshakerlaw22_Refs.mono _ _)
  | (with_reducible exact handshakerlaw22_awake.mono _)
  | (with_reducible exact handshakerlaw22_small.mono _ _)
  | (with_reducible exact handshakerref02_Same.mono _ _ _)
  | (with_reducible exact handshakerref22_Same.mono _ _ _)
  | (with_reducible exact LeO.refl _)
  | (with_reducible exact LeO.none _)
  | (with_reducible refine LeO.ite ?_ ?_)
  | (with_reducible refine LeO.bind ?_ (fun _ => ?_))
  | exact ih0 _ _ _ _
  | exact ih1 _ _ _ _ _ _ _
  | exact after_All.mono _ _ _ _
  | exact after_Right.mono _ _
  | exact handshakerlaw22_Refs.mono _ _
  | exact handshakerlaw22_awake.mono _
  | exact handshakerlaw22_small.mono _ _
  | exact handshakerref02_Same.mono _ _ _
  | exact handshakerref22_Same.mono _ _ _
  | exact LeO.none _
  | refine LeO.ite ?_ ?_
  | refine LeO.bind ?_ (fun _ => ?_)
set_option maxHeartbeats 8000000 in
set_option maxRecDepth 100000 in
theorem handshakerlaw22_AfterOrder.calls (k : Nat) (A0 : Option Addr) (c0 : Nat) (l0 : List (S25)) (A1 : Option Addr) (c1 : Nat) (l1 : List (S66)) (a2 : Int) (r : Bool) (w : World) (HT : Aside0 (r = true)) (hr0 : Kd.C k25 w A0 l0.length l0) (hc0 : l0.length ≤ c0) (hr1 : Kd.C k66 w A1 l1.length l1) (hc1 : l1.length ≤ c1) (h : handshakerlaw22_AfterOrder.f k l0 l1 a2 = some r) :
 Calls Try.prog 5 #[.slice A0 l0.length c0, .slice A1 l1.length c1, .int .u8 a2] w fun e w' => e = .returned (.bool r) ∧ Below w.heap.size w w' := by
 have HR0 := Aside0.mk hr0
 have HC0 := Aside0.mk hc0
 clear hr0 hc0
 have HR1 := Aside0.mk hr1
 have HC1 := Aside0.mk hc1
 clear hr1 hc1
 have HB := Aside0.mk (Below.refl w.heap.size w)
 have H : ((handshakerlaw22_small.f k l0).bind fun t533 => (if t533 = true then (if (l1.length : Int) > 64 then (handshakerlaw22_AfterOrder.j0 k l0 l1 a2 true) else ((after_Right.f k l0).bind fun t534 => (if t534 = true then (handshakerlaw22_AfterOrder.j0 k l0 l1 a2 ((l0.length : Int) == 0)) else (handshakerlaw22_AfterOrder.j0 k l0 l1 a2 true)))) else (handshakerlaw22_AfterOrder.j0 k l0 l1 a2 true))) = some r := h
 clear h
 have HC4 := Aside0.mk H
 clear H
 go_enter Try.func5, Try.ntmps5
 go_upto_region 1 with (fail)
 go_cut [33] (fun v33 wc => ∃ (kq : Nat) (x33_3 : Bool), v33 = .bool x33_3 ∧ Aside0 (handshakerlaw22_AfterOrder.j0 kq l0 l1 a2 x33_3 = some r) ∧ Aside0 (kq ≤ k) ∧ Aside0 (Below w.heap.size w wc))
 case first =>
  have H := HC4.out
  clear HC4
  replace H := Option.bind_eq_some_iff.mp H
  obtain ⟨t533, A50, H⟩ := H
  replace H : (if t533 = true then (if (l1.length : Int) > 64 then (handshakerlaw22_AfterOrder.j0 k l0 l1 a2 true) else ((after_Right.f k l0).bind fun t534 => (if t534 = true then (handshakerlaw22_AfterOrder.j0 k l0 l1 a2 ((l0.length : Int) == 0)) else (handshakerlaw22_AfterOrder.j0 k l0 l1 a2 true)))) else (handshakerlaw22_AfterOrder.j0 k l0 l1 a2 true)) = some r := H
  have A5 := Aside0.mk A50
  clear A50
  by_cases c6 : t533 = true
  · subst c6
    have H1 : (if (l1.length : Int) > 64 then (handshakerlaw22_AfterOrder.j0 k l0 l1 a2 true) else ((after_Right.f k l0).bind fun t534 => (if t534 = true then (handshakerlaw22_AfterOrder.j0 k l0 l1 a2 ((l0.length : Int) == 0)) else (handshakerlaw22_AfterOrder.j0 k l0 l1 a2 true)))) = some r := by rw [if_pos rfl] at H; exact H
    clear H
    have H := H1
    clear H1
    by_cases c7 : (l1.length : Int) > 64
    · rw [if_pos c7] at H
      have c7b0 : decide (64 < (l1.length : Int)) = true := decide_eq_true c7
      have c7b1 : decide (64 < l1.length) = true := decide_eq_true (by omega)
      clear c7
      (first | rw [c7b0] | (simp only [i64_w, i32_w]; rw [c7b0]) | skip)
      have H' := Aside0.mk H
      clear H
      go_wp2_with (first | ((with_reducible refine gate_callee (f := 11) rfl ?_); refine goesL_ (some 17) rfl rfl Try.func11 (by kernel_rfl) rfl #[.slice A0 l0.length c0] rfl (by (try simp only [List.map_toArray, List.map_cons, List.map_nil]); first | done | rfl) ?_; (with_reducible refine (handshakerlaw22_small.calls k _ _ l0 true _ ?side1 ?side2 A5.out).mono ?_); (case side1 => repeat (first | exact (Kd.C_below HR0.out HB.out) | with_reducible first | refine Kd.C_alloc ?_ _ | refine Kd.C_drewN ?_ _ | refine Kd.C_drew ?_)); (case side2 => exact HC0.out); rintro e w8 ⟨rfl, hb⟩; refine ⟨_, rfl, ?_⟩; have n0_ := Aside0.mk (bst_ hb); clear HB; have HB := n0_; clear n0_; (try clear hb); (try clear hb2); (try clear hk); (try clear hi)))
      go_meet
      case rel => exact ⟨_, (true), (by first | rfl | (simp; done) | (simp [*]; done)), H', ⟨by first | omega | exact Nat.le_refl _⟩, ⟨by repeat (with_reducible first | exact HB.out | apply below_alloc | apply pw_below_drewN | apply below_drew1)⟩⟩
    · rw [if_neg c7] at H
      have c7b0 : decide (64 < (l1.length : Int)) = false := decide_eq_false c7
      have c7b1 : decide (64 < l1.length) = false := decide_eq_false (by omega)
      clear c7
      (first | rw [c7b0] | (simp only [i64_w, i32_w]; rw [c7b0]) | skip)
      replace H := Option.bind_eq_some_iff.mp H
      obtain ⟨t534, A90, H⟩ := H
      replace H : (if t534 = true then (handshakerlaw22_AfterOrder.j0 k l0 l1 a2 ((l0.length : Int) == 0)) else (handshakerlaw22_AfterOrder.j0 k l0 l1 a2 true)) = some r := H
      have A9 := Aside0.mk A90
      clear A90
      by_cases c10 : t534 = true
      · subst c10
        have H1 : (handshakerlaw22_AfterOrder.j0 k l0 l1 a2 ((l0.length : Int) == 0)) = some r := by rw [if_pos rfl] at H; exact H
        clear H
        have H := H1
        clear H1
        have H' := Aside0.mk H
        clear H
        go_wp2_with (first | ((with_reducible refine gate_callee (f := 11) rfl ?_); refine goesL_ (some 17) rfl rfl Try.func11 (by kernel_rfl) rfl #[.slice A0 l0.length c0] rfl (by (try simp only [List.map_toArray, List.map_cons, List.map_nil]); first | done | rfl) ?_; (with_reducible refine (handshakerlaw22_small.calls k _ _ l0 true _ ?side1 ?side2 A5.out).mono ?_); (case side1 => repeat (first | exact (Kd.C_below HR0.out HB.out) | with_reducible first | refine Kd.C_alloc ?_ _ | refine Kd.C_drewN ?_ _ | refine Kd.C_drew ?_)); (case side2 => exact HC0.out); rintro e w11 ⟨rfl, hb⟩; refine ⟨_, rfl, ?_⟩; have n0_ := Aside0.mk (bst_ hb); clear HB; have HB := n0_; clear n0_; (try clear hb); (try clear hb2); (try clear hk); (try clear hi)) | (go_at_call 22; (with_reducible refine (after_Right.calls k _ _ l0 true _ ?side1 ?side2 A9.out).mono ?_); (case side1 => repeat (first | exact (Kd.C_below HR0.out HB.out) | with_reducible first | refine Kd.C_alloc ?_ _ | refine Kd.C_drewN ?_ _ | refine Kd.C_drew ?_)); (case side2 => exact HC0.out); rintro e w12 ⟨rfl, hb⟩; have n0_ := Aside0.mk (bst_ hb); clear HB; have HB := n0_; clear n0_; (try clear hb); (try clear hb2); (try clear hk); (try clear hi)))
        go_meet
        case rel => exact ⟨_, (((l0.length : Int) == 0)), (by first | rfl | (simp; done) | (simp [*]; done)), H', ⟨by first | omega | exact Nat.le_refl _⟩, ⟨by repeat (with_reducible first | exact HB.out | apply below_alloc | apply pw_below_drewN | apply below_drew1)⟩⟩
      · replace c10 := Bool.eq_false_iff.mpr c10
        subst c10
        have H1 : (handshakerlaw22_AfterOrder.j0 k l0 l1 a2 true) = some r := by rw [if_neg (show ¬ (false = true) by decide)] at H; exact H
        clear H
        have H := H1
        clear H1
        have H' := Aside0.mk H
        clear H
        go_wp2_with (first | ((with_reducible refine gate_callee (f := 11) rfl ?_); refine goesL_ (some 17) rfl rfl Try.func11 (by kernel_rfl) rfl #[.slice A0 l0.length c0] rfl (by (try simp only [List.map_toArray, List.map_cons, List.map_nil]); first | done | rfl) ?_; (with_reducible refine (handshakerlaw22_small.calls k _ _ l0 true _ ?side1 ?side2 A5.out).mono ?_); (case side1 => repeat (first | exact (Kd.C_below HR0.out HB.out) | with_reducible first | refine Kd.C_alloc ?_ _ | refine Kd.C_drewN ?_ _ | refine Kd.C_drew ?_)); (case side2 => exact HC0.out); rintro e w13 ⟨rfl, hb⟩; refine ⟨_, rfl, ?_⟩; have n0_ := Aside0.mk (bst_ hb); clear HB; have HB := n0_; clear n0_; (try clear hb); (try clear hb2); (try clear hk); (try clear hi)) | (go_at_call 22; (with_reducible refine (after_Right.calls k _ _ l0 false _ ?side1 ?side2 A9.out).mono ?_); (case side1 => repeat (first | exact (Kd.C_below HR0.out HB.out) | with_reducible first | refine Kd.C_alloc ?_ _ | refine Kd.C_drewN ?_ _ | refine Kd.C_drew ?_)); (case side2 => exact HC0.out); rintro e w14 ⟨rfl, hb⟩; have n0_ := Aside0.mk (bst_ hb); clear HB; have HB := n0_; clear n0_; (try clear hb); (try clear hb2); (try clear hk); (try clear hi)))
        go_meet
        case rel => exact ⟨_, (true), (by first | rfl | (simp; done) | (simp [*]; done)), H', ⟨by first | omega | exact Nat.le_refl _⟩, ⟨by repeat (with_reducible first | exact HB.out | apply below_alloc | apply pw_below_drewN | apply below_drew1)⟩⟩
  · replace c6 := Bool.eq_false_iff.mpr c6
    subst c6
    have H1 : (handshakerlaw22_AfterOrder.j0 k l0 l1 a2 true) = some r := by rw [if_neg (show ¬ (false = true) by decide)] at H; exact H
    clear H
    have H := H1
    clear H1
    have H' := Aside0.mk H
    clear H
    go_wp2_with (first | ((with_reducible refine gate_callee (f := 11) rfl ?_); refine goesL_ (some 17) rfl rfl Try.func11 (by kernel_rfl) rfl #[.slice A0 l0.length c0] rfl (by (try simp only [List.map_toArray, List.map_cons, List.map_nil]); first | done | rfl) ?_; (with_reducible refine (handshakerlaw22_small.calls k _ _ l0 false _ ?side1 ?side2 A5.out).mono ?_); (case side1 => repeat (first | exact (Kd.C_below HR0.out HB.out) | with_reducible first | refine Kd.C_alloc ?_ _ | refine Kd.C_drewN ?_ _ | refine Kd.C_drew ?_)); (case side2 => exact HC0.out); rintro e w15 ⟨rfl, hb⟩; refine ⟨_, rfl, ?_⟩; have n0_ := Aside0.mk (bst_ hb); clear HB; have HB := n0_; clear n0_; (try clear hb); (try clear hb2); (try clear hk); (try clear hi)))
    go_meet
    case rel => exact ⟨_, (true), (by first | rfl | (simp; done) | (simp [*]; done)), H', ⟨by first | omega | exact Nat.le_refl _⟩, ⟨by repeat (with_reducible first | exact HB.out | apply below_alloc | apply pw_below_drewN | apply below_drew1)⟩⟩
 case rest =>
  clear HC4
  try clear c1
  try clear p2
  try clear c5
  try clear c6
  try clear c7
  try clear c7b0
  try clear c7b1
  try clear c10
  try clear c11
  obtain ⟨kq, x33_3, rfl, HA, HJ3, HB⟩ := hcut
  cases kq with
  | zero => exact absurd HA.out (by simp [handshakerlaw22_AfterOrder.j0])
  | succ kj3 =>
   have H := HA.out
   clear HA
   simp only [handshakerlaw22_AfterOrder.j0] at H
   by_cases c16 : x33_3 = true
   · subst c16
     have H1 : ((handshakerlaw22_awake.f kj3).bind fun t535 => (some t535)) = some r := by rw [if_pos rfl] at H; exact H
     clear H
     have H := H1
     clear H1
     replace H := Option.bind_eq_some_iff.mp H
     obtain ⟨t535, A170, H⟩ := H
     replace H : (some t535) = some r := H
     have A17 := Aside0.mk A170
     clear A170
     obtain rfl := Option.some.inj H
     go_wp2_with (first | ((with_reducible refine gate_callee (f := 12) rfl ?_); refine goesL_ (some 34) rfl rfl Try.func12 (by kernel_rfl) rfl #[] rfl (by (try simp only [List.map_toArray, List.map_cons, List.map_nil]); first | done | rfl) ?_; (with_reducible refine (handshakerlaw22_awake.calls kj3  t535 _ A17.out).mono ?_); rintro e w18 ⟨rfl, hb⟩; refine ⟨_, rfl, ?_⟩; have n0_ := Aside0.mk (bst_ hb); clear HB; have HB := n0_; clear n0_; (try clear hb); (try clear hb2); (try clear hk); (try clear hi)))
     go_ret
     exact ⟨by first | rfl | (simp [errW_none, errW_some] <;> rfl) | (simp [*, errW_none, errW_some] <;> rfl), by repeat (with_reducible first | exact HB.out | apply below_alloc | apply pw_below_drewN | apply below_drew1)⟩
   · replace c16 := Bool.eq_false_iff.mpr c16
     subst c16
     have H1 : (handshakerlaw22_AfterOrder.l0 kj3 l0 l1 a2 ([] : List Int) ([] : List Int) (l0.length : Int) 0) = some r := by rw [if_neg (show ¬ (false = true) by decide)] at H; exact H
     clear H
     have H := H1
     clear H1
     have H' := Aside0.mk H
     clear H
     go_wp2
     go_loopg [7, 8, 37] kj3 (fun kq v7 v8 v37 w' => ∃ (x7_2 : List Int) (x8_2 : List Int) (x37_2 : Int), v37 = .int .i64 x37_2 ∧ Aside0 (handshakerlaw22_AfterOrder.l0 kq l0 l1 a2 x7_2 x8_2 (l0.length : Int) x37_2 = some r) ∧ Aside0 (kq ≤ kj3) ∧ Aside0 (Kd.R (Kd.int .i64) 3 w' w.heap.size (fun k_ => some k_ ≠ (v8 : Value).ownBlock) v7 x7_2) ∧ Aside0 (Kd.R (Kd.int .i64) 3 w' w.heap.size (fun k_ => some k_ ≠ (v7 : Value).ownBlock) v8 x8_2) ∧ Aside0 (Below w.heap.size w w'))
     case atStart => exact ⟨(([] : List Int)), (([] : List Int)), (0), (by first | rfl | (simp; done) | (simp [*]; done)), H', ⟨Nat.le_refl _⟩, ⟨by first | exact Kd.R_nil _ _ _ _ _ | exact Kd.N_nil _ _ _ _ _ | exact Kd.V_nil _ _ _ _ _ | exact Kd.Q_nil _ _ _ _ _ | exact Kd.S_nil _ _ _ _ _⟩, ⟨by first | exact Kd.R_nil _ _ _ _ _ | exact Kd.N_nil _ _ _ _ _ | exact Kd.V_nil _ _ _ _ _ | exact Kd.Q_nil _ _ _ _ _ | exact Kd.S_nil _ _ _ _ _⟩, ⟨by repeat (with_reducible first | exact HB.out | apply below_alloc | apply pw_below_drewN | apply below_drew1)⟩⟩
     case round =>
      clear H'
      try clear c1
      try clear p2
      try clear c5
      try clear c6
      try clear c7
      try clear c7b0
      try clear c7b1
      try clear c10
      try clear c11
      try clear c12
      try clear c16
      try clear p2
      obtain ⟨x7_2, x8_2, x37_2, rfl, HA, HK2, HO_7, HO_8, HB⟩ := hrel
      cases gk with
      | zero => exact absurd HA.out (by simp [handshakerlaw22_AfterOrder.l0])
      | succ k2 =>
       have H := HA.out
       clear HA
       simp only [handshakerlaw22_AfterOrder.l0] at H
       by_cases c19 : x37_2 < (l0.length : Int)
       · rw [if_pos c19] at H
         have c19b0 : decide (x37_2 < (l0.length : Int)) = true := decide_eq_true c19
         clear c19
         by_cases c20 : 0 ≤ x37_2
         · rw [if_pos c20] at H
           have c20b0 : decide (0 ≤ x37_2) = true := decide_eq_true c20
           clear c20
           by_cases c21 : x37_2 < (l0.length : Int)
           · rw [if_pos c21] at H
             have c21b0 : decide (x37_2 < (l0.length : Int)) = true := decide_eq_true c21
             clear c21
             by_cases c22 : x7_2.length < 17592186044416
             · rw [if_pos c22] at H
               have LMc22 := Aside0.mk c22
               clear c22
               obtain ⟨y537, hy537⟩ : ∃ y_ : List Int, y_ = (x7_2 ++ [(rd_T25 l0 x37_2).f0]) := ⟨_, rfl⟩
               replace H : (if (l0.length : Int) = 0 then (none) else (if 0 ≤ (Int.tmod (wrap64 ((wrap64 ((l0.length : Int) - x37_2)) + (wrap64 (a2)))) (l0.length : Int)) then (if (Int.tmod (wrap64 ((wrap64 ((l0.length : Int) - x37_2)) + (wrap64 (a2)))) (l0.length : Int)) < (l0.length : Int) then (if x8_2.length < 17592186044416 then (handshakerlaw22_AfterOrder.l0 k2 l0 l1 a2 y537 (x8_2 ++ [(rd_T25 l0 (Int.tmod (wrap64 ((wrap64 ((l0.length : Int) - x37_2)) + (wrap64 (a2)))) (l0.length : Int))).f0]) (l0.length : Int) (wrap64 (x37_2 + 1))) else (none)) else (none)) else (none))) = some r := by first | (rw [hy537]; with_reducible exact H) | (have H2_ := (Option.bind_some _ _).symm.trans H; rw [hy537]; with_reducible exact H2_) | (have H2_ := (Option.bind_some _ _).symm.trans H; with_reducible exact H2_) | with_reducible exact H | (rw [hy537]; exact H) | exact H
               have Ny537 := Aside0.mk hy537
               clear hy537
               by_cases c23 : (l0.length : Int) = 0
               · rw [if_pos c23] at H
                 exact absurd H (by simp)
               · rw [if_neg c23] at H
                 have c23b0 : ((l0.length : Int) == 0) = false := beq_eq_false_iff_ne.mpr c23
                 have c23b1 : ((l0.length : Int) != 0) = true := bne_iff_ne.mpr c23
                 have c23b2 : ¬ (l0 = []) := fun h_ => c23 (by rw [h_]; rfl)
                 obtain ⟨ji24, hji24⟩ : ∃ j_ : Int, (Int.tmod (wrap64 ((wrap64 ((l0.length : Int) - x37_2)) + (wrap64 (a2)))) (l0.length : Int)) = j_ := ⟨_, rfl⟩
                 replace H : (if 0 ≤ (ji24) then (if (ji24) < (l0.length : Int) then (if x8_2.length < 17592186044416 then (handshakerlaw22_AfterOrder.l0 k2 l0 l1 a2 y537 (x8_2 ++ [(rd_T25 l0 (ji24)).f0]) (l0.length : Int) (wrap64 (x37_2 + 1))) else (none)) else (none)) else (none)) = some r := by first | (rw [hji24] at H; exact H) | (simp only [hji24] at H ⊢; exact H)
                 by_cases c25 : 0 ≤ (ji24)
                 · rw [if_pos c25] at H
                   have c25b0 : decide (0 ≤ (ji24)) = true := decide_eq_true c25
                   clear c25
                   by_cases c26 : (ji24) < (l0.length : Int)
                   · rw [if_pos c26] at H
                     have c26b0 : decide ((ji24) < (l0.length : Int)) = true := decide_eq_true c26
                     clear c26
                     by_cases c27 : x8_2.length < 17592186044416
                     · rw [if_pos c27] at H
                       have LMc27 := Aside0.mk c27
                       clear c27
                       obtain ⟨y541, hy541⟩ : ∃ y_ : List Int, y_ = (x8_2 ++ [(rd_T25 l0 (ji24)).f0]) := ⟨_, rfl⟩
                       replace H : (handshakerlaw22_AfterOrder.l0 k2 l0 l1 a2 y537 y541 (l0.length : Int) (wrap64 (x37_2 + 1))) = some r := by first | (rw [hy541]; with_reducible exact H) | (have H2_ := (Option.bind_some _ _).symm.trans H; rw [hy541]; with_reducible exact H2_) | (have H2_ := (Option.bind_some _ _).symm.trans H; with_reducible exact H2_) | with_reducible exact H | (rw [hy541]; exact H) | exact H
                       have Ny541 := Aside0.mk hy541
                       clear hy541
                       have H' := Aside0.mk H
                       clear H
                       have p536 : 0 ≤ (x37_2 : Int) := of_decide_eq_true (by first | (with_reducible assumption) | assumption)
                       have q536 : x37_2 < (l0.length : Int) := of_decide_eq_true (by first | (with_reducible assumption) | assumption)
                       obtain ⟨ad536, A536_1, c536_1, e536, hx536_0, hx536_1, hl536_1, hi536_1⟩ := at_T25 HR0.out x37_2 p536 q536
                       cases e536
                       replace hx536_0 := (HB.out.cell (World.block_lt_of_cell? w _ hx536_0)).trans hx536_0
                       replace hx536_1 := (HB.out.cell (World.block_lt_of_cell? w _ hx536_1)).trans hx536_1
                       have HR536_1 := Aside0.mk hi536_1
                       have HC536_1 := Aside0.mk hl536_1
                       clear hi536_1 hl536_1
                       replace p536 := eq_true p536
                       replace q536 := eq_true q536
                       go_wp2_with (first | ((with_reducible refine gate_builtin (b := .append) (xs := #[.tmp 40, .tmp 46]) rfl ?_); (try (refine gate_guard (by rfl) ?_; dsimp only)); at_builtin; refine Kd.R_append (Kd.int .i64) (w0 := w) w.heap.size rfl (.tmp 40) (.tmp 46) 27 3 (.int .i64 0) 8 rfl Try.underlying27 info3 rfl (by decide) (by omega) u7 x7_2 ((rd_T25 l0 x37_2).f0) [.int .i64 ((rd_T25 l0 x37_2).f0)] (fun k_ => some k_ ≠ (u8 : Value).ownBlock) (fun _ => False) rfl rfl ?aP (fun _ hk => hk.elim) ?aF ?aO ?aB ?aS ?aL ?_; (case aP => exact rfl); (case aB => exact (by repeat (with_reducible first | exact HB.out | apply below_alloc | apply pw_below_drewN | apply below_drew1))); (case aF => exact (fun k_ hk => Kd.fresh' (Kd.R_lt (by (with_reducible repeat (first | apply Kd.R_alloc | apply Kd.R_drewN | apply Kd.R_drew)); exact HO_8.out)) k_ hk)); (case aO => exact (by (with_reducible repeat (first | apply Kd.R_alloc | apply Kd.R_drewN | apply Kd.R_drew)); exact HO_7.out)); (case aS => exact bsz_); (case aL => have := LMc22.out; omega); intro v538 w28 ho hb hg hat; rw [← Ny537.out] at ho; have n0_ := Aside0.mk (Kd.R_after (ok := (fun _ => True)) (by (with_reducible repeat (first | apply Kd.R_alloc | apply Kd.R_drewN | apply Kd.R_drew)); exact Kd.R_mono HO_8.out (fun _ hk => ⟨trivial, hk⟩)) hg hat); have n1_ := Aside0.mk (hb); have n2_ := Aside0.mk (ho); clear HO_8; clear HB; clear HO_7; have HO_8 := n0_; have HB := n1_; have HO539 := n2_; clear n0_ n1_ n2_; clear ho hb hg hat; have p540 : 0 ≤ ((ji24) : Int) := of_decide_eq_true (by first | (with_reducible assumption) | assumption); have q540 : (ji24) < (l0.length : Int) := of_decide_eq_true (by first | (with_reducible assumption) | assumption); obtain ⟨ad540, A540_1, c540_1, e540, hx540_0, hx540_1, hl540_1, hi540_1⟩ := at_T25 HR0.out (ji24) p540 q540; obtain rfl : ad536 = ad540 := (by injection e540); replace hx540_0 := (HB.out.cell (World.block_lt_of_cell? w _ hx540_0)).trans hx540_0; replace hx540_1 := (HB.out.cell (World.block_lt_of_cell? w _ hx540_1)).trans hx540_1; have HR540_1 := Aside0.mk hi540_1; have HC540_1 := Aside0.mk hl540_1; clear hi540_1 hl540_1; replace p540 := eq_true p540; replace q540 := eq_true q540) | ((with_reducible refine gate_builtin (b := .append) (xs := #[.tmp 48, .tmp 63]) rfl ?_); (try (refine gate_guard (by rfl) ?_; dsimp only)); at_builtin; refine Kd.R_append (Kd.int .i64) (w0 := w) w.heap.size rfl (.tmp 48) (.tmp 63) 27 3 (.int .i64 0) 8 rfl Try.underlying27 info3 rfl (by decide) (by omega) u8 x8_2 ((rd_T25 l0 (ji24)).f0) [.int .i64 ((rd_T25 l0 (ji24)).f0)] (fun k_ => some k_ ≠ (v538 : Value).ownBlock) (fun _ => False) rfl rfl ?aP (fun _ hk => hk.elim) ?aF ?aO ?aB ?aS ?aL ?_; (case aP => exact rfl); (case aB => exact (by repeat (with_reducible first | exact HB.out | apply below_alloc | apply pw_below_drewN | apply below_drew1))); (case aF => exact (fun k_ hk => Kd.fresh' (Kd.R_lt (by (with_reducible repeat (first | apply Kd.R_alloc | apply Kd.R_drewN | apply Kd.R_drew)); exact HO539.out)) k_ hk)); (case aO => exact (by (with_reducible repeat (first | apply Kd.R_alloc | apply Kd.R_drewN | apply Kd.R_drew)); exact Kd.R_mono HO_8.out (fun _ hk => hk.2))); (case aS => exact bsz_); (case aL => have := LMc27.out; omega); intro v542 w29 ho hb hg hat; rw [← Ny541.out] at ho; have n0_ := Aside0.mk (Kd.R_after (ok := (fun _ => True)) (by (with_reducible repeat (first | apply Kd.R_alloc | apply Kd.R_drewN | apply Kd.R_drew)); exact Kd.R_mono HO539.out (fun _ hk => ⟨trivial, hk⟩)) hg hat); have n1_ := Aside0.mk (hb); have n2_ := Aside0.mk (ho); clear HO539; clear HB; clear HO_8; have HO539 := n0_; have HB := n1_; have HO543 := n2_; clear n0_ n1_ n2_; clear ho hb hg hat))
                       go_roundg k2
                       case measure => have := HJ3.out; have := HK2.out; omega
                       case rel => exact ⟨(y537), (y541), (wrap64 (x37_2 + 1)), (by first | rfl | (simp; done) | (simp [*]; done)), H', ⟨by have := HJ3.out; have := HK2.out; omega⟩, ⟨by (with_reducible repeat (first | apply Kd.R_alloc | apply Kd.R_drewN | apply Kd.R_drew)); exact Kd.R_mono HO539.out (fun _ hk => hk.2)⟩, ⟨by (with_reducible repeat (first | apply Kd.R_alloc | apply Kd.R_drewN | apply Kd.R_drew)); exact HO543.out⟩, ⟨by repeat (with_reducible first | exact HB.out | apply below_alloc | apply pw_below_drewN | apply below_drew1)⟩⟩
                     · rw [if_neg c27] at H
                       exact absurd H (by simp)
                   · rw [if_neg c26] at H
                     exact absurd H (by simp)
                 · rw [if_neg c25] at H
                   exact absurd H (by simp)
             · rw [if_neg c22] at H
               exact absurd H (by simp)
           · rw [if_neg c21] at H
             exact absurd H (by simp)
         · rw [if_neg c20] at H
           exact absurd H (by simp)
       · rw [if_neg c19] at H
         have c19b0 : decide (x37_2 < (l0.length : Int)) = false := decide_eq_false c19
         clear c19
         replace H := Option.bind_eq_some_iff.mp H
         obtain ⟨⟨t544, t547, t550⟩, A300, H⟩ := H
         replace H : ((after_All.f k2 l0 l1 x8_2).bind fun bt551 => (if t550 = bt551.2.2 then ((handshakerlaw22_Refs.f k2 t544).bind fun t558 => ((handshakerlaw22_Refs.f k2 bt551.1).bind fun t561 => ((handshakerref22_Same.f k2 t558 t561).bind fun t564 => (if t564 = true then ((handshakerref02_Same.f k2 t547 bt551.2.1).bind fun t565 => (if t565 = true then (if t550 = 0 then (if (t544.length : Int) = 0 then ((handshakerlaw22_awake.f k2).bind fun t566 => (some t566)) else (some false)) else ((handshakerlaw22_awake.f k2).bind fun t567 => (some t567))) else (some false))) else (some false))))) else (some false))) = some r := H
         have A30 := Aside0.mk A300
         clear A300
         replace H := Option.bind_eq_some_iff.mp H
         obtain ⟨⟨t551, t554, t557⟩, A310, H⟩ := H
         replace H : (if t550 = t557 then ((handshakerlaw22_Refs.f k2 t544).bind fun t558 => ((handshakerlaw22_Refs.f k2 t551).bind fun t561 => ((handshakerref22_Same.f k2 t558 t561).bind fun t564 => (if t564 = true then ((handshakerref02_Same.f k2 t547 t554).bind fun t565 => (if t565 = true then (if t550 = 0 then (if (t544.length : Int) = 0 then ((handshakerlaw22_awake.f k2).bind fun t566 => (some t566)) else (some false)) else ((handshakerlaw22_awake.f k2).bind fun t567 => (some t567))) else (some false))) else (some false))))) else (some false)) = some r := H
         have A31 := Aside0.mk A310
         clear A310
         by_cases c32 : t550 = t557
         · rw [if_pos c32] at H
           have c32b0 : (t550 == t557) = true := beq_iff_eq.mpr c32
           have c32b1 : (t550 != t557) = false := bne_eq_false_iff_eq.mpr c32
           clear c32
           replace H := Option.bind_eq_some_iff.mp H
           obtain ⟨t558, A330, H⟩ := H
           replace H : ((handshakerlaw22_Refs.f k2 t551).bind fun t561 => ((handshakerref22_Same.f k2 t558 t561).bind fun t564 => (if t564 = true then ((handshakerref02_Same.f k2 t547 t554).bind fun t565 => (if t565 = true then (if t550 = 0 then (if (t544.length : Int) = 0 then ((handshakerlaw22_awake.f k2).bind fun t566 => (some t566)) else (some false)) else ((handshakerlaw22_awake.f k2).bind fun t567 => (some t567))) else (some false))) else (some false)))) = some r := H
           have A33 := Aside0.mk A330
           clear A330
           replace H := Option.bind_eq_some_iff.mp H
           obtain ⟨t561, A340, H⟩ := H
           replace H : ((handshakerref22_Same.f k2 t558 t561).bind fun t564 => (if t564 = true then ((handshakerref02_Same.f k2 t547 t554).bind fun t565 => (if t565 = true then (if t550 = 0 then (if (t544.length : Int) = 0 then ((handshakerlaw22_awake.f k2).bind fun t566 => (some t566)) else (some false)) else ((handshakerlaw22_awake.f k2).bind fun t567 => (some t567))) else (some false))) else (some false))) = some r := H
           have A34 := Aside0.mk A340
           clear A340
           replace H := Option.bind_eq_some_iff.mp H
           obtain ⟨t564, A350, H⟩ := H
           replace H : (if t564 = true then ((handshakerref02_Same.f k2 t547 t554).bind fun t565 => (if t565 = true then (if t550 = 0 then (if (t544.length : Int) = 0 then ((handshakerlaw22_awake.f k2).bind fun t566 => (some t566)) else (some false)) else ((handshakerlaw22_awake.f k2).bind fun t567 => (some t567))) else (some false))) else (some false)) = some r := H
           have A35 := Aside0.mk A350
           clear A350
           by_cases c36 : t564 = true
           · subst c36
             have H1 : ((handshakerref02_Same.f k2 t547 t554).bind fun t565 => (if t565 = true then (if t550 = 0 then (if (t544.length : Int) = 0 then ((handshakerlaw22_awake.f k2).bind fun t566 => (some t566)) else (some false)) else ((handshakerlaw22_awake.f k2).bind fun t567 => (some t567))) else (some false))) = some r := by rw [if_pos rfl] at H; exact H
             clear H
             have H := H1
             clear H1
             replace H := Option.bind_eq_some_iff.mp H
             obtain ⟨t565, A370, H⟩ := H
             replace H : (if t565 = true then (if t550 = 0 then (if (t544.length : Int) = 0 then ((handshakerlaw22_awake.f k2).bind fun t566 => (some t566)) else (some false)) else ((handshakerlaw22_awake.f k2).bind fun t567 => (some t567))) else (some false)) = some r := H
             have A37 := Aside0.mk A370
             clear A370
             by_cases c38 : t565 = true
             · subst c38
               have H1 : (if t550 = 0 then (if (t544.length : Int) = 0 then ((handshakerlaw22_awake.f k2).bind fun t566 => (some t566)) else (some false)) else ((handshakerlaw22_awake.f k2).bind fun t567 => (some t567))) = some r := by rw [if_pos rfl] at H; exact H
               clear H
               have H := H1
               clear H1
               by_cases c39 : t550 = 0
               · rw [if_pos c39] at H
                 have c39b0 : (t550 == 0) = true := beq_iff_eq.mpr c39
                 have c39b1 : (t550 != 0) = false := bne_eq_false_iff_eq.mpr c39
                 clear c39
                 by_cases c40 : (t544.length : Int) = 0
                 · rw [if_pos c40] at H
                   have c40b0 : ((t544.length : Int) == 0) = true := beq_iff_eq.mpr c40
                   have c40b1 : ((t544.length : Int) != 0) = false := bne_eq_false_iff_eq.mpr c40
                   clear c40
                   replace H := Option.bind_eq_some_iff.mp H
                   obtain ⟨t566, A410, H⟩ := H
                   replace H : (some t566) = some r := H
                   have A41 := Aside0.mk A410
                   clear A410
                   obtain rfl := Option.some.inj H
                   obtain ⟨Ao42, co42, eo42⟩ := Kd.R_slice HO_7.out
                   subst eo42
                   go_wp2_with (first | ((with_reducible refine gate_callee (f := 18) rfl ?_); refine goesL_ (some 70) rfl rfl Try.func18 (by kernel_rfl) rfl #[.slice A0 l0.length c0, .slice A1 l1.length c1, .slice Ao42 x7_2.length co42] rfl (by (try simp only [List.map_toArray, List.map_cons, List.map_nil]); first | done | rfl) ?_; (with_reducible refine (after_All.calls k2 (fun k_ => k_ < w.heap.size) _ _ l0 (fun k_ => k_ < w.heap.size) _ _ l1 _ _ x7_2 t544 t547 t550 _ ?side1 ?side2 ?side3 ?side4 A30.out).mono ?_); (case side1 => exact Kd.V_mk HC0.out (Kd.F_below (Kd.C_F k25_heap HR0.out) (by repeat (with_reducible first | exact HB.out | apply below_alloc | apply pw_below_drewN | apply below_drew1)))); (case side2 => exact Kd.V_mk HC1.out (Kd.F_below (Kd.C_F k66_heap HR1.out) (by repeat (with_reducible first | exact HB.out | apply below_alloc | apply pw_below_drewN | apply below_drew1)))); (case side3 => repeat (first | exact (Kd.R_reads' HO_7.out).2.2 | with_reducible first | refine Kd.C_alloc ?_ _ | refine Kd.C_drewN ?_ _ | refine Kd.C_drew ?_)); (case side4 => exact (Kd.R_reads' HO_7.out).2.1); rintro e w43 ⟨v545, v548, rfl, ho0, ho1, hb⟩; refine ⟨_, rfl, ?_⟩; have n0_ := Aside0.mk (Kd.R_below (by (with_reducible repeat (first | apply Kd.R_alloc | apply Kd.R_drewN | apply Kd.R_drew)); exact HO_7.out) hb); have n1_ := Aside0.mk (Kd.R_below (by (with_reducible repeat (first | apply Kd.R_alloc | apply Kd.R_drewN | apply Kd.R_drew)); exact HO_8.out) hb); have n2_ := Aside0.mk (Kd.V_lower (Kd.V_mono (ok' := fun k_ => some k_ ≠ (.slice Ao42 x7_2.length co42 : Value).ownBlock ∧ some k_ ≠ (u8 : Value).ownBlock) ho0 (fun k_ hk_ => ⟨Or.elim hk_ (fun hs_ => Or.elim hs_ (fun hs_ => fun e_ => Nat.not_le.2 hs_ (Kd.R_base HO_7.out k_ e_.symm)) (fun hs_ => fun e_ => Nat.not_le.2 hs_ (Kd.R_base HO_7.out k_ e_.symm))) (fun hn_ => (Kd.fresh' (Kd.R_lt (by (with_reducible repeat (first | apply Kd.R_alloc | apply Kd.R_drewN | apply Kd.R_drew)); exact HO_7.out)) k_ hn_)), Or.elim hk_ (fun hs_ => Or.elim hs_ (fun hs_ => fun e_ => Nat.not_le.2 hs_ (Kd.R_base HO_8.out k_ e_.symm)) (fun hs_ => fun e_ => Nat.not_le.2 hs_ (Kd.R_base HO_8.out k_ e_.symm))) (fun hn_ => (Kd.fresh' (Kd.R_lt (by (with_reducible repeat (first | apply Kd.R_alloc | apply Kd.R_drewN | apply Kd.R_drew)); exact HO_8.out)) k_ hn_))⟩)) bsz_); have n3_ := Aside0.mk (Kd.V_lower (Kd.V_mono (ok' := fun k_ => some k_ ≠ (.slice Ao42 x7_2.length co42 : Value).ownBlock ∧ some k_ ≠ (u8 : Value).ownBlock) ho1 (fun k_ hk_ => ⟨Or.elim hk_ (fun hs_ => Or.elim hs_ (fun hs_ => fun e_ => Nat.not_le.2 hs_ (Kd.R_base HO_7.out k_ e_.symm)) (fun hs_ => fun e_ => Nat.not_le.2 hs_ (Kd.R_base HO_7.out k_ e_.symm))) (fun hn_ => (Kd.fresh' (Kd.R_lt (by (with_reducible repeat (first | apply Kd.R_alloc | apply Kd.R_drewN | apply Kd.R_drew)); exact HO_7.out)) k_ hn_)), Or.elim hk_ (fun hs_ => Or.elim hs_ (fun hs_ => fun e_ => Nat.not_le.2 hs_ (Kd.R_base HO_8.out k_ e_.symm)) (fun hs_ => fun e_ => Nat.not_le.2 hs_ (Kd.R_base HO_8.out k_ e_.symm))) (fun hn_ => (Kd.fresh' (Kd.R_lt (by (with_reducible repeat (first | apply Kd.R_alloc | apply Kd.R_drewN | apply Kd.R_drew)); exact HO_8.out)) k_ hn_))⟩)) bsz_); have n4_ := Aside0.mk (bst_ hb); clear HO_7; clear HO_8; clear HB; have HO_7 := n0_; have HO_8 := n1_; have HO546 := n2_; have HO549 := n3_; have HB := n4_; clear n0_ n1_ n2_ n3_ n4_; (try clear hb); (try clear hb2); (try clear hk); (try clear hi); (try clear ho0); (try clear ho1); obtain ⟨Ao44, co44, eo44⟩ := Kd.R_slice HO_8.out; subst eo44) | ((with_reducible refine gate_callee (f := 18) rfl ?_); refine goesL_ (some 78) rfl rfl Try.func18 (by kernel_rfl) rfl #[.slice A0 l0.length c0, .slice A1 l1.length c1, .slice Ao44 x8_2.length co44] rfl (by (try simp only [List.map_toArray, List.map_cons, List.map_nil]); first | done | rfl) ?_; (with_reducible refine (after_All.calls k2 (fun k_ => k_ < w.heap.size) _ _ l0 (fun k_ => k_ < w.heap.size) _ _ l1 _ _ x8_2 t551 t554 t557 _ ?side1 ?side2 ?side3 ?side4 A31.out).mono ?_); (case side1 => exact Kd.V_mk HC0.out (Kd.F_below (Kd.C_F k25_heap HR0.out) (by repeat (with_reducible first | exact HB.out | apply below_alloc | apply pw_below_drewN | apply below_drew1)))); (case side2 => exact Kd.V_mk HC1.out (Kd.F_below (Kd.C_F k66_heap HR1.out) (by repeat (with_reducible first | exact HB.out | apply below_alloc | apply pw_below_drewN | apply below_drew1)))); (case side3 => repeat (first | exact (Kd.R_reads' HO_8.out).2.2 | with_reducible first | refine Kd.C_alloc ?_ _ | refine Kd.C_drewN ?_ _ | refine Kd.C_drew ?_)); (case side4 => exact (Kd.R_reads' HO_8.out).2.1); rintro e w45 ⟨v552, v555, rfl, ho0, ho1, hb⟩; refine ⟨_, rfl, ?_⟩; have n0_ := Aside0.mk (Kd.R_below (by (with_reducible repeat (first | apply Kd.R_alloc | apply Kd.R_drewN | apply Kd.R_drew)); exact HO_7.out) hb); have n1_ := Aside0.mk (Kd.R_below (by (with_reducible repeat (first | apply Kd.R_alloc | apply Kd.R_drewN | apply Kd.R_drew)); exact HO_8.out) hb); have n2_ := Aside0.mk (Kd.V_below (by (with_reducible repeat (first | apply Kd.V_alloc | apply Kd.V_drewN | apply Kd.V_drew)); exact HO546.out) hb); have n3_ := Aside0.mk (Kd.V_below (by (with_reducible repeat (first | apply Kd.V_alloc | apply Kd.V_drewN | apply Kd.V_drew)); exact HO549.out) hb); have n4_ := Aside0.mk (Kd.V_lower (Kd.V_mono (ok' := fun k_ => some k_ ≠ (.slice Ao42 x7_2.length co42 : Value).ownBlock ∧ some k_ ≠ (.slice Ao44 x8_2.length co44 : Value).ownBlock) ho0 (fun k_ hk_ => ⟨Or.elim hk_ (fun hs_ => Or.elim hs_ (fun hs_ => fun e_ => Nat.not_le.2 hs_ (Kd.R_base HO_7.out k_ e_.symm)) (fun hs_ => fun e_ => Nat.not_le.2 hs_ (Kd.R_base HO_7.out k_ e_.symm))) (fun hn_ => (Kd.fresh' (Kd.R_lt (by (with_reducible repeat (first | apply Kd.R_alloc | apply Kd.R_drewN | apply Kd.R_drew)); exact HO_7.out)) k_ hn_)), Or.elim hk_ (fun hs_ => Or.elim hs_ (fun hs_ => fun e_ => Nat.not_le.2 hs_ (Kd.R_base HO_8.out k_ e_.symm)) (fun hs_ => fun e_ => Nat.not_le.2 hs_ (Kd.R_base HO_8.out k_ e_.symm))) (fun hn_ => (Kd.fresh' (Kd.R_lt (by (with_reducible repeat (first | apply Kd.R_alloc | apply Kd.R_drewN | apply Kd.R_drew)); exact HO_8.out)) k_ hn_))⟩)) bsz_); have n5_ := Aside0.mk (Kd.V_lower (Kd.V_mono (ok' := fun k_ => some k_ ≠ (.slice Ao42 x7_2.length co42 : Value).ownBlock ∧ some k_ ≠ (.slice Ao44 x8_2.length co44 : Value).ownBlock) ho1 (fun k_ hk_ => ⟨Or.elim hk_ (fun hs_ => Or.elim hs_ (fun hs_ => fun e_ => Nat.not_le.2 hs_ (Kd.R_base HO_7.out k_ e_.symm)) (fun hs_ => fun e_ => Nat.not_le.2 hs_ (Kd.R_base HO_7.out k_ e_.symm))) (fun hn_ => (Kd.fresh' (Kd.R_lt (by (with_reducible repeat (first | apply Kd.R_alloc | apply Kd.R_drewN | apply Kd.R_drew)); exact HO_7.out)) k_ hn_)), Or.elim hk_ (fun hs_ => Or.elim hs_ (fun hs_ => fun e_ => Nat.not_le.2 hs_ (Kd.R_base HO_8.out k_ e_.symm)) (fun hs_ => fun e_ => Nat.not_le.2 hs_ (Kd.R_base HO_8.out k_ e_.symm))) (fun hn_ => (Kd.fresh' (Kd.R_lt (by (with_reducible repeat (first | apply Kd.R_alloc | apply Kd.R_drewN | apply Kd.R_drew)); exact HO_8.out)) k_ hn_))⟩)) bsz_); have n6_ := Aside0.mk (bst_ hb); clear HO_7; clear HO_8; clear HO546; clear HO549; clear HB; have HO_7 := n0_; have HO_8 := n1_; have HO546 := n2_; have HO549 := n3_; have HO553 := n4_; have HO556 := n5_; have HB := n6_; clear n0_ n1_ n2_ n3_ n4_ n5_ n6_; (try clear hb); (try clear hb2); (try clear hk); (try clear hi); (try clear ho0); (try clear ho1); obtain ⟨Ao46, co46, eo46⟩ := Kd.V_slice HO546.out; subst eo46) | (go_at_call 13; (with_reducible refine (handshakerlaw22_Refs.calls k2 _ _ t544 t558 _ ?side1 ?side2 A33.out).mono ?_); (case side1 => repeat (first | exact (Kd.V_reads' HO546.out).2.2 | with_reducible first | refine Kd.C_alloc ?_ _ | refine Kd.C_drewN ?_ _ | refine Kd.C_drew ?_)); (case side2 => exact (Kd.V_reads' HO546.out).2.1); rintro e w47 ⟨v559, rfl, ho0, hb⟩; have n0_ := Aside0.mk (Kd.R_below (by (with_reducible repeat (first | apply Kd.R_alloc | apply Kd.R_drewN | apply Kd.R_drew)); exact HO_7.out) hb); have n1_ := Aside0.mk (Kd.R_below (by (with_reducible repeat (first | apply Kd.R_alloc | apply Kd.R_drewN | apply Kd.R_drew)); exact HO_8.out) hb); have n2_ := Aside0.mk (Kd.V_elder' (by (with_reducible repeat (first | apply Kd.V_alloc | apply Kd.V_drewN | apply Kd.V_drew)); exact HO546.out) (Kd.S_base ho0) hb); have n3_ := Aside0.mk (Kd.V_elder' (by (with_reducible repeat (first | apply Kd.V_alloc | apply Kd.V_drewN | apply Kd.V_drew)); exact HO549.out) (Kd.S_base ho0) hb); have n4_ := Aside0.mk (Kd.V_elder' (by (with_reducible repeat (first | apply Kd.V_alloc | apply Kd.V_drewN | apply Kd.V_drew)); exact HO553.out) (Kd.S_base ho0) hb); have n5_ := Aside0.mk (Kd.V_elder' (by (with_reducible repeat (first | apply Kd.V_alloc | apply Kd.V_drewN | apply Kd.V_drew)); exact HO556.out) (Kd.S_base ho0) hb); have n6_ := Aside0.mk (Kd.S_lower ho0 bsz_); have n7_ := Aside0.mk (bst_ hb); clear HO_7; clear HO_8; clear HO546; clear HO549; clear HO553; clear HO556; clear HB; have HO_7 := n0_; have HO_8 := n1_; have HO546 := n2_; have HO549 := n3_; have HO553 := n4_; have HO556 := n5_; have HO560 := n6_; have HB := n7_; clear n0_ n1_ n2_ n3_ n4_ n5_ n6_ n7_; (try clear hb); (try clear hb2); (try clear hk); (try clear hi); (try clear ho0); obtain ⟨Ao48, co48, eo48⟩ := Kd.V_slice HO553.out; subst eo48) | (go_at_call 13; (with_reducible refine (handshakerlaw22_Refs.calls k2 _ _ t551 t561 _ ?side1 ?side2 A34.out).mono ?_); (case side1 => repeat (first | exact (Kd.V_reads' HO553.out).2.2 | with_reducible first | refine Kd.C_alloc ?_ _ | refine Kd.C_drewN ?_ _ | refine Kd.C_drew ?_)); (case side2 => exact (Kd.V_reads' HO553.out).2.1); rintro e w49 ⟨v562, rfl, ho0, hb⟩; have n0_ := Aside0.mk (Kd.R_below (by (with_reducible repeat (first | apply Kd.R_alloc | apply Kd.R_drewN | apply Kd.R_drew)); exact HO_7.out) hb); have n1_ := Aside0.mk (Kd.R_below (by (with_reducible repeat (first | apply Kd.R_alloc | apply Kd.R_drewN | apply Kd.R_drew)); exact HO_8.out) hb); have n2_ := Aside0.mk (Kd.V_elder' (by (with_reducible repeat (first | apply Kd.V_alloc | apply Kd.V_drewN | apply Kd.V_drew)); exact HO546.out) (Kd.S_base ho0) hb); have n3_ := Aside0.mk (Kd.V_elder' (by (with_reducible repeat (first | apply Kd.V_alloc | apply Kd.V_drewN | apply Kd.V_drew)); exact HO549.out) (Kd.S_base ho0) hb); have n4_ := Aside0.mk (Kd.V_elder' (by (with_reducible repeat (first | apply Kd.V_alloc | apply Kd.V_drewN | apply Kd.V_drew)); exact HO553.out) (Kd.S_base ho0) hb); have n5_ := Aside0.mk (Kd.V_elder' (by (with_reducible repeat (first | apply Kd.V_alloc | apply Kd.V_drewN | apply Kd.V_drew)); exact HO556.out) (Kd.S_base ho0) hb); have n6_ := Aside0.mk (Kd.S_elder' (by (with_reducible repeat (first | apply Kd.S_alloc | apply Kd.S_drewN | apply Kd.S_drew)); exact HO560.out) (Kd.S_base ho0) hb); have n7_ := Aside0.mk (Kd.S_lower (Kd.S_new' ho0 (Kd.S_lt (by (with_reducible repeat (first | apply Kd.S_alloc | apply Kd.S_drewN | apply Kd.S_drew)); exact HO560.out))) bsz_); have n8_ := Aside0.mk (bst_ hb); clear HO_7; clear HO_8; clear HO546; clear HO549; clear HO553; clear HO556; clear HO560; clear HB; have HO_7 := n0_; have HO_8 := n1_; have HO546 := n2_; have HO549 := n3_; have HO553 := n4_; have HO556 := n5_; have HO560 := n6_; have HO563 := n7_; have HB := n8_; clear n0_ n1_ n2_ n3_ n4_ n5_ n6_ n7_ n8_; (try clear hb); (try clear hb2); (try clear hk); (try clear hi); (try clear ho0); obtain ⟨Ao50, co50, eo50⟩ := Kd.S_slice HO560.out; subst eo50; obtain ⟨Ao51, co51, eo51⟩ := Kd.S_slice HO563.out; subst eo51) | (go_at_call 26; (with_reducible refine (handshakerref22_Same.calls k2 _ _ t558 _ _ t561 true _ ?side1 ?side2 ?side3 ?side4 A35.out).mono ?_); (case side1 => repeat (first | exact (Kd.S_reads' HO560.out).2.2 | with_reducible first | refine Kd.C_alloc ?_ _ | refine Kd.C_drewN ?_ _ | refine Kd.C_drew ?_)); (case side2 => exact (Kd.S_reads' HO560.out).2.1); (case side3 => repeat (first | exact (Kd.S_reads' HO563.out).2.2 | with_reducible first | refine Kd.C_alloc ?_ _ | refine Kd.C_drewN ?_ _ | refine Kd.C_drew ?_)); (case side4 => exact (Kd.S_reads' HO563.out).2.1); rintro e w' ⟨rfl, ⟨nd, rfl⟩⟩; obtain ⟨Ao52, co52, eo52⟩ := Kd.V_slice HO549.out; subst eo52; obtain ⟨Ao53, co53, eo53⟩ := Kd.V_slice HO556.out; subst eo53) | (go_at_call 27; (with_reducible refine (handshakerref02_Same.calls k2 _ _ t547 _ _ t554 true _ ?side1 ?side2 ?side3 ?side4 A37.out).mono ?_); (case side1 => repeat (first | exact (Kd.V_reads' HO549.out).2.2 | with_reducible first | refine Kd.C_alloc ?_ _ | refine Kd.C_drewN ?_ _ | refine Kd.C_drew ?_)); (case side2 => exact (Kd.V_reads' HO549.out).2.1); (case side3 => repeat (first | exact (Kd.V_reads' HO556.out).2.2 | with_reducible first | refine Kd.C_alloc ?_ _ | refine Kd.C_drewN ?_ _ | refine Kd.C_drew ?_)); (case side4 => exact (Kd.V_reads' HO556.out).2.1); rintro e w' ⟨rfl, ⟨nd, rfl⟩⟩) | (go_at_call 12; (with_reducible refine (handshakerlaw22_awake.calls k2  t566 _ A41.out).mono ?_); rintro e w54 ⟨rfl, hb⟩; have n0_ := Aside0.mk (Kd.R_below (by (with_reducible repeat (first | apply Kd.R_alloc | apply Kd.R_drewN | apply Kd.R_drew)); exact HO_7.out) hb); have n1_ := Aside0.mk (Kd.R_below (by (with_reducible repeat (first | apply Kd.R_alloc | apply Kd.R_drewN | apply Kd.R_drew)); exact HO_8.out) hb); have n2_ := Aside0.mk (Kd.V_below (by (with_reducible repeat (first | apply Kd.V_alloc | apply Kd.V_drewN | apply Kd.V_drew)); exact HO546.out) hb); have n3_ := Aside0.mk (Kd.V_below (by (with_reducible repeat (first | apply Kd.V_alloc | apply Kd.V_drewN | apply Kd.V_drew)); exact HO549.out) hb); have n4_ := Aside0.mk (Kd.V_below (by (with_reducible repeat (first | apply Kd.V_alloc | apply Kd.V_drewN | apply Kd.V_drew)); exact HO553.out) hb); have n5_ := Aside0.mk (Kd.V_below (by (with_reducible repeat (first | apply Kd.V_alloc | apply Kd.V_drewN | apply Kd.V_drew)); exact HO556.out) hb); have n6_ := Aside0.mk (Kd.S_below (by (with_reducible repeat (first | apply Kd.S_alloc | apply Kd.S_drewN | apply Kd.S_drew)); exact HO560.out) hb); have n7_ := Aside0.mk (Kd.S_below (by (with_reducible repeat (first | apply Kd.S_alloc | apply Kd.S_drewN | apply Kd.S_drew)); exact HO563.out) hb); have n8_ := Aside0.mk (bst_ hb); clear HO_7; clear HO_8; clear HO546; clear HO549; clear HO553; clear HO556; clear HO560; clear HO563; clear HB; have HO_7 := n0_; have HO_8 := n1_; have HO546 := n2_; have HO549 := n3_; have HO553 := n4_; have HO556 := n5_; have HO560 := n6_; have HO563 := n7_; have HB := n8_; clear n0_ n1_ n2_ n3_ n4_ n5_ n6_ n7_ n8_; (try clear hb); (try clear hb2); (try clear hk); (try clear hi)))
                   go_ret
                   exact ⟨by first | rfl | (simp [errW_none, errW_some] <;> rfl) | (simp [*, errW_none, errW_some] <;> rfl), by repeat (with_reducible first | exact HB.out | apply below_alloc | apply pw_below_drewN | apply below_drew1)⟩
                 · rw [if_neg c40] at H
                   have c40b0 : ((t544.length : Int) == 0) = false := beq_eq_false_iff_ne.mpr c40
                   have c40b1 : ((t544.length : Int) != 0) = true := bne_iff_ne.mpr c40
                   have c40b2 : ¬ (t544 = []) := fun h_ => c40 (by rw [h_]; rfl)
                   exact absurd (Option.some.inj H) (by rw [HT.out]; decide)
               · rw [if_neg c39] at H
                 have c39b0 : (t550 == 0) = false := beq_eq_false_iff_ne.mpr c39
                 have c39b1 : (t550 != 0) = true := bne_iff_ne.mpr c39
                 replace H := Option.bind_eq_some_iff.mp H
                 obtain ⟨t567, A550, H⟩ := H
                 replace H : (some t567) = some r := H
                 have A55 := Aside0.mk A550
                 clear A550
                 obtain rfl := Option.some.inj H
                 obtain ⟨Ao56, co56, eo56⟩ := Kd.R_slice HO_7.out
                 subst eo56
                 go_wp2_with (first | ((with_reducible refine gate_callee (f := 18) rfl ?_); refine goesL_ (some 70) rfl rfl Try.func18 (by kernel_rfl) rfl #[.slice A0 l0.length c0, .slice A1 l1.length c1, .slice Ao56 x7_2.length co56] rfl (by (try simp only [List.map_toArray, List.map_cons, List.map_nil]); first | done | rfl) ?_; (with_reducible refine (after_All.calls k2 (fun k_ => k_ < w.heap.size) _ _ l0 (fun k_ => k_ < w.heap.size) _ _ l1 _ _ x7_2 t544 t547 t550 _ ?side1 ?side2 ?side3 ?side4 A30.out).mono ?_); (case side1 => exact Kd.V_mk HC0.out (Kd.F_below (Kd.C_F k25_heap HR0.out) (by repeat (with_reducible first | exact HB.out | apply below_alloc | apply pw_below_drewN | apply below_drew1)))); (case side2 => exact Kd.V_mk HC1.out (Kd.F_below (Kd.C_F k66_heap HR1.out) (by repeat (with_reducible first | exact HB.out | apply below_alloc | apply pw_below_drewN | apply below_drew1)))); (case side3 => repeat (first | exact (Kd.R_reads' HO_7.out).2.2 | with_reducible first | refine Kd.C_alloc ?_ _ | refine Kd.C_drewN ?_ _ | refine Kd.C_drew ?_)); (case side4 => exact (Kd.R_reads' HO_7.out).2.1); rintro e w57 ⟨v545, v548, rfl, ho0, ho1, hb⟩; refine ⟨_, rfl, ?_⟩; have n0_ := Aside0.mk (Kd.R_below (by (with_reducible repeat (first | apply Kd.R_alloc | apply Kd.R_drewN | apply Kd.R_drew)); exact HO_7.out) hb); have n1_ := Aside0.mk (Kd.R_below (by (with_reducible repeat (first | apply Kd.R_alloc | apply Kd.R_drewN | apply Kd.R_drew)); exact HO_8.out) hb); have n2_ := Aside0.mk (Kd.V_lower (Kd.V_mono (ok' := fun k_ => some k_ ≠ (.slice Ao56 x7_2.length co56 : Value).ownBlock ∧ some k_ ≠ (u8 : Value).ownBlock) ho0 (fun k_ hk_ => ⟨Or.elim hk_ (fun hs_ => Or.elim hs_ (fun hs_ => fun e_ => Nat.not_le.2 hs_ (Kd.R_base HO_7.out k_ e_.symm)) (fun hs_ => fun e_ => Nat.not_le.2 hs_ (Kd.R_base HO_7.out k_ e_.symm))) (fun hn_ => (Kd.fresh' (Kd.R_lt (by (with_reducible repeat (first | apply Kd.R_alloc | apply Kd.R_drewN | apply Kd.R_drew)); exact HO_7.out)) k_ hn_)), Or.elim hk_ (fun hs_ => Or.elim hs_ (fun hs_ => fun e_ => Nat.not_le.2 hs_ (Kd.R_base HO_8.out k_ e_.symm)) (fun hs_ => fun e_ => Nat.not_le.2 hs_ (Kd.R_base HO_8.out k_ e_.symm))) (fun hn_ => (Kd.fresh' (Kd.R_lt (by (with_reducible repeat (first | apply Kd.R_alloc | apply Kd.R_drewN | apply Kd.R_drew)); exact HO_8.out)) k_ hn_))⟩)) bsz_); have n3_ := Aside0.mk (Kd.V_lower (Kd.V_mono (ok' := fun k_ => some k_ ≠ (.slice Ao56 x7_2.length co56 : Value).ownBlock ∧ some k_ ≠ (u8 : Value).ownBlock) ho1 (fun k_ hk_ => ⟨Or.elim hk_ (fun hs_ => Or.elim hs_ (fun hs_ => fun e_ => Nat.not_le.2 hs_ (Kd.R_base HO_7.out k_ e_.symm)) (fun hs_ => fun e_ => Nat.not_le.2 hs_ (Kd.R_base HO_7.out k_ e_.symm))) (fun hn_ => (Kd.fresh' (Kd.R_lt (by (with_reducible repeat (first | apply Kd.R_alloc | apply Kd.R_drewN | apply Kd.R_drew)); exact HO_7.out)) k_ hn_)), Or.elim hk_ (fun hs_ => Or.elim hs_ (fun hs_ => fun e_ => Nat.not_le.2 hs_ (Kd.R_base HO_8.out k_ e_.symm)) (fun hs_ => fun e_ => Nat.not_le.2 hs_ (Kd.R_base HO_8.out k_ e_.symm))) (fun hn_ => (Kd.fresh' (Kd.R_lt (by (with_reducible repeat (first | apply Kd.R_alloc | apply Kd.R_drewN | apply Kd.R_drew)); exact HO_8.out)) k_ hn_))⟩)) bsz_); have n4_ := Aside0.mk (bst_ hb); clear HO_7; clear HO_8; clear HB; have HO_7 := n0_; have HO_8 := n1_; have HO546 := n2_; have HO549 := n3_; have HB := n4_; clear n0_ n1_ n2_ n3_ n4_; (try clear hb); (try clear hb2); (try clear hk); (try clear hi); (try clear ho0); (try clear ho1); obtain ⟨Ao58, co58, eo58⟩ := Kd.R_slice HO_8.out; subst eo58) | ((with_reducible refine gate_callee (f := 18) rfl ?_); refine goesL_ (some 78) rfl rfl Try.func18 (by kernel_rfl) rfl #[.slice A0 l0.length c0, .slice A1 l1.length c1, .slice Ao58 x8_2.length co58] rfl (by (try simp only [List.map_toArray, List.map_cons, List.map_nil]); first | done | rfl) ?_; (with_reducible refine (after_All.calls k2 (fun k_ => k_ < w.heap.size) _ _ l0 (fun k_ => k_ < w.heap.size) _ _ l1 _ _ x8_2 t551 t554 t557 _ ?side1 ?side2 ?side3 ?side4 A31.out).mono ?_); (case side1 => exact Kd.V_mk HC0.out (Kd.F_below (Kd.C_F k25_heap HR0.out) (by repeat (with_reducible first | exact HB.out | apply below_alloc | apply pw_below_drewN | apply below_drew1)))); (case side2 => exact Kd.V_mk HC1.out (Kd.F_below (Kd.C_F k66_heap HR1.out) (by repeat (with_reducible first | exact HB.out | apply below_alloc | apply pw_below_drewN | apply below_drew1)))); (case side3 => repeat (first | exact (Kd.R_reads' HO_8.out).2.2 | with_reducible first | refine Kd.C_alloc ?_ _ | refine Kd.C_drewN ?_ _ | refine Kd.C_drew ?_)); (case side4 => exact (Kd.R_reads' HO_8.out).2.1); rintro e w59 ⟨v552, v555, rfl, ho0, ho1, hb⟩; refine ⟨_, rfl, ?_⟩; have n0_ := Aside0.mk (Kd.R_below (by (with_reducible repeat (first | apply Kd.R_alloc | apply Kd.R_drewN | apply Kd.R_drew)); exact HO_7.out) hb); have n1_ := Aside0.mk (Kd.R_below (by (with_reducible repeat (first | apply Kd.R_alloc | apply Kd.R_drewN | apply Kd.R_drew)); exact HO_8.out) hb); have n2_ := Aside0.mk (Kd.V_below (by (with_reducible repeat (first | apply Kd.V_alloc | apply Kd.V_drewN | apply Kd.V_drew)); exact HO546.out) hb); have n3_ := Aside0.mk (Kd.V_below (by (with_reducible repeat (first | apply Kd.V_alloc | apply Kd.V_drewN | apply Kd.V_drew)); exact HO549.out) hb); have n4_ := Aside0.mk (Kd.V_lower (Kd.V_mono (ok' := fun k_ => some k_ ≠ (.slice Ao56 x7_2.length co56 : Value).ownBlock ∧ some k_ ≠ (.slice Ao58 x8_2.length co58 : Value).ownBlock) ho0 (fun k_ hk_ => ⟨Or.elim hk_ (fun hs_ => Or.elim hs_ (fun hs_ => fun e_ => Nat.not_le.2 hs_ (Kd.R_base HO_7.out k_ e_.symm)) (fun hs_ => fun e_ => Nat.not_le.2 hs_ (Kd.R_base HO_7.out k_ e_.symm))) (fun hn_ => (Kd.fresh' (Kd.R_lt (by (with_reducible repeat (first | apply Kd.R_alloc | apply Kd.R_drewN | apply Kd.R_drew)); exact HO_7.out)) k_ hn_)), Or.elim hk_ (fun hs_ => Or.elim hs_ (fun hs_ => fun e_ => Nat.not_le.2 hs_ (Kd.R_base HO_8.out k_ e_.symm)) (fun hs_ => fun e_ => Nat.not_le.2 hs_ (Kd.R_base HO_8.out k_ e_.symm))) (fun hn_ => (Kd.fresh' (Kd.R_lt (by (with_reducible repeat (first | apply Kd.R_alloc | apply Kd.R_drewN | apply Kd.R_drew)); exact HO_8.out)) k_ hn_))⟩)) bsz_); have n5_ := Aside0.mk (Kd.V_lower (Kd.V_mono (ok' := fun k_ => some k_ ≠ (.slice Ao56 x7_2.length co56 : Value).ownBlock ∧ some k_ ≠ (.slice Ao58 x8_2.length co58 : Value).ownBlock) ho1 (fun k_ hk_ => ⟨Or.elim hk_ (fun hs_ => Or.elim hs_ (fun hs_ => fun e_ => Nat.not_le.2 hs_ (Kd.R_base HO_7.out k_ e_.symm)) (fun hs_ => fun e_ => Nat.not_le.2 hs_ (Kd.R_base HO_7.out k_ e_.symm))) (fun hn_ => (Kd.fresh' (Kd.R_lt (by (with_reducible repeat (first | apply Kd.R_alloc | apply Kd.R_drewN | apply Kd.R_drew)); exact HO_7.out)) k_ hn_)), Or.elim hk_ (fun hs_ => Or.elim hs_ (fun hs_ => fun e_ => Nat.not_le.2 hs_ (Kd.R_base HO_8.out k_ e_.symm)) (fun hs_ => fun e_ => Nat.not_le.2 hs_ (Kd.R_base HO_8.out k_ e_.symm))) (fun hn_ => (Kd.fresh' (Kd.R_lt (by (with_reducible repeat (first | apply Kd.R_alloc | apply Kd.R_drewN | apply Kd.R_drew)); exact HO_8.out)) k_ hn_))⟩)) bsz_); have n6_ := Aside0.mk (bst_ hb); clear HO_7; clear HO_8; clear HO546; clear HO549; clear HB; have HO_7 := n0_; have HO_8 := n1_; have HO546 := n2_; have HO549 := n3_; have HO553 := n4_; have HO556 := n5_; have HB := n6_; clear n0_ n1_ n2_ n3_ n4_ n5_ n6_; (try clear hb); (try clear hb2); (try clear hk); (try clear hi); (try clear ho0); (try clear ho1); obtain ⟨Ao60, co60, eo60⟩ := Kd.V_slice HO546.out; subst eo60) | (go_at_call 13; (with_reducible refine (handshakerlaw22_Refs.calls k2 _ _ t544 t558 _ ?side1 ?side2 A33.out).mono ?_); (case side1 => repeat (first | exact (Kd.V_reads' HO546.out).2.2 | with_reducible first | refine Kd.C_alloc ?_ _ | refine Kd.C_drewN ?_ _ | refine Kd.C_drew ?_)); (case side2 => exact (Kd.V_reads' HO546.out).2.1); rintro e w61 ⟨v559, rfl, ho0, hb⟩; have n0_ := Aside0.mk (Kd.R_below (by (with_reducible repeat (first | apply Kd.R_alloc | apply Kd.R_drewN | apply Kd.R_drew)); exact HO_7.out) hb); have n1_ := Aside0.mk (Kd.R_below (by (with_reducible repeat (first | apply Kd.R_alloc | apply Kd.R_drewN | apply Kd.R_drew)); exact HO_8.out) hb); have n2_ := Aside0.mk (Kd.V_elder' (by (with_reducible repeat (first | apply Kd.V_alloc | apply Kd.V_drewN | apply Kd.V_drew)); exact HO546.out) (Kd.S_base ho0) hb); have n3_ := Aside0.mk (Kd.V_elder' (by (with_reducible repeat (first | apply Kd.V_alloc | apply Kd.V_drewN | apply Kd.V_drew)); exact HO549.out) (Kd.S_base ho0) hb); have n4_ := Aside0.mk (Kd.V_elder' (by (with_reducible repeat (first | apply Kd.V_alloc | apply Kd.V_drewN | apply Kd.V_drew)); exact HO553.out) (Kd.S_base ho0) hb); have n5_ := Aside0.mk (Kd.V_elder' (by (with_reducible repeat (first | apply Kd.V_alloc | apply Kd.V_drewN | apply Kd.V_drew)); exact HO556.out) (Kd.S_base ho0) hb); have n6_ := Aside0.mk (Kd.S_lower ho0 bsz_); have n7_ := Aside0.mk (bst_ hb); clear HO_7; clear HO_8; clear HO546; clear HO549; clear HO553; clear HO556; clear HB; have HO_7 := n0_; have HO_8 := n1_; have HO546 := n2_; have HO549 := n3_; have HO553 := n4_; have HO556 := n5_; have HO560 := n6_; have HB := n7_; clear n0_ n1_ n2_ n3_ n4_ n5_ n6_ n7_; (try clear hb); (try clear hb2); (try clear hk); (try clear hi); (try clear ho0); obtain ⟨Ao62, co62, eo62⟩ := Kd.V_slice HO553.out; subst eo62) | (go_at_call 13; (with_reducible refine (handshakerlaw22_Refs.calls k2 _ _ t551 t561 _ ?side1 ?side2 A34.out).mono ?_); (case side1 => repeat (first | exact (Kd.V_reads' HO553.out).2.2 | with_reducible first | refine Kd.C_alloc ?_ _ | refine Kd.C_drewN ?_ _ | refine Kd.C_drew ?_)); (case side2 => exact (Kd.V_reads' HO553.out).2.1); rintro e w63 ⟨v562, rfl, ho0, hb⟩; have n0_ := Aside0.mk (Kd.R_below (by (with_reducible repeat (first | apply Kd.R_alloc | apply Kd.R_drewN | apply Kd.R_drew)); exact HO_7.out) hb); have n1_ := Aside0.mk (Kd.R_below (by (with_reducible repeat (first | apply Kd.R_alloc | apply Kd.R_drewN | apply Kd.R_drew)); exact HO_8.out) hb); have n2_ := Aside0.mk (Kd.V_elder' (by (with_reducible repeat (first | apply Kd.V_alloc | apply Kd.V_drewN | apply Kd.V_drew)); exact HO546.out) (Kd.S_base ho0) hb); have n3_ := Aside0.mk (Kd.V_elder' (by (with_reducible repeat (first | apply Kd.V_alloc | apply Kd.V_drewN | apply Kd.V_drew)); exact HO549.out) (Kd.S_base ho0) hb); have n4_ := Aside0.mk (Kd.V_elder' (by (with_reducible repeat (first | apply Kd.V_alloc | apply Kd.V_drewN | apply Kd.V_drew)); exact HO553.out) (Kd.S_base ho0) hb); have n5_ := Aside0.mk (Kd.V_elder' (by (with_reducible repeat (first | apply Kd.V_alloc | apply Kd.V_drewN | apply Kd.V_drew)); exact HO556.out) (Kd.S_base ho0) hb); have n6_ := Aside0.mk (Kd.S_elder' (by (with_reducible repeat (first | apply Kd.S_alloc | apply Kd.S_drewN | apply Kd.S_drew)); exact HO560.out) (Kd.S_base ho0) hb); have n7_ := Aside0.mk (Kd.S_lower (Kd.S_new' ho0 (Kd.S_lt (by (with_reducible repeat (first | apply Kd.S_alloc | apply Kd.S_drewN | apply Kd.S_drew)); exact HO560.out))) bsz_); have n8_ := Aside0.mk (bst_ hb); clear HO_7; clear HO_8; clear HO546; clear HO549; clear HO553; clear HO556; clear HO560; clear HB; have HO_7 := n0_; have HO_8 := n1_; have HO546 := n2_; have HO549 := n3_; have HO553 := n4_; have HO556 := n5_; have HO560 := n6_; have HO563 := n7_; have HB := n8_; clear n0_ n1_ n2_ n3_ n4_ n5_ n6_ n7_ n8_; (try clear hb); (try clear hb2); (try clear hk); (try clear hi); (try clear ho0); obtain ⟨Ao64, co64, eo64⟩ := Kd.S_slice HO560.out; subst eo64; obtain ⟨Ao65, co65, eo65⟩ := Kd.S_slice HO563.out; subst eo65) | (go_at_call 26; (with_reducible refine (handshakerref22_Same.calls k2 _ _ t558 _ _ t561 true _ ?side1 ?side2 ?side3 ?side4 A35.out).mono ?_); (case side1 => repeat (first | exact (Kd.S_reads' HO560.out).2.2 | with_reducible first | refine Kd.C_alloc ?_ _ | refine Kd.C_drewN ?_ _ | refine Kd.C_drew ?_)); (case side2 => exact (Kd.S_reads' HO560.out).2.1); (case side3 => repeat (first | exact (Kd.S_reads' HO563.out).2.2 | with_reducible first | refine Kd.C_alloc ?_ _ | refine Kd.C_drewN ?_ _ | refine Kd.C_drew ?_)); (case side4 => exact (Kd.S_reads' HO563.out).2.1); rintro e w' ⟨rfl, ⟨nd, rfl⟩⟩; obtain ⟨Ao66, co66, eo66⟩ := Kd.V_slice HO549.out; subst eo66; obtain ⟨Ao67, co67, eo67⟩ := Kd.V_slice HO556.out; subst eo67) | (go_at_call 27; (with_reducible refine (handshakerref02_Same.calls k2 _ _ t547 _ _ t554 true _ ?side1 ?side2 ?side3 ?side4 A37.out).mono ?_); (case side1 => repeat (first | exact (Kd.V_reads' HO549.out).2.2 | with_reducible first | refine Kd.C_alloc ?_ _ | refine Kd.C_drewN ?_ _ | refine Kd.C_drew ?_)); (case side2 => exact (Kd.V_reads' HO549.out).2.1); (case side3 => repeat (first | exact (Kd.V_reads' HO556.out).2.2 | with_reducible first | refine Kd.C_alloc ?_ _ | refine Kd.C_drewN ?_ _ | refine Kd.C_drew ?_)); (case side4 => exact (Kd.V_reads' HO556.out).2.1); rintro e w' ⟨rfl, ⟨nd, rfl⟩⟩) | (go_at_call 12; (with_reducible refine (handshakerlaw22_awake.calls k2  t567 _ A55.out).mono ?_); rintro e w68 ⟨rfl, hb⟩; have n0_ := Aside0.mk (Kd.R_below (by (with_reducible repeat (first | apply Kd.R_alloc | apply Kd.R_drewN | apply Kd.R_drew)); exact HO_7.out) hb); have n1_ := Aside0.mk (Kd.R_below (by (with_reducible repeat (first | apply Kd.R_alloc | apply Kd.R_drewN | apply Kd.R_drew)); exact HO_8.out) hb); have n2_ := Aside0.mk (Kd.V_below (by (with_reducible repeat (first | apply Kd.V_alloc | apply Kd.V_drewN | apply Kd.V_drew)); exact HO546.out) hb); have n3_ := Aside0.mk (Kd.V_below (by (with_reducible repeat (first | apply Kd.V_alloc | apply Kd.V_drewN | apply Kd.V_drew)); exact HO549.out) hb); have n4_ := Aside0.mk (Kd.V_below (by (with_reducible repeat (first | apply Kd.V_alloc | apply Kd.V_drewN | apply Kd.V_drew)); exact HO553.out) hb); have n5_ := Aside0.mk (Kd.V_below (by (with_reducible repeat (first | apply Kd.V_alloc | apply Kd.V_drewN | apply Kd.V_drew)); exact HO556.out) hb); have n6_ := Aside0.mk (Kd.S_below (by (with_reducible repeat (first | apply Kd.S_alloc | apply Kd.S_drewN | apply Kd.S_drew)); exact HO560.out) hb); have n7_ := Aside0.mk (Kd.S_below (by (with_reducible repeat (first | apply Kd.S_alloc | apply Kd.S_drewN | apply Kd.S_drew)); exact HO563.out) hb); have n8_ := Aside0.mk (bst_ hb); clear HO_7; clear HO_8; clear HO546; clear HO549; clear HO553; clear HO556; clear HO560; clear HO563; clear HB; have HO_7 := n0_; have HO_8 := n1_; have HO546 := n2_; have HO549 := n3_; have HO553 := n4_; have HO556 := n5_; have HO560 := n6_; have HO563 := n7_; have HB := n8_; clear n0_ n1_ n2_ n3_ n4_ n5_ n6_ n7_ n8_; (try clear hb); (try clear hb2); (try clear hk); (try clear hi)))
                 go_ret
                 exact ⟨by first | rfl | (simp [errW_none, errW_some] <;> rfl) | (simp [*, errW_none, errW_some] <;> rfl), by repeat (with_reducible first | exact HB.out | apply below_alloc | apply pw_below_drewN | apply below_drew1)⟩
             · replace c38 := Bool.eq_false_iff.mpr c38
               subst c38
               have H1 : (some false) = some r := by rw [if_neg (show ¬ (false = true) by decide)] at H; exact H
               clear H
               have H := H1
               clear H1
               exact absurd (Option.some.inj H) (by rw [HT.out]; decide)
           · replace c36 := Bool.eq_false_iff.mpr c36
             subst c36
             have H1 : (some false) = some r := by rw [if_neg (show ¬ (false = true) by decide)] at H; exact H
             clear H
             have H := H1
             clear H1
             exact absurd (Option.some.inj H) (by rw [HT.out]; decide)
         · rw [if_neg c32] at H
           have c32b0 : (t550 == t557) = false := beq_eq_false_iff_ne.mpr c32
           have c32b1 : (t550 != t557) = true := bne_iff_ne.mpr c32
           exact absurd (Option.some.inj H) (by rw [HT.out]; decide)

/-- THE ONE PURE STATEMENT of handshakerlaw22_AfterOrder. -/
def handshakerlaw22_AfterOrder.Pure : Prop := ∀ (l0 : List (S25)) (l1 : List (S66)) (a2 : Int), l0.length ≤ maxLen → l0.length * 32 ≤ 140737488351232 → (∀ y ∈ l0, wfS25 y) → l1.length ≤ maxLen → l1.length * 16 ≤ 140737488351232 → (∀ y ∈ l1, wfS66 y) → (Lit.int .u8 a2).wf = true → ∃ k, handshakerlaw22_AfterOrder.f k l0 l1 a2 = some true

end Go.Proofs.Ytihcnbhcemkncaa.A
