-- PRINTED by print.py (a twelfth state) out of the translation. Not trusted: Lean checks it.
import Derived.Test.YtbcpnbmegaodbaaTcx0
import Derived.Test.YtbcpnbmegaodbaaTcx1
import Derived.Test.YtbcpnbmegaodbaaTcx3
import Derived.Test.YtbcpnbmegaodbaaTcx6
namespace Go.Proofs.Ytbcpnbmegaodbaa.Tc
open Go.Proofs.Ytbcpnbmegaodbaa.Ho
open Go.RowKit Go.Proofs.YtbcpnbmegaodbaaW.PrintWords Go.Proofs.YtbcpnbmegaodbaaW.PrintLast Go.Proofs.YtbcpnbmegaodbaaW.PrintMore
attribute [local go_sem] max2_int min2_int max_two min_two max_three min_three max_four min_four   -- for this text's walks alone
set_option linter.unusedVariables false
set_option linter.unusedSimpArgs false

/-! ### handshakerlaw07_TermTwo: function 11 -/
mutual
def handshakerlaw07_TermTwo.j0 : Nat → List (S41) → List (S41) → List (S58) → List Int → Bool → Option (Bool)
  | 0, _, _, _, _, _ => none
  | k + 1, x0, x1, x2, x3, x38 => if x38 = true then ((handshakerlaw07_awake.f k).bind fun t337 => (some t337)) else ((term_Eval.f k x0 x2 x3).bind fun bt338 => ((term_Eval.f k x1 x2 x3).bind fun bt340 => (if bt338.2 = 0 then (handshakerlaw07_TermTwo.j1 k x0 x1 x2 x3 bt338.1 bt340.1 (bt340.2 != 0)) else (handshakerlaw07_TermTwo.j1 k x0 x1 x2 x3 bt338.1 bt340.1 true))))
def handshakerlaw07_TermTwo.j1 : Nat → List (S41) → List (S41) → List (S58) → List Int → Int → Int → Bool → Option (Bool)
  | 0, _, _, _, _, _, _, _ => none
  | k + 1, x0, x1, x2, x3, x9, x11, x59 => if x59 = true then ((handshakerlaw07_awake.f k).bind fun t342 => (some t342)) else ((some (([] : List (S41)) : List (S41))).bind fun y343 => (if y343.length + x0.length < 8796093022208 then ((some (y343 ++ x0 : List (S41))).bind fun y346 => (if y346.length + x1.length < 8796093022208 then (handshakerlaw07_TermTwo.l0 k x0 x2 x3 x9 x11 (y346 ++ x1) 4) else (none))) else (none)))
def handshakerlaw07_TermTwo.l0 : Nat → List (S41) → List (S58) → List Int → Int → Int → List (S41) → Int → Option (Bool)
  | 0, _, _, _, _, _, _, _ => none
  | k + 1, x0, x2, x3, x9, x11, x13, x14 => if x14 ≤ 10 then ((some (([] : List (S41)) : List (S41))).bind fun y369 => (if y369.length + x13.length < 8796093022208 then ((some (y369 ++ x13 : List (S41))).bind fun y372 => (if y372.length < 8796093022208 then ((term_Eval.f k (y372 ++ [(⟨x14, 0⟩ : S41)]) x2 x3).bind fun bt378 => ((term_Eval.f k (([(⟨1, x9⟩ : S41), (⟨1, x11⟩ : S41), (⟨x14, 0⟩ : S41)] : List (S41))) x2 ([] : List Int)).bind fun bt383 => (if bt378.1 = bt383.1 then (if bt378.2 = 0 then (if bt383.2 = 0 then (handshakerlaw07_TermTwo.l0 k x0 x2 x3 x9 x11 x13 (wrap64 (x14 + 1))) else (some false)) else (some false)) else (some false)))) else (none))) else (none))) else ((some (([] : List (S41)) : List (S41))).bind fun y352 => (if y352.length + x0.length < 8796093022208 then ((some (y352 ++ x0 : List (S41))).bind fun y355 => (if y355.length < 8796093022208 then ((term_Eval.f k (y355 ++ [(⟨11, 0⟩ : S41)]) x2 x3).bind fun bt361 => (if bt361.2 = 0 then (if bt361.1 = 1 then (if x9 = 0 then (if bt361.1 = 0 then ((term_Check.f k x13).bind fun t363 => (if t363 = 2 then ((handshakerlaw07_awake.f k).bind fun t364 => (some t364)) else (some false))) else ((term_Check.f k x13).bind fun t365 => (if t365 = 2 then ((handshakerlaw07_awake.f k).bind fun t366 => (some t366)) else (some false)))) else (some false)) else (if x9 = 0 then (some false) else (if bt361.1 = 0 then ((term_Check.f k x13).bind fun t367 => (if t367 = 2 then ((handshakerlaw07_awake.f k).bind fun t368 => (some t368)) else (some false))) else (some false)))) else (some false))) else (none))) else (none)))
end
def handshakerlaw07_TermTwo.f (k : Nat) (l0 : List (S41)) (l1 : List (S41)) (l2 : List (S58)) (l3 : List Int) : Option (Bool) := if (l0.length : Int) > 5 then (handshakerlaw07_TermTwo.j0 k l0 l1 l2 l3 true) else (if (l1.length : Int) > 5 then (handshakerlaw07_TermTwo.j0 k l0 l1 l2 l3 true) else (if (l2.length : Int) > 64 then (handshakerlaw07_TermTwo.j0 k l0 l1 l2 l3 true) else (handshakerlaw07_TermTwo.j0 k l0 l1 l2 l3 (decide ((l3.length : Int) > 8)))))
theorem handshakerlaw07_TermTwo.mono_l : ∀ k, (∀ y0 y1 y2 y3 y4, LeO (handshakerlaw07_TermTwo.j0 k y0 y1 y2 y3 y4) (handshakerlaw07_TermTwo.j0 (k + 1) y0 y1 y2 y3 y4)) ∧ (∀ y0 y1 y2 y3 y4 y5 y6, LeO (handshakerlaw07_TermTwo.j1 k y0 y1 y2 y3 y4 y5 y6) (handshakerlaw07_TermTwo.j1 (k + 1) y0 y1 y2 y3 y4 y5 y6)) ∧ (∀ y0 y1 y2 y3 y4 y5 y6, LeO (handshakerlaw07_TermTwo.l0 k y0 y1 y2 y3 y4 y5 y6) (handshakerlaw07_TermTwo.l0 (k + 1) y0 y1 y2 y3 y4 y5 y6))
  | 0 => ⟨fun _ _ _ _ _ r h => by simp [handshakerlaw07_TermTwo.j0] at h, fun _ _ _ _ _ _ _ r h => by simp [handshakerlaw07_TermTwo.j1] at h, fun _ _ _ _ _ _ _ r h => by simp [handshakerlaw07_TermTwo.l0] at h⟩
  | k + 1 => by
    obtain ⟨ih0, ih1, ih2⟩ := handshakerlaw07_TermTwo.mono_l k
    refine ⟨?_, ?_, ?_⟩
    · intro y0 y1 y2 y3 y4
      unfold handshakerlaw07_TermTwo.j0
      repeat' first
      | (with_reducible exact ih0 _ _ _ _ _)
      | (with_reducible exact ih1 _ _ _ _ _ _ _)
      | (with_reducible exact ih2 _ _ _ _ _ _ _)
      | (with_reducible exact handshakerlaw07_awake.mono _)
      | (with_reducible exact term_Check.mono _ _)
      | (with_reducible exact term_Eval.mono _ _ _ _)
      | (with_reducible exact LeO.refl _)
      | (with_reducible exact LeO.none _)
      | (with_reducible refine LeO.ite ?_ ?_)
      | (with_reducible refine LeO.bind ?_ (fun _ => ?_))
      | exact ih0 _ _ _ _ _
      | exact ih1 _ _ _ _ _ _ _
      | exact ih2 _ _ _ _ _ _ _
      | exact handshakerlaw07_awake.mono _
      | exact term_Check.mono _ _
      | exact term_Eval.mono _ _ _ _
      | exact LeO.none _
      | refine LeO.ite ?_ ?_
      | refine LeO.bind ?_ (fun _ => ?_)
    · intro y0 y1 y2 y3 y4 y5 y6
      unfold handshakerlaw07_TermTwo.j1
      repeat' first
      | (with_reducible exact ih0 _ _ _ _ _)
      | (with_reducible exact ih1 _ _ _ _ _ _ _)
      | (with_reducible exact ih2 _ _ _ _ _ _ _)
      | (with_reducible exact handshakerlaw07_awake.mono _)
      | (with_reducible exact term_Check.mono _ _)
      | (with_reducible exact term_Eval.mono _ _ _ _)
      | (with_reducible exact LeO.refl _)
      | (with_reducible exact LeO.none _)
      | (with_reducible refine LeO.ite ?_ ?_)
      | (with_reducible refine LeO.bind ?_ (fun _ => ?_))
      | exact ih0 _ _ _ _ _
      | exact ih1 _ _ _ _ _ _ _
      | exact ih2 _ _ _ _ _ _ _
      | exact handshakerlaw07_awake.mono _
      | exact term_Check.mono _ _
      | exact term_Eval.mono _ _ _ _
      | exact LeO.none _
      | refine LeO.ite ?_ ?_
      | refine LeO.bind ?_ (fun _ => ?_)
    · intro y0 y1 y2 y3 y4 y5 y6
      unfold handshakerlaw07_TermTwo.l0
      repeat' first
      | (with_reducible exact ih0 _ _ _ _ _)
      | (with_reducible exact ih1 _ _ _ _ _ _ _)
      | (with_reducible exact ih2 _ _ _ _ _ _ _)
      | (with_reducible exact handshakerlaw07_awake.mono _)
      | (with_reducible exact term_Check.mono _ _)
      | (with_reducible exact term_Eval.mono _ _ _ _)
      | (with_reducible exact LeO.refl _)
      | (with_reducible exact LeO.none _)
      | (with_reducible refine LeO.ite ?_ ?_)
      | (with_reducible refine LeO.bind ?_ (fun _ => ?_))
      | exact ih0 _ _ _ _ _
      | exact ih1 _ _ _ _ _ _ _
      | exact ih2 _ _ _ _ _ _ _
      | exact handshakerlaw07_awake.mono _
      | exact term_Check.mono _ _
      | exact term_Eval.mono _ _ _ _
      | exact LeO.none _
      | refine LeO.ite ?_ ?_
      | refine LeO.bind ?_ (fun _ => ?_)
theorem handshakerlaw07_TermTwo.mono : ∀ a0 a1 a2 a3 k, LeO (handshakerlaw07_TermTwo.f k a0 a1 a2 a3) (handshakerlaw07_TermTwo.f (k + 1) a0 a1 a2 a3) := by
  intro a0 a1 a2 a3 k
  obtain ⟨ih0, ih1, ih2⟩ := handshakerlaw07_TermTwo.mono_l k
  unfold handshakerlaw07_TermTwo.f
  repeat' first
      | (with_reducible exact ih0 _ _ _ _ _)
      | (with_reducible exact ih1 _ _ _ _ _ _ _)
      | (with_reducible exact ih2 _ _ _ _ _ _ _)
      | (with_reducible exact handshakerlaw07_awake.mono _)
      | (with_reducible exact term_Check.mono _ _)
      | (with_reducible exact term_Eval.mono _ _ _ _)
      | (with_reducible exact LeO.refl _)
      | (with_reducible exact LeO.none _)
      | (with_reducible refine LeO.ite ?_ ?_)
      | (with_reducible refine LeO.bind ?_ (fun _ => ?_))
      | exact ih0 _ _ _ _ _
      | exact ih1 _ _ _ _ _ _ _
      | exact ih2 _ _ _ _ _ _ _
      | exact handshakerlaw07_awake.mono _
      | exact term_Check.mono _ _
      | exact term_Eval.mono _ _ _ _
      | exact LeO.none _
      | refine LeO.ite ?_ ?_
      | refine LeO.bind ?_ (fun _ => ?_)
set_option maxHeartbeats 8000000 in
set_option maxRecDepth 100000 in
theorem handshakerlaw07_TermTwo.calls (k : Nat) (A0 : Option Addr) (c0 : Nat) (l0 : List (S41)) (A1 : Option Addr) (c1 : Nat) (l1 : List (S41)) (A2 : Option Addr) (c2 : Nat) (l2 : List (S58)) (A3 : Option Addr) (c3 : Nat) (l3 : List Int) (r : Bool) (w : World) (HT : Aside0 (r = true)) (hr0 : Kd.C k41 w A0 l0.length l0) (hc0 : l0.length ≤ c0) (hr1 : Kd.C k41 w A1 l1.length l1) (hc1 : l1.length ≤ c1) (hr2 : Kd.C k58 w A2 l2.length l2) (hc2 : l2.length ≤ c2) (hr3 : Kd.C (Kd.int .i64) w A3 l3.length l3) (hc3 : l3.length ≤ c3) (h : handshakerlaw07_TermTwo.f k l0 l1 l2 l3 = some r) :
    Calls Try.prog 11 #[.slice A0 l0.length c0, .slice A1 l1.length c1, .slice A2 l2.length c2, .slice A3 l3.length c3] w fun e w' => e = .returned (.bool r) ∧ Below w.heap.size w w' := by
  have hu41 := Try.underlying41
  have HR0 := Aside0.mk hr0
  have HC0 := Aside0.mk hc0
  clear hr0 hc0
  have HR1 := Aside0.mk hr1
  have HC1 := Aside0.mk hc1
  clear hr1 hc1
  have HR2 := Aside0.mk hr2
  have HC2 := Aside0.mk hc2
  clear hr2 hc2
  have HR3 := Aside0.mk hr3
  have HC3 := Aside0.mk hc3
  clear hr3 hc3
  have HB := Aside0.mk (Below.refl w.heap.size w)
  have H : (if (l0.length : Int) > 5 then (handshakerlaw07_TermTwo.j0 k l0 l1 l2 l3 true) else (if (l1.length : Int) > 5 then (handshakerlaw07_TermTwo.j0 k l0 l1 l2 l3 true) else (if (l2.length : Int) > 64 then (handshakerlaw07_TermTwo.j0 k l0 l1 l2 l3 true) else (handshakerlaw07_TermTwo.j0 k l0 l1 l2 l3 (decide ((l3.length : Int) > 8)))))) = some r := h
  clear h
  have HC5 := Aside0.mk H
  clear H
  go_enter Try.func11, Try.ntmps11
  go_upto_region 1 with (fail)
  go_cut [38] (fun v38 wc => ∃ (kq : Nat) (x38_4 : Bool), v38 = .bool x38_4 ∧ Aside0 (handshakerlaw07_TermTwo.j0 kq l0 l1 l2 l3 x38_4 = some r) ∧ Aside0 (kq ≤ k) ∧ Aside0 (Below w.heap.size w wc))
  case first =>
    have H := HC5.out
    clear HC5
    by_cases c6 : (l0.length : Int) > 5
    · rw [if_pos c6] at H
      have c6b0 : decide (5 < (l0.length : Int)) = true := decide_eq_true c6
      have c6b1 : decide (5 < l0.length) = true := decide_eq_true (by omega)
      clear c6
      (first | rw [c6b0] | (simp only [i64_w, i32_w]; rw [c6b0]) | skip)
      have H' := Aside0.mk H
      clear H
      go_wp2
      go_meet
      case rel => exact ⟨_, (true), (by first | rfl | (simp; done) | (simp [*]; done)), H', ⟨by first | omega | exact Nat.le_refl _⟩, ⟨by repeat (first | (with_reducible first | exact HB.out | apply below_alloc | apply pw_below_drewN | apply below_drew1) | exact HB.out)⟩⟩
    · rw [if_neg c6] at H
      have c6b0 : decide (5 < (l0.length : Int)) = false := decide_eq_false c6
      have c6b1 : decide (5 < l0.length) = false := decide_eq_false (by omega)
      clear c6
      (first | rw [c6b0] | (simp only [i64_w, i32_w]; rw [c6b0]) | skip)
      by_cases c7 : (l1.length : Int) > 5
      · rw [if_pos c7] at H
        have c7b0 : decide (5 < (l1.length : Int)) = true := decide_eq_true c7
        have c7b1 : decide (5 < l1.length) = true := decide_eq_true (by omega)
        clear c7
        have H' := Aside0.mk H
        clear H
        go_wp2
        go_meet
        case rel => exact ⟨_, (true), (by first | rfl | (simp; done) | (simp [*]; done)), H', ⟨by first | omega | exact Nat.le_refl _⟩, ⟨by repeat (first | (with_reducible first | exact HB.out | apply below_alloc | apply pw_below_drewN | apply below_drew1) | exact HB.out)⟩⟩
      · rw [if_neg c7] at H
        have c7b0 : decide (5 < (l1.length : Int)) = false := decide_eq_false c7
        have c7b1 : decide (5 < l1.length) = false := decide_eq_false (by omega)
        clear c7
        by_cases c8 : (l2.length : Int) > 64
        · rw [if_pos c8] at H
          have c8b0 : decide (64 < (l2.length : Int)) = true := decide_eq_true c8
          have c8b1 : decide (64 < l2.length) = true := decide_eq_true (by omega)
          clear c8
          have H' := Aside0.mk H
          clear H
          go_wp2
          go_meet
          case rel => exact ⟨_, (true), (by first | rfl | (simp; done) | (simp [*]; done)), H', ⟨by first | omega | exact Nat.le_refl _⟩, ⟨by repeat (first | (with_reducible first | exact HB.out | apply below_alloc | apply pw_below_drewN | apply below_drew1) | exact HB.out)⟩⟩
        · rw [if_neg c8] at H
          have c8b0 : decide (64 < (l2.length : Int)) = false := decide_eq_false c8
          have c8b1 : decide (64 < l2.length) = false := decide_eq_false (by omega)
          clear c8
          have H' := Aside0.mk H
          clear H
          go_wp2
          go_meet
          case rel => exact ⟨_, (decide ((l3.length : Int) > 8)), (by first | rfl | (simp; done) | (simp [*]; done)), H', ⟨by first | omega | exact Nat.le_refl _⟩, ⟨by repeat (first | (with_reducible first | exact HB.out | apply below_alloc | apply pw_below_drewN | apply below_drew1) | exact HB.out)⟩⟩
  case rest =>
    clear HC5
    try clear c1
    try clear c2
    try clear p2
    try clear c3
    try clear c6
    try clear c6b0
    try clear c6b1
    try clear c7
    try clear c7b0
    try clear c7b1
    try clear c8
    try clear c8b0
    try clear c8b1
    obtain ⟨kq, x38_4, rfl, HA, HJ4, HB⟩ := hcut
    cases kq with
    | zero => exact absurd HA.out (by simp [handshakerlaw07_TermTwo.j0])
    | succ kj4 =>
      have H := HA.out
      clear HA
      simp only [handshakerlaw07_TermTwo.j0] at H
      by_cases c9 : x38_4 = true
      · subst c9
        have H1 : ((handshakerlaw07_awake.f kj4).bind fun t337 => (some t337)) = some r := by rw [if_pos rfl] at H; exact H
        clear H
        have H := H1
        clear H1
        replace H := Option.bind_eq_some_iff.mp H
        obtain ⟨t337, A100, H⟩ := H
        replace H : (some t337) = some r := H
        have A10 := Aside0.mk A100
        clear A100
        obtain rfl := Option.some.inj H
        go_wp2_with (first | ((with_reducible refine gate_callee (f := 27) rfl ?_); refine goesL_ (some 39) rfl rfl Try.func27 (by kernel_rfl) rfl #[] rfl (by (try simp only [List.map_toArray, List.map_cons, List.map_nil]); first | done | rfl | (simp only [List.length_drop, List.length_take]; rfl)) ?_; (with_reducible refine (handshakerlaw07_awake.calls kj4  t337 _ A10.out).mono ?_); rintro e w11 ⟨rfl, hb⟩; refine ⟨_, rfl, ?_⟩; have n0_ := Aside0.mk (below_step (by repeat (first | (with_reducible first | exact HB.out | apply below_alloc | apply pw_below_drewN | apply below_drew1) | exact HB.out)) hb); clear HB; have HB := n0_; clear n0_; (try clear hb); (try clear hb2); (try clear hk); (try clear hi)))
        go_ret
        exact ⟨by first | rfl | (simp [errW_none, errW_some] <;> rfl) | (simp [*, errW_none, errW_some] <;> rfl), by repeat (first | (with_reducible first | exact HB.out | apply below_alloc | apply pw_below_drewN | apply below_drew1) | exact HB.out)⟩
      · replace c9 := Bool.eq_false_iff.mpr c9
        subst c9
        have H1 : ((term_Eval.f kj4 l0 l2 l3).bind fun bt338 => ((term_Eval.f kj4 l1 l2 l3).bind fun bt340 => (if bt338.2 = 0 then (handshakerlaw07_TermTwo.j1 kj4 l0 l1 l2 l3 bt338.1 bt340.1 (bt340.2 != 0)) else (handshakerlaw07_TermTwo.j1 kj4 l0 l1 l2 l3 bt338.1 bt340.1 true)))) = some r := by rw [if_neg (show ¬ (false = true) by decide)] at H; exact H
        clear H
        have H := H1
        clear H1
        replace H := Option.bind_eq_some_iff.mp H
        obtain ⟨⟨t338, t339⟩, A120, H⟩ := H
        replace H : ((term_Eval.f kj4 l1 l2 l3).bind fun bt340 => (if t339 = 0 then (handshakerlaw07_TermTwo.j1 kj4 l0 l1 l2 l3 t338 bt340.1 (bt340.2 != 0)) else (handshakerlaw07_TermTwo.j1 kj4 l0 l1 l2 l3 t338 bt340.1 true))) = some r := H
        have A12 := Aside0.mk A120
        clear A120
        replace H := Option.bind_eq_some_iff.mp H
        obtain ⟨⟨t340, t341⟩, A130, H⟩ := H
        replace H : (if t339 = 0 then (handshakerlaw07_TermTwo.j1 kj4 l0 l1 l2 l3 t338 t340 (t341 != 0)) else (handshakerlaw07_TermTwo.j1 kj4 l0 l1 l2 l3 t338 t340 true)) = some r := H
        have A13 := Aside0.mk A130
        clear A130
        have HC14 := Aside0.mk H
        clear H
        go_upto_region 5 with (first | ((with_reducible refine gate_callee (f := 28) rfl ?_); refine goesL_ (some 44) rfl rfl Try.func28 (by kernel_rfl) rfl #[.slice A0 l0.length c0, .slice A2 l2.length c2, .slice A3 l3.length c3] rfl (by (try simp only [List.map_toArray, List.map_cons, List.map_nil]); first | done | rfl | (simp only [List.length_drop, List.length_take]; rfl)) ?_; (with_reducible refine (term_Eval.calls kj4 _ _ l0 _ _ l2 _ _ l3 t338 t339 _ ?side1 ?side2 ?side3 ?side4 ?side5 ?side6 A12.out).mono ?_); (case side1 => repeat (first | exact (Kd.C_below HR0.out HB.out) | (with_reducible refine Kd.C_alloc ?_ _) | (with_reducible refine Kd.C_drewN ?_ _) | (with_reducible refine Kd.C_drew ?_))); (case side2 => exact HC0.out); (case side3 => repeat (first | exact (Kd.C_below HR2.out HB.out) | (with_reducible refine Kd.C_alloc ?_ _) | (with_reducible refine Kd.C_drewN ?_ _) | (with_reducible refine Kd.C_drew ?_))); (case side4 => exact HC2.out); (case side5 => repeat (first | exact (Kd.C_below HR3.out HB.out) | (with_reducible refine Kd.C_alloc ?_ _) | (with_reducible refine Kd.C_drewN ?_ _) | (with_reducible refine Kd.C_drew ?_))); (case side6 => exact HC3.out); rintro e w15 ⟨rfl, hb⟩; refine ⟨_, rfl, ?_⟩; have n0_ := Aside0.mk (below_step (by repeat (first | (with_reducible first | exact HB.out | apply below_alloc | apply pw_below_drewN | apply below_drew1) | exact HB.out)) hb); clear HB; have HB := n0_; clear n0_; (try clear hb); (try clear hb2); (try clear hk); (try clear hi)) | ((with_reducible refine gate_callee (f := 28) rfl ?_); refine goesL_ (some 51) rfl rfl Try.func28 (by kernel_rfl) rfl #[.slice A1 l1.length c1, .slice A2 l2.length c2, .slice A3 l3.length c3] rfl (by (try simp only [List.map_toArray, List.map_cons, List.map_nil]); first | done | rfl | (simp only [List.length_drop, List.length_take]; rfl)) ?_; (with_reducible refine (term_Eval.calls kj4 _ _ l1 _ _ l2 _ _ l3 t340 t341 _ ?side1 ?side2 ?side3 ?side4 ?side5 ?side6 A13.out).mono ?_); (case side1 => repeat (first | exact (Kd.C_below HR1.out HB.out) | (with_reducible refine Kd.C_alloc ?_ _) | (with_reducible refine Kd.C_drewN ?_ _) | (with_reducible refine Kd.C_drew ?_))); (case side2 => exact HC1.out); (case side3 => repeat (first | exact (Kd.C_below HR2.out HB.out) | (with_reducible refine Kd.C_alloc ?_ _) | (with_reducible refine Kd.C_drewN ?_ _) | (with_reducible refine Kd.C_drew ?_))); (case side4 => exact HC2.out); (case side5 => repeat (first | exact (Kd.C_below HR3.out HB.out) | (with_reducible refine Kd.C_alloc ?_ _) | (with_reducible refine Kd.C_drewN ?_ _) | (with_reducible refine Kd.C_drew ?_))); (case side6 => exact HC3.out); rintro e w16 ⟨rfl, hb⟩; refine ⟨_, rfl, ?_⟩; have n0_ := Aside0.mk (below_step (by repeat (first | (with_reducible first | exact HB.out | apply below_alloc | apply pw_below_drewN | apply below_drew1) | exact HB.out)) hb); clear HB; have HB := n0_; clear n0_; (try clear hb); (try clear hb2); (try clear hk); (try clear hi)))
        (try simp only [Act.put, List.setIfInBounds_toArray, List.set_cons_zero, List.set_cons_succ])
        go_cut [59] (fun v59 wc => ∃ (kq : Nat) (x59_13 : Bool), v59 = .bool x59_13 ∧ Aside0 (handshakerlaw07_TermTwo.j1 kq l0 l1 l2 l3 t338 t340 x59_13 = some r) ∧ Aside0 (kq ≤ kj4) ∧ Aside0 (Below w.heap.size w wc))
        case first =>
          have H := HC14.out
          clear HC14
          by_cases c17 : t339 = 0
          · rw [if_pos c17] at H
            have c17b0 : (t339 == 0) = true := beq_iff_eq.mpr c17
            have c17b1 : (t339 != 0) = false := bne_eq_false_iff_eq.mpr c17
            clear c17
            (first | rw [c17b0] | (simp only [i64_w, i32_w]; rw [c17b0]) | skip)
            have H' := Aside0.mk H
            clear H
            go_wp2
            go_meet
            case rel => exact ⟨_, ((t341 != 0)), (by first | rfl | (simp; done) | (simp [*]; done)), H', ⟨by have := HJ4.out; first | omega | exact Nat.le_refl _⟩, ⟨by repeat (first | (with_reducible first | exact HB.out | apply below_alloc | apply pw_below_drewN | apply below_drew1) | exact HB.out)⟩⟩
          · rw [if_neg c17] at H
            have c17b0 : (t339 == 0) = false := beq_eq_false_iff_ne.mpr c17
            have c17b1 : (t339 != 0) = true := bne_iff_ne.mpr c17
            (first | rw [c17b0] | (simp only [i64_w, i32_w]; rw [c17b0]) | skip)
            have H' := Aside0.mk H
            clear H
            go_wp2
            go_meet
            case rel => exact ⟨_, (true), (by first | rfl | (simp; done) | (simp [*]; done)), H', ⟨by have := HJ4.out; first | omega | exact Nat.le_refl _⟩, ⟨by repeat (first | (with_reducible first | exact HB.out | apply below_alloc | apply pw_below_drewN | apply below_drew1) | exact HB.out)⟩⟩
        case rest =>
          clear HC14
          try clear c1
          try clear c2
          try clear p2
          try clear c3
          try clear c6
          try clear c6b0
          try clear c6b1
          try clear c7
          try clear c7b0
          try clear c7b1
          try clear c8
          try clear c8b0
          try clear c8b1
          try clear c9
          try clear c11
          try clear c17
          try clear c17b0
          try clear c17b1
          try clear p2
          obtain ⟨kq, x59_13, rfl, HA, HJ13, HB⟩ := hcut
          cases kq with
          | zero => exact absurd HA.out (by simp [handshakerlaw07_TermTwo.j1])
          | succ kj13 =>
            have H := HA.out
            clear HA
            simp only [handshakerlaw07_TermTwo.j1] at H
            by_cases c18 : x59_13 = true
            · subst c18
              have H1 : ((handshakerlaw07_awake.f kj13).bind fun t342 => (some t342)) = some r := by rw [if_pos rfl] at H; exact H
              clear H
              have H := H1
              clear H1
              replace H := Option.bind_eq_some_iff.mp H
              obtain ⟨t342, A190, H⟩ := H
              replace H : (some t342) = some r := H
              have A19 := Aside0.mk A190
              clear A190
              obtain rfl := Option.some.inj H
              go_wp2_with (first | ((with_reducible refine gate_callee (f := 27) rfl ?_); refine goesL_ (some 60) rfl rfl Try.func27 (by kernel_rfl) rfl #[] rfl (by (try simp only [List.map_toArray, List.map_cons, List.map_nil]); first | done | rfl | (simp only [List.length_drop, List.length_take]; rfl)) ?_; (with_reducible refine (handshakerlaw07_awake.calls kj13  t342 _ A19.out).mono ?_); rintro e w20 ⟨rfl, hb⟩; refine ⟨_, rfl, ?_⟩; have n0_ := Aside0.mk (below_step (by repeat (first | (with_reducible first | exact HB.out | apply below_alloc | apply pw_below_drewN | apply below_drew1) | exact HB.out)) hb); clear HB; have HB := n0_; clear n0_; (try clear hb); (try clear hb2); (try clear hk); (try clear hi)))
              go_ret
              exact ⟨by first | rfl | (simp [errW_none, errW_some] <;> rfl) | (simp [*, errW_none, errW_some] <;> rfl), by repeat (first | (with_reducible first | exact HB.out | apply below_alloc | apply pw_below_drewN | apply below_drew1) | exact HB.out)⟩
            · replace c18 := Bool.eq_false_iff.mpr c18
              subst c18
              have H1 : ((some (([] : List (S41)) : List (S41))).bind fun y343 => (if y343.length + l0.length < 8796093022208 then ((some (y343 ++ l0 : List (S41))).bind fun y346 => (if y346.length + l1.length < 8796093022208 then (handshakerlaw07_TermTwo.l0 kj13 l0 l2 l3 t338 t340 (y346 ++ l1) 4) else (none))) else (none))) = some r := by rw [if_neg (show ¬ (false = true) by decide)] at H; exact H
              clear H
              have H := H1
              clear H1
              obtain ⟨y343, hy343⟩ : ∃ y_ : List (S41), y_ = (([] : List (S41))) := ⟨_, rfl⟩
              replace H : (if y343.length + l0.length < 8796093022208 then ((some (y343 ++ l0 : List (S41))).bind fun y346 => (if y346.length + l1.length < 8796093022208 then (handshakerlaw07_TermTwo.l0 kj13 l0 l2 l3 t338 t340 (y346 ++ l1) 4) else (none))) else (none)) = some r := by first | (rw [hy343]; with_reducible exact H) | (have H2_ := (Option.bind_some _ _).symm.trans H; rw [hy343]; with_reducible exact H2_) | (have H2_ := (Option.bind_some _ _).symm.trans H; with_reducible exact H2_) | with_reducible exact H | (rw [hy343]; exact H) | exact H
              have Ny343 := Aside0.mk hy343
              clear hy343
              by_cases c21 : y343.length + l0.length < 8796093022208
              · rw [if_pos c21] at H
                have LMc21 := Aside0.mk c21
                clear c21
                obtain ⟨y346, hy346⟩ : ∃ y_ : List (S41), y_ = (y343 ++ l0) := ⟨_, rfl⟩
                replace H : (if y346.length + l1.length < 8796093022208 then (handshakerlaw07_TermTwo.l0 kj13 l0 l2 l3 t338 t340 (y346 ++ l1) 4) else (none)) = some r := by first | (rw [hy346]; with_reducible exact H) | (have H2_ := (Option.bind_some _ _).symm.trans H; rw [hy346]; with_reducible exact H2_) | (have H2_ := (Option.bind_some _ _).symm.trans H; with_reducible exact H2_) | with_reducible exact H | (rw [hy346]; exact H) | exact H
                have Ny346 := Aside0.mk hy346
                clear hy346
                by_cases c22 : y346.length + l1.length < 8796093022208
                · rw [if_pos c22] at H
                  have LMc22 := Aside0.mk c22
                  clear c22
                  obtain ⟨y349, hy349⟩ : ∃ y_ : List (S41), y_ = (y346 ++ l1) := ⟨_, rfl⟩
                  replace H : (handshakerlaw07_TermTwo.l0 kj13 l0 l2 l3 t338 t340 y349 4) = some r := by first | (rw [hy349]; with_reducible exact H) | (have H2_ := (Option.bind_some _ _).symm.trans H; rw [hy349]; with_reducible exact H2_) | (have H2_ := (Option.bind_some _ _).symm.trans H; with_reducible exact H2_) | with_reducible exact H | (rw [hy349]; exact H) | exact H
                  have Ny349 := Aside0.mk hy349
                  clear hy349
                  have H' := Aside0.mk H
                  clear H
                  go_wp2_with (first | ((with_reducible refine gate_dst (N := 61) rfl ?_); (try (refine gate_guard (by rfl) ?_; dsimp only)); refine Kd.R_lit k41 _ 41 ?hg (N := 61) ?hd (xs := ([] : List (S41))) (inner := []) (ok := fun _ => True) (okp := fun _ => True) ?hr ?hp (fun _ hk => hk) trivial (Below.refl _ _) (Nat.le_refl _) (by simp) ?_; (case hd => rfl); (case hg => rfl); (case hr => first | (go_simp; done) | (go_simp; rfl)); (case hp => exact (Reps.none _ _)); intro v344 w23 ho24 hb hg_ hnew_; clear hg_ hnew_; (first | rw [← Ny343.out] at ho24 | (simp only [Int.reduceToNat] at ho24; rw [← Ny343.out] at ho24)); have n0_ := Aside0.mk (Kd.R_lower ho24 (below_size (by repeat (first | (with_reducible first | exact HB.out | apply below_alloc | apply pw_below_drewN | apply below_drew1) | exact HB.out)))); have n1_ := Aside0.mk (below_step (by repeat (first | (with_reducible first | exact HB.out | apply below_alloc | apply pw_below_drewN | apply below_drew1) | exact HB.out)) hb); clear HB; have HO345 := n0_; have HB := n1_; clear n0_ n1_; clear hb ho24) | ((with_reducible refine gate_builtin (b := .append) (xs := #[.tmp 61, .tmp 62]) rfl ?_); (try (refine gate_guard (by rfl) ?_; dsimp only)); at_builtin; refine Kd.R_append_rows k41 (w0 := w) w.heap.size rfl (.tmp 61) (.tmp 62) 35 41 (.agg #[(.int .i64 0), (.int .i64 0)]) 16 rfl Try.underlying35 info41 rfl (by decide) (by omega) v344 y343 l0 _ _ _ (fun _ => True) (fun _ => False) rfl rfl ?aO ?aR (fun _ _ h => h) (fun _ h => h.elim) ?aF ?aB ?aS ?aL ?_; (case aR => repeat (first | exact (Kd.C_below HR0.out HB.out) | (with_reducible refine Kd.C_alloc ?_ _) | (with_reducible refine Kd.C_drewN ?_ _) | (with_reducible refine Kd.C_drew ?_))); (case aB => exact (by repeat (first | (with_reducible first | exact HB.out | apply below_alloc | apply pw_below_drewN | apply below_drew1) | exact HB.out))); (case aF => exact (fun _ _ => trivial)); (case aO => exact (by (with_reducible repeat (first | apply Kd.R_alloc | apply Kd.R_drewN | apply Kd.R_drew)); exact HO345.out)); (case aS => exact (below_size (by repeat (first | (with_reducible first | exact HB.out | apply below_alloc | apply pw_below_drewN | apply below_drew1) | exact HB.out)))); (case aL => have := LMc21.out; omega); intro v347 w25 ho hb hg hat; rw [← Ny346.out] at ho; have n0_ := Aside0.mk (hb); have n1_ := Aside0.mk (ho); clear HB; clear HO345; have HB := n0_; have HO348 := n1_; clear n0_ n1_; clear ho hb hg hat) | ((with_reducible refine gate_builtin (b := .append) (xs := #[.tmp 63, .tmp 64]) rfl ?_); (try (refine gate_guard (by rfl) ?_; dsimp only)); at_builtin; refine Kd.R_append_rows k41 (w0 := w) w.heap.size rfl (.tmp 63) (.tmp 64) 35 41 (.agg #[(.int .i64 0), (.int .i64 0)]) 16 rfl Try.underlying35 info41 rfl (by decide) (by omega) v347 y346 l1 _ _ _ (fun _ => True) (fun _ => False) rfl rfl ?aO ?aR (fun _ _ h => h) (fun _ h => h.elim) ?aF ?aB ?aS ?aL ?_; (case aR => repeat (first | exact (Kd.C_below HR1.out HB.out) | (with_reducible refine Kd.C_alloc ?_ _) | (with_reducible refine Kd.C_drewN ?_ _) | (with_reducible refine Kd.C_drew ?_))); (case aB => exact (by repeat (first | (with_reducible first | exact HB.out | apply below_alloc | apply pw_below_drewN | apply below_drew1) | exact HB.out))); (case aF => exact (fun _ _ => trivial)); (case aO => exact (by (with_reducible repeat (first | apply Kd.R_alloc | apply Kd.R_drewN | apply Kd.R_drew)); exact HO348.out)); (case aS => exact (below_size (by repeat (first | (with_reducible first | exact HB.out | apply below_alloc | apply pw_below_drewN | apply below_drew1) | exact HB.out)))); (case aL => have := LMc22.out; omega); intro v350 w26 ho hb hg hat; rw [← Ny349.out] at ho; have n0_ := Aside0.mk (hb); have n1_ := Aside0.mk (ho); clear HB; clear HO348; have HB := n0_; have HO351 := n1_; clear n0_ n1_; clear ho hb hg hat))
                  go_loopg [14] kj13 (fun kq v14 w' => ∃ (x14_3 : Int), v14 = .int .i64 x14_3 ∧ Aside0 (handshakerlaw07_TermTwo.l0 kq l0 l2 l3 t338 t340 y349 x14_3 = some r) ∧ Aside0 (kq ≤ kj13) ∧ Aside0 (Kd.R k41 41 w' w.heap.size (fun _ => True) v350 y349) ∧ Aside0 (Below w.heap.size w w'))
                  case atStart => exact ⟨(4), (by first | rfl | (simp; done) | (simp [*]; done)), H', ⟨Nat.le_refl _⟩, ⟨by (with_reducible repeat (first | apply Kd.R_alloc | apply Kd.R_drewN | apply Kd.R_drew)); exact HO351.out⟩, ⟨by repeat (first | (with_reducible first | exact HB.out | apply below_alloc | apply pw_below_drewN | apply below_drew1) | exact HB.out)⟩⟩
                  case round =>
                    clear H'
                    try clear c1
                    try clear c2
                    try clear p2
                    try clear c3
                    try clear c6
                    try clear c6b0
                    try clear c6b1
                    try clear c7
                    try clear c7b0
                    try clear c7b1
                    try clear c8
                    try clear c8b0
                    try clear c8b1
                    try clear c9
                    try clear c11
                    try clear c17
                    try clear c17b0
                    try clear c17b1
                    try clear c18
                    try clear c21
                    try clear c22
                    try clear p2
                    obtain ⟨x14_3, rfl, HA, HK3, HO_13, HB⟩ := hrel
                    cases gk with
                    | zero => exact absurd HA.out (by simp [handshakerlaw07_TermTwo.l0])
                    | succ k3 =>
                      have H := HA.out
                      clear HA
                      simp only [handshakerlaw07_TermTwo.l0] at H
                      by_cases c27 : x14_3 ≤ 10
                      · rw [if_pos c27] at H
                        have c27b0 : decide (x14_3 ≤ 10) = true := decide_eq_true c27
                        clear c27
                        obtain ⟨y369, hy369⟩ : ∃ y_ : List (S41), y_ = (([] : List (S41))) := ⟨_, rfl⟩
                        replace H : (if y369.length + y349.length < 8796093022208 then ((some (y369 ++ y349 : List (S41))).bind fun y372 => (if y372.length < 8796093022208 then ((term_Eval.f k3 (y372 ++ [(⟨x14_3, 0⟩ : S41)]) l2 l3).bind fun bt378 => ((term_Eval.f k3 (([(⟨1, t338⟩ : S41), (⟨1, t340⟩ : S41), (⟨x14_3, 0⟩ : S41)] : List (S41))) l2 ([] : List Int)).bind fun bt383 => (if bt378.1 = bt383.1 then (if bt378.2 = 0 then (if bt383.2 = 0 then (handshakerlaw07_TermTwo.l0 k3 l0 l2 l3 t338 t340 y349 (wrap64 (x14_3 + 1))) else (some false)) else (some false)) else (some false)))) else (none))) else (none)) = some r := by first | (rw [hy369]; with_reducible exact H) | (have H2_ := (Option.bind_some _ _).symm.trans H; rw [hy369]; with_reducible exact H2_) | (have H2_ := (Option.bind_some _ _).symm.trans H; with_reducible exact H2_) | with_reducible exact H | (rw [hy369]; exact H) | exact H
                        have Ny369 := Aside0.mk hy369
                        clear hy369
                        by_cases c28 : y369.length + y349.length < 8796093022208
                        · rw [if_pos c28] at H
                          have LMc28 := Aside0.mk c28
                          clear c28
                          obtain ⟨y372, hy372⟩ : ∃ y_ : List (S41), y_ = (y369 ++ y349) := ⟨_, rfl⟩
                          replace H : (if y372.length < 8796093022208 then ((term_Eval.f k3 (y372 ++ [(⟨x14_3, 0⟩ : S41)]) l2 l3).bind fun bt378 => ((term_Eval.f k3 (([(⟨1, t338⟩ : S41), (⟨1, t340⟩ : S41), (⟨x14_3, 0⟩ : S41)] : List (S41))) l2 ([] : List Int)).bind fun bt383 => (if bt378.1 = bt383.1 then (if bt378.2 = 0 then (if bt383.2 = 0 then (handshakerlaw07_TermTwo.l0 k3 l0 l2 l3 t338 t340 y349 (wrap64 (x14_3 + 1))) else (some false)) else (some false)) else (some false)))) else (none)) = some r := by first | (rw [hy372]; with_reducible exact H) | (have H2_ := (Option.bind_some _ _).symm.trans H; rw [hy372]; with_reducible exact H2_) | (have H2_ := (Option.bind_some _ _).symm.trans H; with_reducible exact H2_) | with_reducible exact H | (rw [hy372]; exact H) | exact H
                          have Ny372 := Aside0.mk hy372
                          clear hy372
                          by_cases c29 : y372.length < 8796093022208
                          · rw [if_pos c29] at H
                            have LMc29 := Aside0.mk c29
                            clear c29
                            obtain ⟨y375, hy375⟩ : ∃ y_ : List (S41), y_ = (y372 ++ [(⟨x14_3, 0⟩ : S41)]) := ⟨_, rfl⟩
                            replace H : ((term_Eval.f k3 y375 l2 l3).bind fun bt378 => ((term_Eval.f k3 (([(⟨1, t338⟩ : S41), (⟨1, t340⟩ : S41), (⟨x14_3, 0⟩ : S41)] : List (S41))) l2 ([] : List Int)).bind fun bt383 => (if bt378.1 = bt383.1 then (if bt378.2 = 0 then (if bt383.2 = 0 then (handshakerlaw07_TermTwo.l0 k3 l0 l2 l3 t338 t340 y349 (wrap64 (x14_3 + 1))) else (some false)) else (some false)) else (some false)))) = some r := by first | (rw [hy375]; with_reducible exact H) | (have H2_ := (Option.bind_some _ _).symm.trans H; rw [hy375]; with_reducible exact H2_) | (have H2_ := (Option.bind_some _ _).symm.trans H; with_reducible exact H2_) | with_reducible exact H | (rw [hy375]; exact H) | exact H
                            have Ny375 := Aside0.mk hy375
                            clear hy375
                            replace H := Option.bind_eq_some_iff.mp H
                            obtain ⟨⟨t378, t379⟩, A300, H⟩ := H
                            replace H : ((term_Eval.f k3 (([(⟨1, t338⟩ : S41), (⟨1, t340⟩ : S41), (⟨x14_3, 0⟩ : S41)] : List (S41))) l2 ([] : List Int)).bind fun bt383 => (if t378 = bt383.1 then (if t379 = 0 then (if bt383.2 = 0 then (handshakerlaw07_TermTwo.l0 k3 l0 l2 l3 t338 t340 y349 (wrap64 (x14_3 + 1))) else (some false)) else (some false)) else (some false))) = some r := H
                            have A30 := Aside0.mk A300
                            clear A300
                            obtain ⟨y380, hy380⟩ : ∃ y_ : List (S41), y_ = (([(⟨1, t338⟩ : S41), (⟨1, t340⟩ : S41), (⟨x14_3, 0⟩ : S41)] : List (S41))) := ⟨_, rfl⟩
                            replace H : ((term_Eval.f k3 y380 l2 ([] : List Int)).bind fun bt383 => (if t378 = bt383.1 then (if t379 = 0 then (if bt383.2 = 0 then (handshakerlaw07_TermTwo.l0 k3 l0 l2 l3 t338 t340 y349 (wrap64 (x14_3 + 1))) else (some false)) else (some false)) else (some false))) = some r := by first | (rw [hy380]; with_reducible exact H) | (have H2_ := (Option.bind_some _ _).symm.trans H; rw [hy380]; with_reducible exact H2_) | (have H2_ := (Option.bind_some _ _).symm.trans H; with_reducible exact H2_) | with_reducible exact H | (rw [hy380]; exact H) | exact H
                            have Ny380 := Aside0.mk hy380
                            clear hy380
                            replace H := Option.bind_eq_some_iff.mp H
                            obtain ⟨⟨t383, t384⟩, A310, H⟩ := H
                            replace H : (if t378 = t383 then (if t379 = 0 then (if t384 = 0 then (handshakerlaw07_TermTwo.l0 k3 l0 l2 l3 t338 t340 y349 (wrap64 (x14_3 + 1))) else (some false)) else (some false)) else (some false)) = some r := H
                            have A31 := Aside0.mk A310
                            clear A310
                            by_cases c32 : t378 = t383
                            · rw [if_pos c32] at H
                              have c32b0 : (t378 == t383) = true := beq_iff_eq.mpr c32
                              have c32b1 : (t378 != t383) = false := bne_eq_false_iff_eq.mpr c32
                              clear c32
                              by_cases c33 : t379 = 0
                              · rw [if_pos c33] at H
                                have c33b0 : (t379 == 0) = true := beq_iff_eq.mpr c33
                                have c33b1 : (t379 != 0) = false := bne_eq_false_iff_eq.mpr c33
                                clear c33
                                by_cases c34 : t384 = 0
                                · rw [if_pos c34] at H
                                  have c34b0 : (t384 == 0) = true := beq_iff_eq.mpr c34
                                  have c34b1 : (t384 != 0) = false := bne_eq_false_iff_eq.mpr c34
                                  clear c34
                                  have H' := Aside0.mk H
                                  clear H
                                  go_wp2_with (first | ((with_reducible refine gate_dst (N := 71) rfl ?_); (try (refine gate_guard (by rfl) ?_; dsimp only)); refine Kd.R_lit k41 _ 41 ?hg (N := 71) ?hd (xs := ([] : List (S41))) (inner := []) (ok := fun _ => True) (okp := fun _ => True) ?hr ?hp (fun _ hk => hk) trivial (Below.refl _ _) (Nat.le_refl _) (by simp) ?_; (case hd => rfl); (case hg => rfl); (case hr => first | (go_simp; done) | (go_simp; rfl)); (case hp => exact (Reps.none _ _)); intro v370 w35 ho36 hb hg_ hnew_; clear hg_ hnew_; (first | rw [← Ny369.out] at ho36 | (simp only [Int.reduceToNat] at ho36; rw [← Ny369.out] at ho36)); have n0_ := Aside0.mk (Kd.R_elder' (by (with_reducible repeat (first | apply Kd.R_alloc | apply Kd.R_drewN | apply Kd.R_drew)); exact HO_13.out) (Kd.R_base ho36) hb); have n1_ := Aside0.mk (Kd.R_lower (Kd.R_new' ho36 (Kd.R_lt (by (with_reducible repeat (first | apply Kd.R_alloc | apply Kd.R_drewN | apply Kd.R_drew)); exact HO_13.out))) (below_size (by repeat (first | (with_reducible first | exact HB.out | apply below_alloc | apply pw_below_drewN | apply below_drew1) | exact HB.out)))); have n2_ := Aside0.mk (below_step (by repeat (first | (with_reducible first | exact HB.out | apply below_alloc | apply pw_below_drewN | apply below_drew1) | exact HB.out)) hb); clear HO_13; clear HB; have HO_13 := n0_; have HO371 := n1_; have HB := n2_; clear n0_ n1_ n2_; clear hb ho36; obtain ⟨Ao38, co38, eo38⟩ := Kd.R_slice HO_13.out; subst eo38) | ((with_reducible refine gate_builtin (b := .append) (xs := #[.tmp 71, .tmp 72]) rfl ?_); (try (refine gate_guard (by rfl) ?_; dsimp only)); at_builtin; refine Kd.R_append_rows k41 (w0 := w) w.heap.size rfl (.tmp 71) (.tmp 72) 35 41 (.agg #[(.int .i64 0), (.int .i64 0)]) 16 rfl Try.underlying35 info41 rfl (by decide) (by omega) v370 y369 y349 _ _ _ (fun k_ => some k_ ≠ (.slice Ao38 y349.length co38 : Value).ownBlock) (fun _ => False) rfl rfl ?aO ?aR (fun _ _ h => h) (fun _ h => h.elim) ?aF ?aB ?aS ?aL ?_; (case aR => repeat (first | exact (Kd.R_reads' HO_13.out).2.2 | (with_reducible refine Kd.C_alloc ?_ _) | (with_reducible refine Kd.C_drewN ?_ _) | (with_reducible refine Kd.C_drew ?_))); (case aB => exact (by repeat (first | (with_reducible first | exact HB.out | apply below_alloc | apply pw_below_drewN | apply below_drew1) | exact HB.out))); (case aF => exact (fun k_ hk => Kd.fresh' (Kd.R_lt (by (with_reducible repeat (first | apply Kd.R_alloc | apply Kd.R_drewN | apply Kd.R_drew)); exact HO_13.out)) k_ hk)); (case aO => exact (by (with_reducible repeat (first | apply Kd.R_alloc | apply Kd.R_drewN | apply Kd.R_drew)); exact Kd.R_mono HO371.out (fun _ hk => hk.2))); (case aS => exact (below_size (by repeat (first | (with_reducible first | exact HB.out | apply below_alloc | apply pw_below_drewN | apply below_drew1) | exact HB.out)))); (case aL => have := LMc28.out; omega); intro v373 w37 ho hb hg hat; rw [← Ny372.out] at ho; have n0_ := Aside0.mk (Kd.R_after (ok := (fun _ => True)) (by (with_reducible repeat (first | apply Kd.R_alloc | apply Kd.R_drewN | apply Kd.R_drew)); exact HO_13.out) hg hat); have n1_ := Aside0.mk (hb); have n2_ := Aside0.mk (ho); clear HO_13; clear HB; clear HO371; have HO_13 := n0_; have HB := n1_; have HO374 := n2_; clear n0_ n1_ n2_; clear ho hb hg hat) | ((with_reducible refine gate_builtin (b := .append) (xs := #[.tmp 73, .tmp 76]) rfl ?_); (try (refine gate_guard (by rfl) ?_; dsimp only)); at_builtin; refine Kd.R_append k41 (w0 := w) w.heap.size rfl (.tmp 73) (.tmp 76) 35 41 (.agg #[(.int .i64 0), (.int .i64 0)]) 16 rfl Try.underlying35 info41 rfl (by decide) (by omega) v373 y372 (⟨x14_3, 0⟩ : S41) [.int .i64 x14_3, .int .i64 0] (fun k_ => some k_ ≠ (.slice Ao38 y349.length co38 : Value).ownBlock) (fun _ => False) rfl rfl ?aP (fun _ hk => hk.elim) ?aF ?aO ?aB ?aS ?aL ?_; (case aP => exact k41_mkM _ _ _ (⟨x14_3, 0⟩ : S41)); (case aB => exact (by repeat (first | (with_reducible first | exact HB.out | apply below_alloc | apply pw_below_drewN | apply below_drew1) | exact HB.out))); (case aF => exact (fun k_ hk => Kd.fresh' (Kd.R_lt (by (with_reducible repeat (first | apply Kd.R_alloc | apply Kd.R_drewN | apply Kd.R_drew)); exact HO_13.out)) k_ hk)); (case aO => exact (by (with_reducible repeat (first | apply Kd.R_alloc | apply Kd.R_drewN | apply Kd.R_drew)); exact HO374.out)); (case aS => exact (below_size (by repeat (first | (with_reducible first | exact HB.out | apply below_alloc | apply pw_below_drewN | apply below_drew1) | exact HB.out)))); (case aL => have := LMc29.out; omega); intro v376 w39 ho hb hg hat; rw [← Ny375.out] at ho; have n0_ := Aside0.mk (Kd.R_after (ok := (fun _ => True)) (by (with_reducible repeat (first | apply Kd.R_alloc | apply Kd.R_drewN | apply Kd.R_drew)); exact HO_13.out) hg hat); have n1_ := Aside0.mk (hb); have n2_ := Aside0.mk (ho); clear HO_13; clear HB; clear HO374; have HO_13 := n0_; have HB := n1_; have HO377 := n2_; clear n0_ n1_ n2_; clear ho hb hg hat; obtain ⟨Ao40, co40, eo40⟩ := Kd.R_slice HO377.out; subst eo40) | ((with_reducible refine gate_callee (f := 28) rfl ?_); refine goesL_ (some 80) rfl rfl Try.func28 (by kernel_rfl) rfl #[.slice Ao40 y375.length co40, .slice A2 l2.length c2, .slice A3 l3.length c3] rfl (by (try simp only [List.map_toArray, List.map_cons, List.map_nil]); first | done | rfl | (simp only [List.length_drop, List.length_take]; rfl)) ?_; (with_reducible refine (term_Eval.calls k3 _ _ y375 _ _ l2 _ _ l3 t378 t379 _ ?side1 ?side2 ?side3 ?side4 ?side5 ?side6 A30.out).mono ?_); (case side1 => repeat (first | exact (Kd.R_reads' HO377.out).2.2 | (with_reducible refine Kd.C_alloc ?_ _) | (with_reducible refine Kd.C_drewN ?_ _) | (with_reducible refine Kd.C_drew ?_))); (case side2 => exact (Kd.R_reads' HO377.out).2.1); (case side3 => repeat (first | exact (Kd.C_below HR2.out HB.out) | (with_reducible refine Kd.C_alloc ?_ _) | (with_reducible refine Kd.C_drewN ?_ _) | (with_reducible refine Kd.C_drew ?_))); (case side4 => exact HC2.out); (case side5 => repeat (first | exact (Kd.C_below HR3.out HB.out) | (with_reducible refine Kd.C_alloc ?_ _) | (with_reducible refine Kd.C_drewN ?_ _) | (with_reducible refine Kd.C_drew ?_))); (case side6 => exact HC3.out); rintro e w41 ⟨rfl, hb⟩; refine ⟨_, rfl, ?_⟩; have n0_ := Aside0.mk (Kd.R_below (by (with_reducible repeat (first | apply Kd.R_alloc | apply Kd.R_drewN | apply Kd.R_drew)); exact HO_13.out) hb); have n1_ := Aside0.mk (Kd.R_below (by (with_reducible repeat (first | apply Kd.R_alloc | apply Kd.R_drewN | apply Kd.R_drew)); exact HO377.out) hb); have n2_ := Aside0.mk (below_step (by repeat (first | (with_reducible first | exact HB.out | apply below_alloc | apply pw_below_drewN | apply below_drew1) | exact HB.out)) hb); clear HO_13; clear HO377; clear HB; have HO_13 := n0_; have HO377 := n1_; have HB := n2_; clear n0_ n1_ n2_; (try clear hb); (try clear hb2); (try clear hk); (try clear hi)) | ((with_reducible refine gate_dst (N := 90) rfl ?_); (try (refine gate_guard (by rfl) ?_; dsimp only)); refine Kd.R_lit k41 _ 41 ?hg (N := 90) ?hd (xs := ([(⟨1, t338⟩ : S41), (⟨1, t340⟩ : S41), (⟨x14_3, 0⟩ : S41)] : List (S41))) (inner := [.int .i64 1, .int .i64 t338, .int .i64 1, .int .i64 t340, .int .i64 x14_3, .int .i64 0]) (ok := fun _ => True) (okp := fun _ => True) ?hr ?hp (fun _ hk => hk) trivial (Below.refl _ _) (Nat.le_refl _) (by simp) ?_; (case hd => rfl); (case hg => rfl); (case hr => first | (go_simp; done) | (go_simp; rfl)); (case hp => exact (Reps.c2 (show Kd.M k41 _ _ _ (⟨1, t338⟩ : S41) [.int .i64 1, .int .i64 t338] from (k41_mkM _ _ _ (⟨1, t338⟩ : S41) )) (Reps.c2 (show Kd.M k41 _ _ _ (⟨1, t340⟩ : S41) [.int .i64 1, .int .i64 t340] from (k41_mkM _ _ _ (⟨1, t340⟩ : S41) )) (Reps.c2 (show Kd.M k41 _ _ _ (⟨x14_3, 0⟩ : S41) [.int .i64 x14_3, .int .i64 0] from (k41_mkM _ _ _ (⟨x14_3, 0⟩ : S41) )) (Reps.none _ _))))); intro v381 w42 ho43 hb hg_ hnew_; clear hg_ hnew_; (first | rw [← Ny380.out] at ho43 | (simp only [Int.reduceToNat] at ho43; rw [← Ny380.out] at ho43)); have n0_ := Aside0.mk (Kd.R_elder' (by (with_reducible repeat (first | apply Kd.R_alloc | apply Kd.R_drewN | apply Kd.R_drew)); exact HO_13.out) (Kd.R_base ho43) hb); have n1_ := Aside0.mk (Kd.R_elder' (by (with_reducible repeat (first | apply Kd.R_alloc | apply Kd.R_drewN | apply Kd.R_drew)); exact HO377.out) (Kd.R_base ho43) hb); have n2_ := Aside0.mk (Kd.R_lower (Kd.R_new' (Kd.R_new' ho43 (Kd.R_lt (by (with_reducible repeat (first | apply Kd.R_alloc | apply Kd.R_drewN | apply Kd.R_drew)); exact HO_13.out))) (Kd.R_lt (by (with_reducible repeat (first | apply Kd.R_alloc | apply Kd.R_drewN | apply Kd.R_drew)); exact HO377.out))) (below_size (by repeat (first | (with_reducible first | exact HB.out | apply below_alloc | apply pw_below_drewN | apply below_drew1) | exact HB.out)))); have n3_ := Aside0.mk (below_step (by repeat (first | (with_reducible first | exact HB.out | apply below_alloc | apply pw_below_drewN | apply below_drew1) | exact HB.out)) hb); clear HO_13; clear HO377; clear HB; have HO_13 := n0_; have HO377 := n1_; have HO382 := n2_; have HB := n3_; clear n0_ n1_ n2_ n3_; clear hb ho43; obtain ⟨Ao44, co44, eo44⟩ := Kd.R_slice HO382.out; subst eo44) | ((with_reducible refine gate_callee (f := 28) rfl ?_); refine goesL_ (some 92) rfl rfl Try.func28 (by kernel_rfl) rfl #[.slice Ao44 y380.length co44, .slice A2 l2.length c2, .slice none 0 0] rfl (by (try simp only [List.map_toArray, List.map_cons, List.map_nil]); first | done | rfl | (simp only [List.length_drop, List.length_take]; rfl)) ?_; (refine (term_Eval.calls k3 _ _ y380 _ _ l2 _ _ ([] : List Int) t383 t384 _ ?side1 ?side2 ?side3 ?side4 ?side5 ?side6 A31.out).mono ?_); (case side1 => repeat (first | exact (Kd.R_reads' HO382.out).2.2 | (with_reducible refine Kd.C_alloc ?_ _) | (with_reducible refine Kd.C_drewN ?_ _) | (with_reducible refine Kd.C_drew ?_))); (case side2 => exact (Kd.R_reads' HO382.out).2.1); (case side3 => repeat (first | exact (Kd.C_below HR2.out HB.out) | (with_reducible refine Kd.C_alloc ?_ _) | (with_reducible refine Kd.C_drewN ?_ _) | (with_reducible refine Kd.C_drew ?_))); (case side4 => exact HC2.out); (case side5 => exact Kd.C_nil _ _); (case side6 => exact Nat.le_refl _); rintro e w45 ⟨rfl, hb⟩; refine ⟨_, rfl, ?_⟩; have n0_ := Aside0.mk (Kd.R_below (by (with_reducible repeat (first | apply Kd.R_alloc | apply Kd.R_drewN | apply Kd.R_drew)); exact HO_13.out) hb); have n1_ := Aside0.mk (Kd.R_below (by (with_reducible repeat (first | apply Kd.R_alloc | apply Kd.R_drewN | apply Kd.R_drew)); exact HO377.out) hb); have n2_ := Aside0.mk (Kd.R_below (by (with_reducible repeat (first | apply Kd.R_alloc | apply Kd.R_drewN | apply Kd.R_drew)); exact HO382.out) hb); have n3_ := Aside0.mk (below_step (by repeat (first | (with_reducible first | exact HB.out | apply below_alloc | apply pw_below_drewN | apply below_drew1) | exact HB.out)) hb); clear HO_13; clear HO377; clear HO382; clear HB; have HO_13 := n0_; have HO377 := n1_; have HO382 := n2_; have HB := n3_; clear n0_ n1_ n2_ n3_; (try clear hb); (try clear hb2); (try clear hk); (try clear hi)))
                                  go_roundg k3
                                  case measure => have := HJ4.out; have := HJ13.out; have := HK3.out; omega
                                  case rel => exact ⟨(wrap64 (x14_3 + 1)), (by first | rfl | (simp; done) | (simp [*]; done)), H', ⟨by have := HJ4.out; have := HJ13.out; have := HK3.out; omega⟩, ⟨by (with_reducible repeat (first | apply Kd.R_alloc | apply Kd.R_drewN | apply Kd.R_drew)); exact Kd.R_mono HO_13.out (fun _ hk => trivial)⟩, ⟨by repeat (first | (with_reducible first | exact HB.out | apply below_alloc | apply pw_below_drewN | apply below_drew1) | exact HB.out)⟩⟩
                                · rw [if_neg c34] at H
                                  have c34b0 : (t384 == 0) = false := beq_eq_false_iff_ne.mpr c34
                                  have c34b1 : (t384 != 0) = true := bne_iff_ne.mpr c34
                                  exact absurd (Option.some.inj H) (by rw [HT.out]; decide)
                              · rw [if_neg c33] at H
                                have c33b0 : (t379 == 0) = false := beq_eq_false_iff_ne.mpr c33
                                have c33b1 : (t379 != 0) = true := bne_iff_ne.mpr c33
                                exact absurd (Option.some.inj H) (by rw [HT.out]; decide)
                            · rw [if_neg c32] at H
                              have c32b0 : (t378 == t383) = false := beq_eq_false_iff_ne.mpr c32
                              have c32b1 : (t378 != t383) = true := bne_iff_ne.mpr c32
                              exact absurd (Option.some.inj H) (by rw [HT.out]; decide)
                          · rw [if_neg c29] at H
                            exact absurd H (by simp)
                        · rw [if_neg c28] at H
                          exact absurd H (by simp)
                      · rw [if_neg c27] at H
                        have c27b0 : decide (x14_3 ≤ 10) = false := decide_eq_false c27
                        clear c27
                        obtain ⟨y352, hy352⟩ : ∃ y_ : List (S41), y_ = (([] : List (S41))) := ⟨_, rfl⟩
                        replace H : (if y352.length + l0.length < 8796093022208 then ((some (y352 ++ l0 : List (S41))).bind fun y355 => (if y355.length < 8796093022208 then ((term_Eval.f k3 (y355 ++ [(⟨11, 0⟩ : S41)]) l2 l3).bind fun bt361 => (if bt361.2 = 0 then (if bt361.1 = 1 then (if t338 = 0 then (if bt361.1 = 0 then ((term_Check.f k3 y349).bind fun t363 => (if t363 = 2 then ((handshakerlaw07_awake.f k3).bind fun t364 => (some t364)) else (some false))) else ((term_Check.f k3 y349).bind fun t365 => (if t365 = 2 then ((handshakerlaw07_awake.f k3).bind fun t366 => (some t366)) else (some false)))) else (some false)) else (if t338 = 0 then (some false) else (if bt361.1 = 0 then ((term_Check.f k3 y349).bind fun t367 => (if t367 = 2 then ((handshakerlaw07_awake.f k3).bind fun t368 => (some t368)) else (some false))) else (some false)))) else (some false))) else (none))) else (none)) = some r := by first | (rw [hy352]; with_reducible exact H) | (have H2_ := (Option.bind_some _ _).symm.trans H; rw [hy352]; with_reducible exact H2_) | (have H2_ := (Option.bind_some _ _).symm.trans H; with_reducible exact H2_) | with_reducible exact H | (rw [hy352]; exact H) | exact H
                        have Ny352 := Aside0.mk hy352
                        clear hy352
                        by_cases c46 : y352.length + l0.length < 8796093022208
                        · rw [if_pos c46] at H
                          have LMc46 := Aside0.mk c46
                          clear c46
                          obtain ⟨y355, hy355⟩ : ∃ y_ : List (S41), y_ = (y352 ++ l0) := ⟨_, rfl⟩
                          replace H : (if y355.length < 8796093022208 then ((term_Eval.f k3 (y355 ++ [(⟨11, 0⟩ : S41)]) l2 l3).bind fun bt361 => (if bt361.2 = 0 then (if bt361.1 = 1 then (if t338 = 0 then (if bt361.1 = 0 then ((term_Check.f k3 y349).bind fun t363 => (if t363 = 2 then ((handshakerlaw07_awake.f k3).bind fun t364 => (some t364)) else (some false))) else ((term_Check.f k3 y349).bind fun t365 => (if t365 = 2 then ((handshakerlaw07_awake.f k3).bind fun t366 => (some t366)) else (some false)))) else (some false)) else (if t338 = 0 then (some false) else (if bt361.1 = 0 then ((term_Check.f k3 y349).bind fun t367 => (if t367 = 2 then ((handshakerlaw07_awake.f k3).bind fun t368 => (some t368)) else (some false))) else (some false)))) else (some false))) else (none)) = some r := by first | (rw [hy355]; with_reducible exact H) | (have H2_ := (Option.bind_some _ _).symm.trans H; rw [hy355]; with_reducible exact H2_) | (have H2_ := (Option.bind_some _ _).symm.trans H; with_reducible exact H2_) | with_reducible exact H | (rw [hy355]; exact H) | exact H
                          have Ny355 := Aside0.mk hy355
                          clear hy355
                          by_cases c47 : y355.length < 8796093022208
                          · rw [if_pos c47] at H
                            have LMc47 := Aside0.mk c47
                            clear c47
                            obtain ⟨y358, hy358⟩ : ∃ y_ : List (S41), y_ = (y355 ++ [(⟨11, 0⟩ : S41)]) := ⟨_, rfl⟩
                            replace H : ((term_Eval.f k3 y358 l2 l3).bind fun bt361 => (if bt361.2 = 0 then (if bt361.1 = 1 then (if t338 = 0 then (if bt361.1 = 0 then ((term_Check.f k3 y349).bind fun t363 => (if t363 = 2 then ((handshakerlaw07_awake.f k3).bind fun t364 => (some t364)) else (some false))) else ((term_Check.f k3 y349).bind fun t365 => (if t365 = 2 then ((handshakerlaw07_awake.f k3).bind fun t366 => (some t366)) else (some false)))) else (some false)) else (if t338 = 0 then (some false) else (if bt361.1 = 0 then ((term_Check.f k3 y349).bind fun t367 => (if t367 = 2 then ((handshakerlaw07_awake.f k3).bind fun t368 => (some t368)) else (some false))) else (some false)))) else (some false))) = some r := by first | (rw [hy358]; with_reducible exact H) | (have H2_ := (Option.bind_some _ _).symm.trans H; rw [hy358]; with_reducible exact H2_) | (have H2_ := (Option.bind_some _ _).symm.trans H; with_reducible exact H2_) | with_reducible exact H | (rw [hy358]; exact H) | exact H
                            have Ny358 := Aside0.mk hy358
                            clear hy358
                            replace H := Option.bind_eq_some_iff.mp H
                            obtain ⟨⟨t361, t362⟩, A480, H⟩ := H
                            replace H : (if t362 = 0 then (if t361 = 1 then (if t338 = 0 then (if t361 = 0 then ((term_Check.f k3 y349).bind fun t363 => (if t363 = 2 then ((handshakerlaw07_awake.f k3).bind fun t364 => (some t364)) else (some false))) else ((term_Check.f k3 y349).bind fun t365 => (if t365 = 2 then ((handshakerlaw07_awake.f k3).bind fun t366 => (some t366)) else (some false)))) else (some false)) else (if t338 = 0 then (some false) else (if t361 = 0 then ((term_Check.f k3 y349).bind fun t367 => (if t367 = 2 then ((handshakerlaw07_awake.f k3).bind fun t368 => (some t368)) else (some false))) else (some false)))) else (some false)) = some r := H
                            have A48 := Aside0.mk A480
                            clear A480
                            by_cases c49 : t362 = 0
                            · rw [if_pos c49] at H
                              have c49b0 : (t362 == 0) = true := beq_iff_eq.mpr c49
                              have c49b1 : (t362 != 0) = false := bne_eq_false_iff_eq.mpr c49
                              clear c49
                              by_cases c50 : t361 = 1
                              · rw [if_pos c50] at H
                                have c50b0 : (t361 == 1) = true := beq_iff_eq.mpr c50
                                have c50b1 : (t361 != 1) = false := bne_eq_false_iff_eq.mpr c50
                                clear c50
                                by_cases c51 : t338 = 0
                                · rw [if_pos c51] at H
                                  have c51b0 : (t338 == 0) = true := beq_iff_eq.mpr c51
                                  have c51b1 : (t338 != 0) = false := bne_eq_false_iff_eq.mpr c51
                                  clear c51
                                  by_cases c52 : t361 = 0
                                  · rw [if_pos c52] at H
                                    have c52b0 : (t361 == 0) = true := beq_iff_eq.mpr c52
                                    have c52b1 : (t361 != 0) = false := bne_eq_false_iff_eq.mpr c52
                                    clear c52
                                    replace H := Option.bind_eq_some_iff.mp H
                                    obtain ⟨t363, A530, H⟩ := H
                                    replace H : (if t363 = 2 then ((handshakerlaw07_awake.f k3).bind fun t364 => (some t364)) else (some false)) = some r := H
                                    have A53 := Aside0.mk A530
                                    clear A530
                                    by_cases c54 : t363 = 2
                                    · rw [if_pos c54] at H
                                      have c54b0 : (t363 == 2) = true := beq_iff_eq.mpr c54
                                      have c54b1 : (t363 != 2) = false := bne_eq_false_iff_eq.mpr c54
                                      clear c54
                                      replace H := Option.bind_eq_some_iff.mp H
                                      obtain ⟨t364, A550, H⟩ := H
                                      replace H : (some t364) = some r := H
                                      have A55 := Aside0.mk A550
                                      clear A550
                                      obtain rfl := Option.some.inj H
                                      go_wp2_with (first | ((with_reducible refine gate_dst (N := 107) rfl ?_); (try (refine gate_guard (by rfl) ?_; dsimp only)); refine Kd.R_lit k41 _ 41 ?hg (N := 107) ?hd (xs := ([] : List (S41))) (inner := []) (ok := fun _ => True) (okp := fun _ => True) ?hr ?hp (fun _ hk => hk) trivial (Below.refl _ _) (Nat.le_refl _) (by simp) ?_; (case hd => rfl); (case hg => rfl); (case hr => first | (go_simp; done) | (go_simp; rfl)); (case hp => exact (Reps.none _ _)); intro v353 w56 ho57 hb hg_ hnew_; clear hg_ hnew_; (first | rw [← Ny352.out] at ho57 | (simp only [Int.reduceToNat] at ho57; rw [← Ny352.out] at ho57)); have n0_ := Aside0.mk (Kd.R_elder' (by (with_reducible repeat (first | apply Kd.R_alloc | apply Kd.R_drewN | apply Kd.R_drew)); exact HO_13.out) (Kd.R_base ho57) hb); have n1_ := Aside0.mk (Kd.R_lower (Kd.R_new' ho57 (Kd.R_lt (by (with_reducible repeat (first | apply Kd.R_alloc | apply Kd.R_drewN | apply Kd.R_drew)); exact HO_13.out))) (below_size (by repeat (first | (with_reducible first | exact HB.out | apply below_alloc | apply pw_below_drewN | apply below_drew1) | exact HB.out)))); have n2_ := Aside0.mk (below_step (by repeat (first | (with_reducible first | exact HB.out | apply below_alloc | apply pw_below_drewN | apply below_drew1) | exact HB.out)) hb); clear HO_13; clear HB; have HO_13 := n0_; have HO354 := n1_; have HB := n2_; clear n0_ n1_ n2_; clear hb ho57) | ((with_reducible refine gate_builtin (b := .append) (xs := #[.tmp 107, .tmp 108]) rfl ?_); (try (refine gate_guard (by rfl) ?_; dsimp only)); at_builtin; refine Kd.R_append_rows k41 (w0 := w) w.heap.size rfl (.tmp 107) (.tmp 108) 35 41 (.agg #[(.int .i64 0), (.int .i64 0)]) 16 rfl Try.underlying35 info41 rfl (by decide) (by omega) v353 y352 l0 _ _ _ (fun k_ => some k_ ≠ (v350 : Value).ownBlock) (fun _ => False) rfl rfl ?aO ?aR (fun _ _ h => h) (fun _ h => h.elim) ?aF ?aB ?aS ?aL ?_; (case aR => repeat (first | exact (Kd.C_below HR0.out HB.out) | (with_reducible refine Kd.C_alloc ?_ _) | (with_reducible refine Kd.C_drewN ?_ _) | (with_reducible refine Kd.C_drew ?_))); (case aB => exact (by repeat (first | (with_reducible first | exact HB.out | apply below_alloc | apply pw_below_drewN | apply below_drew1) | exact HB.out))); (case aF => exact (fun k_ hk => Kd.fresh' (Kd.R_lt (by (with_reducible repeat (first | apply Kd.R_alloc | apply Kd.R_drewN | apply Kd.R_drew)); exact HO_13.out)) k_ hk)); (case aO => exact (by (with_reducible repeat (first | apply Kd.R_alloc | apply Kd.R_drewN | apply Kd.R_drew)); exact Kd.R_mono HO354.out (fun _ hk => hk.2))); (case aS => exact (below_size (by repeat (first | (with_reducible first | exact HB.out | apply below_alloc | apply pw_below_drewN | apply below_drew1) | exact HB.out)))); (case aL => have := LMc46.out; omega); intro v356 w58 ho hb hg hat; rw [← Ny355.out] at ho; have n0_ := Aside0.mk (Kd.R_after (ok := (fun _ => True)) (by (with_reducible repeat (first | apply Kd.R_alloc | apply Kd.R_drewN | apply Kd.R_drew)); exact HO_13.out) hg hat); have n1_ := Aside0.mk (hb); have n2_ := Aside0.mk (ho); clear HO_13; clear HB; clear HO354; have HO_13 := n0_; have HB := n1_; have HO357 := n2_; clear n0_ n1_ n2_; clear ho hb hg hat) | ((with_reducible refine gate_builtin (b := .append) (xs := #[.tmp 109, .tmp 111]) rfl ?_); (try (refine gate_guard (by rfl) ?_; dsimp only)); at_builtin; refine Kd.R_append k41 (w0 := w) w.heap.size rfl (.tmp 109) (.tmp 111) 35 41 (.agg #[(.int .i64 0), (.int .i64 0)]) 16 rfl Try.underlying35 info41 rfl (by decide) (by omega) v356 y355 (⟨11, 0⟩ : S41) [.int .i64 11, .int .i64 0] (fun k_ => some k_ ≠ (v350 : Value).ownBlock) (fun _ => False) rfl rfl ?aP (fun _ hk => hk.elim) ?aF ?aO ?aB ?aS ?aL ?_; (case aP => exact k41_mkM _ _ _ (⟨11, 0⟩ : S41)); (case aB => exact (by repeat (first | (with_reducible first | exact HB.out | apply below_alloc | apply pw_below_drewN | apply below_drew1) | exact HB.out))); (case aF => exact (fun k_ hk => Kd.fresh' (Kd.R_lt (by (with_reducible repeat (first | apply Kd.R_alloc | apply Kd.R_drewN | apply Kd.R_drew)); exact HO_13.out)) k_ hk)); (case aO => exact (by (with_reducible repeat (first | apply Kd.R_alloc | apply Kd.R_drewN | apply Kd.R_drew)); exact HO357.out)); (case aS => exact (below_size (by repeat (first | (with_reducible first | exact HB.out | apply below_alloc | apply pw_below_drewN | apply below_drew1) | exact HB.out)))); (case aL => have := LMc47.out; omega); intro v359 w59 ho hb hg hat; rw [← Ny358.out] at ho; have n0_ := Aside0.mk (Kd.R_after (ok := (fun _ => True)) (by (with_reducible repeat (first | apply Kd.R_alloc | apply Kd.R_drewN | apply Kd.R_drew)); exact HO_13.out) hg hat); have n1_ := Aside0.mk (hb); have n2_ := Aside0.mk (ho); clear HO_13; clear HB; clear HO357; have HO_13 := n0_; have HB := n1_; have HO360 := n2_; clear n0_ n1_ n2_; clear ho hb hg hat; obtain ⟨Ao60, co60, eo60⟩ := Kd.R_slice HO360.out; subst eo60) | ((with_reducible refine gate_callee (f := 28) rfl ?_); refine goesL_ (some 115) rfl rfl Try.func28 (by kernel_rfl) rfl #[.slice Ao60 y358.length co60, .slice A2 l2.length c2, .slice A3 l3.length c3] rfl (by (try simp only [List.map_toArray, List.map_cons, List.map_nil]); first | done | rfl | (simp only [List.length_drop, List.length_take]; rfl)) ?_; (with_reducible refine (term_Eval.calls k3 _ _ y358 _ _ l2 _ _ l3 t361 t362 _ ?side1 ?side2 ?side3 ?side4 ?side5 ?side6 A48.out).mono ?_); (case side1 => repeat (first | exact (Kd.R_reads' HO360.out).2.2 | (with_reducible refine Kd.C_alloc ?_ _) | (with_reducible refine Kd.C_drewN ?_ _) | (with_reducible refine Kd.C_drew ?_))); (case side2 => exact (Kd.R_reads' HO360.out).2.1); (case side3 => repeat (first | exact (Kd.C_below HR2.out HB.out) | (with_reducible refine Kd.C_alloc ?_ _) | (with_reducible refine Kd.C_drewN ?_ _) | (with_reducible refine Kd.C_drew ?_))); (case side4 => exact HC2.out); (case side5 => repeat (first | exact (Kd.C_below HR3.out HB.out) | (with_reducible refine Kd.C_alloc ?_ _) | (with_reducible refine Kd.C_drewN ?_ _) | (with_reducible refine Kd.C_drew ?_))); (case side6 => exact HC3.out); rintro e w61 ⟨rfl, hb⟩; refine ⟨_, rfl, ?_⟩; have n0_ := Aside0.mk (Kd.R_below (by (with_reducible repeat (first | apply Kd.R_alloc | apply Kd.R_drewN | apply Kd.R_drew)); exact HO_13.out) hb); have n1_ := Aside0.mk (Kd.R_below (by (with_reducible repeat (first | apply Kd.R_alloc | apply Kd.R_drewN | apply Kd.R_drew)); exact HO360.out) hb); have n2_ := Aside0.mk (below_step (by repeat (first | (with_reducible first | exact HB.out | apply below_alloc | apply pw_below_drewN | apply below_drew1) | exact HB.out)) hb); clear HO_13; clear HO360; clear HB; have HO_13 := n0_; have HO360 := n1_; have HB := n2_; clear n0_ n1_ n2_; (try clear hb); (try clear hb2); (try clear hk); (try clear hi); obtain ⟨Ao62, co62, eo62⟩ := Kd.R_slice HO_13.out; subst eo62) | (go_at_call 25; (with_reducible refine (term_Check.calls k3 _ _ y349 t363 _ ?side1 ?side2 A53.out).mono ?_); (case side1 => repeat (first | exact (Kd.R_reads' HO_13.out).2.2 | (with_reducible refine Kd.C_alloc ?_ _) | (with_reducible refine Kd.C_drewN ?_ _) | (with_reducible refine Kd.C_drew ?_))); (case side2 => exact (Kd.R_reads' HO_13.out).2.1); rintro e w63 ⟨rfl, hb⟩; have n0_ := Aside0.mk (Kd.R_below (by (with_reducible repeat (first | apply Kd.R_alloc | apply Kd.R_drewN | apply Kd.R_drew)); exact HO_13.out) hb); have n1_ := Aside0.mk (Kd.R_below (by (with_reducible repeat (first | apply Kd.R_alloc | apply Kd.R_drewN | apply Kd.R_drew)); exact HO360.out) hb); have n2_ := Aside0.mk (below_step (by repeat (first | (with_reducible first | exact HB.out | apply below_alloc | apply pw_below_drewN | apply below_drew1) | exact HB.out)) hb); clear HO_13; clear HO360; clear HB; have HO_13 := n0_; have HO360 := n1_; have HB := n2_; clear n0_ n1_ n2_; (try clear hb); (try clear hb2); (try clear hk); (try clear hi)) | (go_at_call 27; (with_reducible refine (handshakerlaw07_awake.calls k3  t364 _ A55.out).mono ?_); rintro e w64 ⟨rfl, hb⟩; have n0_ := Aside0.mk (Kd.R_below (by (with_reducible repeat (first | apply Kd.R_alloc | apply Kd.R_drewN | apply Kd.R_drew)); exact HO_13.out) hb); have n1_ := Aside0.mk (Kd.R_below (by (with_reducible repeat (first | apply Kd.R_alloc | apply Kd.R_drewN | apply Kd.R_drew)); exact HO360.out) hb); have n2_ := Aside0.mk (below_step (by repeat (first | (with_reducible first | exact HB.out | apply below_alloc | apply pw_below_drewN | apply below_drew1) | exact HB.out)) hb); clear HO_13; clear HO360; clear HB; have HO_13 := n0_; have HO360 := n1_; have HB := n2_; clear n0_ n1_ n2_; (try clear hb); (try clear hb2); (try clear hk); (try clear hi)))
                                      go_ret
                                      exact ⟨by first | rfl | (simp [errW_none, errW_some] <;> rfl) | (simp [*, errW_none, errW_some] <;> rfl), by repeat (first | (with_reducible first | exact HB.out | apply below_alloc | apply pw_below_drewN | apply below_drew1) | exact HB.out)⟩
                                    · rw [if_neg c54] at H
                                      have c54b0 : (t363 == 2) = false := beq_eq_false_iff_ne.mpr c54
                                      have c54b1 : (t363 != 2) = true := bne_iff_ne.mpr c54
                                      exact absurd (Option.some.inj H) (by rw [HT.out]; decide)
                                  · rw [if_neg c52] at H
                                    have c52b0 : (t361 == 0) = false := beq_eq_false_iff_ne.mpr c52
                                    have c52b1 : (t361 != 0) = true := bne_iff_ne.mpr c52
                                    replace H := Option.bind_eq_some_iff.mp H
                                    obtain ⟨t365, A650, H⟩ := H
                                    replace H : (if t365 = 2 then ((handshakerlaw07_awake.f k3).bind fun t366 => (some t366)) else (some false)) = some r := H
                                    have A65 := Aside0.mk A650
                                    clear A650
                                    by_cases c66 : t365 = 2
                                    · rw [if_pos c66] at H
                                      have c66b0 : (t365 == 2) = true := beq_iff_eq.mpr c66
                                      have c66b1 : (t365 != 2) = false := bne_eq_false_iff_eq.mpr c66
                                      clear c66
                                      replace H := Option.bind_eq_some_iff.mp H
                                      obtain ⟨t366, A670, H⟩ := H
                                      replace H : (some t366) = some r := H
                                      have A67 := Aside0.mk A670
                                      clear A670
                                      obtain rfl := Option.some.inj H
                                      go_wp2_with (first | ((with_reducible refine gate_dst (N := 107) rfl ?_); (try (refine gate_guard (by rfl) ?_; dsimp only)); refine Kd.R_lit k41 _ 41 ?hg (N := 107) ?hd (xs := ([] : List (S41))) (inner := []) (ok := fun _ => True) (okp := fun _ => True) ?hr ?hp (fun _ hk => hk) trivial (Below.refl _ _) (Nat.le_refl _) (by simp) ?_; (case hd => rfl); (case hg => rfl); (case hr => first | (go_simp; done) | (go_simp; rfl)); (case hp => exact (Reps.none _ _)); intro v353 w68 ho69 hb hg_ hnew_; clear hg_ hnew_; (first | rw [← Ny352.out] at ho69 | (simp only [Int.reduceToNat] at ho69; rw [← Ny352.out] at ho69)); have n0_ := Aside0.mk (Kd.R_elder' (by (with_reducible repeat (first | apply Kd.R_alloc | apply Kd.R_drewN | apply Kd.R_drew)); exact HO_13.out) (Kd.R_base ho69) hb); have n1_ := Aside0.mk (Kd.R_lower (Kd.R_new' ho69 (Kd.R_lt (by (with_reducible repeat (first | apply Kd.R_alloc | apply Kd.R_drewN | apply Kd.R_drew)); exact HO_13.out))) (below_size (by repeat (first | (with_reducible first | exact HB.out | apply below_alloc | apply pw_below_drewN | apply below_drew1) | exact HB.out)))); have n2_ := Aside0.mk (below_step (by repeat (first | (with_reducible first | exact HB.out | apply below_alloc | apply pw_below_drewN | apply below_drew1) | exact HB.out)) hb); clear HO_13; clear HB; have HO_13 := n0_; have HO354 := n1_; have HB := n2_; clear n0_ n1_ n2_; clear hb ho69) | ((with_reducible refine gate_builtin (b := .append) (xs := #[.tmp 107, .tmp 108]) rfl ?_); (try (refine gate_guard (by rfl) ?_; dsimp only)); at_builtin; refine Kd.R_append_rows k41 (w0 := w) w.heap.size rfl (.tmp 107) (.tmp 108) 35 41 (.agg #[(.int .i64 0), (.int .i64 0)]) 16 rfl Try.underlying35 info41 rfl (by decide) (by omega) v353 y352 l0 _ _ _ (fun k_ => some k_ ≠ (v350 : Value).ownBlock) (fun _ => False) rfl rfl ?aO ?aR (fun _ _ h => h) (fun _ h => h.elim) ?aF ?aB ?aS ?aL ?_; (case aR => repeat (first | exact (Kd.C_below HR0.out HB.out) | (with_reducible refine Kd.C_alloc ?_ _) | (with_reducible refine Kd.C_drewN ?_ _) | (with_reducible refine Kd.C_drew ?_))); (case aB => exact (by repeat (first | (with_reducible first | exact HB.out | apply below_alloc | apply pw_below_drewN | apply below_drew1) | exact HB.out))); (case aF => exact (fun k_ hk => Kd.fresh' (Kd.R_lt (by (with_reducible repeat (first | apply Kd.R_alloc | apply Kd.R_drewN | apply Kd.R_drew)); exact HO_13.out)) k_ hk)); (case aO => exact (by (with_reducible repeat (first | apply Kd.R_alloc | apply Kd.R_drewN | apply Kd.R_drew)); exact Kd.R_mono HO354.out (fun _ hk => hk.2))); (case aS => exact (below_size (by repeat (first | (with_reducible first | exact HB.out | apply below_alloc | apply pw_below_drewN | apply below_drew1) | exact HB.out)))); (case aL => have := LMc46.out; omega); intro v356 w70 ho hb hg hat; rw [← Ny355.out] at ho; have n0_ := Aside0.mk (Kd.R_after (ok := (fun _ => True)) (by (with_reducible repeat (first | apply Kd.R_alloc | apply Kd.R_drewN | apply Kd.R_drew)); exact HO_13.out) hg hat); have n1_ := Aside0.mk (hb); have n2_ := Aside0.mk (ho); clear HO_13; clear HB; clear HO354; have HO_13 := n0_; have HB := n1_; have HO357 := n2_; clear n0_ n1_ n2_; clear ho hb hg hat) | ((with_reducible refine gate_builtin (b := .append) (xs := #[.tmp 109, .tmp 111]) rfl ?_); (try (refine gate_guard (by rfl) ?_; dsimp only)); at_builtin; refine Kd.R_append k41 (w0 := w) w.heap.size rfl (.tmp 109) (.tmp 111) 35 41 (.agg #[(.int .i64 0), (.int .i64 0)]) 16 rfl Try.underlying35 info41 rfl (by decide) (by omega) v356 y355 (⟨11, 0⟩ : S41) [.int .i64 11, .int .i64 0] (fun k_ => some k_ ≠ (v350 : Value).ownBlock) (fun _ => False) rfl rfl ?aP (fun _ hk => hk.elim) ?aF ?aO ?aB ?aS ?aL ?_; (case aP => exact k41_mkM _ _ _ (⟨11, 0⟩ : S41)); (case aB => exact (by repeat (first | (with_reducible first | exact HB.out | apply below_alloc | apply pw_below_drewN | apply below_drew1) | exact HB.out))); (case aF => exact (fun k_ hk => Kd.fresh' (Kd.R_lt (by (with_reducible repeat (first | apply Kd.R_alloc | apply Kd.R_drewN | apply Kd.R_drew)); exact HO_13.out)) k_ hk)); (case aO => exact (by (with_reducible repeat (first | apply Kd.R_alloc | apply Kd.R_drewN | apply Kd.R_drew)); exact HO357.out)); (case aS => exact (below_size (by repeat (first | (with_reducible first | exact HB.out | apply below_alloc | apply pw_below_drewN | apply below_drew1) | exact HB.out)))); (case aL => have := LMc47.out; omega); intro v359 w71 ho hb hg hat; rw [← Ny358.out] at ho; have n0_ := Aside0.mk (Kd.R_after (ok := (fun _ => True)) (by (with_reducible repeat (first | apply Kd.R_alloc | apply Kd.R_drewN | apply Kd.R_drew)); exact HO_13.out) hg hat); have n1_ := Aside0.mk (hb); have n2_ := Aside0.mk (ho); clear HO_13; clear HB; clear HO357; have HO_13 := n0_; have HB := n1_; have HO360 := n2_; clear n0_ n1_ n2_; clear ho hb hg hat; obtain ⟨Ao72, co72, eo72⟩ := Kd.R_slice HO360.out; subst eo72) | ((with_reducible refine gate_callee (f := 28) rfl ?_); refine goesL_ (some 115) rfl rfl Try.func28 (by kernel_rfl) rfl #[.slice Ao72 y358.length co72, .slice A2 l2.length c2, .slice A3 l3.length c3] rfl (by (try simp only [List.map_toArray, List.map_cons, List.map_nil]); first | done | rfl | (simp only [List.length_drop, List.length_take]; rfl)) ?_; (with_reducible refine (term_Eval.calls k3 _ _ y358 _ _ l2 _ _ l3 t361 t362 _ ?side1 ?side2 ?side3 ?side4 ?side5 ?side6 A48.out).mono ?_); (case side1 => repeat (first | exact (Kd.R_reads' HO360.out).2.2 | (with_reducible refine Kd.C_alloc ?_ _) | (with_reducible refine Kd.C_drewN ?_ _) | (with_reducible refine Kd.C_drew ?_))); (case side2 => exact (Kd.R_reads' HO360.out).2.1); (case side3 => repeat (first | exact (Kd.C_below HR2.out HB.out) | (with_reducible refine Kd.C_alloc ?_ _) | (with_reducible refine Kd.C_drewN ?_ _) | (with_reducible refine Kd.C_drew ?_))); (case side4 => exact HC2.out); (case side5 => repeat (first | exact (Kd.C_below HR3.out HB.out) | (with_reducible refine Kd.C_alloc ?_ _) | (with_reducible refine Kd.C_drewN ?_ _) | (with_reducible refine Kd.C_drew ?_))); (case side6 => exact HC3.out); rintro e w73 ⟨rfl, hb⟩; refine ⟨_, rfl, ?_⟩; have n0_ := Aside0.mk (Kd.R_below (by (with_reducible repeat (first | apply Kd.R_alloc | apply Kd.R_drewN | apply Kd.R_drew)); exact HO_13.out) hb); have n1_ := Aside0.mk (Kd.R_below (by (with_reducible repeat (first | apply Kd.R_alloc | apply Kd.R_drewN | apply Kd.R_drew)); exact HO360.out) hb); have n2_ := Aside0.mk (below_step (by repeat (first | (with_reducible first | exact HB.out | apply below_alloc | apply pw_below_drewN | apply below_drew1) | exact HB.out)) hb); clear HO_13; clear HO360; clear HB; have HO_13 := n0_; have HO360 := n1_; have HB := n2_; clear n0_ n1_ n2_; (try clear hb); (try clear hb2); (try clear hk); (try clear hi); obtain ⟨Ao74, co74, eo74⟩ := Kd.R_slice HO_13.out; subst eo74) | (go_at_call 25; (with_reducible refine (term_Check.calls k3 _ _ y349 t365 _ ?side1 ?side2 A65.out).mono ?_); (case side1 => repeat (first | exact (Kd.R_reads' HO_13.out).2.2 | (with_reducible refine Kd.C_alloc ?_ _) | (with_reducible refine Kd.C_drewN ?_ _) | (with_reducible refine Kd.C_drew ?_))); (case side2 => exact (Kd.R_reads' HO_13.out).2.1); rintro e w75 ⟨rfl, hb⟩; have n0_ := Aside0.mk (Kd.R_below (by (with_reducible repeat (first | apply Kd.R_alloc | apply Kd.R_drewN | apply Kd.R_drew)); exact HO_13.out) hb); have n1_ := Aside0.mk (Kd.R_below (by (with_reducible repeat (first | apply Kd.R_alloc | apply Kd.R_drewN | apply Kd.R_drew)); exact HO360.out) hb); have n2_ := Aside0.mk (below_step (by repeat (first | (with_reducible first | exact HB.out | apply below_alloc | apply pw_below_drewN | apply below_drew1) | exact HB.out)) hb); clear HO_13; clear HO360; clear HB; have HO_13 := n0_; have HO360 := n1_; have HB := n2_; clear n0_ n1_ n2_; (try clear hb); (try clear hb2); (try clear hk); (try clear hi)) | (go_at_call 27; (with_reducible refine (handshakerlaw07_awake.calls k3  t366 _ A67.out).mono ?_); rintro e w76 ⟨rfl, hb⟩; have n0_ := Aside0.mk (Kd.R_below (by (with_reducible repeat (first | apply Kd.R_alloc | apply Kd.R_drewN | apply Kd.R_drew)); exact HO_13.out) hb); have n1_ := Aside0.mk (Kd.R_below (by (with_reducible repeat (first | apply Kd.R_alloc | apply Kd.R_drewN | apply Kd.R_drew)); exact HO360.out) hb); have n2_ := Aside0.mk (below_step (by repeat (first | (with_reducible first | exact HB.out | apply below_alloc | apply pw_below_drewN | apply below_drew1) | exact HB.out)) hb); clear HO_13; clear HO360; clear HB; have HO_13 := n0_; have HO360 := n1_; have HB := n2_; clear n0_ n1_ n2_; (try clear hb); (try clear hb2); (try clear hk); (try clear hi)))
                                      go_ret
                                      exact ⟨by first | rfl | (simp [errW_none, errW_some] <;> rfl) | (simp [*, errW_none, errW_some] <;> rfl), by repeat (first | (with_reducible first | exact HB.out | apply below_alloc | apply pw_below_drewN | apply below_drew1) | exact HB.out)⟩
                                    · rw [if_neg c66] at H
                                      have c66b0 : (t365 == 2) = false := beq_eq_false_iff_ne.mpr c66
                                      have c66b1 : (t365 != 2) = true := bne_iff_ne.mpr c66
                                      exact absurd (Option.some.inj H) (by rw [HT.out]; decide)
                                · rw [if_neg c51] at H
                                  have c51b0 : (t338 == 0) = false := beq_eq_false_iff_ne.mpr c51
                                  have c51b1 : (t338 != 0) = true := bne_iff_ne.mpr c51
                                  exact absurd (Option.some.inj H) (by rw [HT.out]; decide)
                              · rw [if_neg c50] at H
                                have c50b0 : (t361 == 1) = false := beq_eq_false_iff_ne.mpr c50
                                have c50b1 : (t361 != 1) = true := bne_iff_ne.mpr c50
                                by_cases c77 : t338 = 0
                                · rw [if_pos c77] at H
                                  have c77b0 : (t338 == 0) = true := beq_iff_eq.mpr c77
                                  have c77b1 : (t338 != 0) = false := bne_eq_false_iff_eq.mpr c77
                                  clear c77
                                  exact absurd (Option.some.inj H) (by rw [HT.out]; decide)
                                · rw [if_neg c77] at H
                                  have c77b0 : (t338 == 0) = false := beq_eq_false_iff_ne.mpr c77
                                  have c77b1 : (t338 != 0) = true := bne_iff_ne.mpr c77
                                  by_cases c78 : t361 = 0
                                  · rw [if_pos c78] at H
                                    have c78b0 : (t361 == 0) = true := beq_iff_eq.mpr c78
                                    have c78b1 : (t361 != 0) = false := bne_eq_false_iff_eq.mpr c78
                                    clear c78
                                    replace H := Option.bind_eq_some_iff.mp H
                                    obtain ⟨t367, A790, H⟩ := H
                                    replace H : (if t367 = 2 then ((handshakerlaw07_awake.f k3).bind fun t368 => (some t368)) else (some false)) = some r := H
                                    have A79 := Aside0.mk A790
                                    clear A790
                                    by_cases c80 : t367 = 2
                                    · rw [if_pos c80] at H
                                      have c80b0 : (t367 == 2) = true := beq_iff_eq.mpr c80
                                      have c80b1 : (t367 != 2) = false := bne_eq_false_iff_eq.mpr c80
                                      clear c80
                                      replace H := Option.bind_eq_some_iff.mp H
                                      obtain ⟨t368, A810, H⟩ := H
                                      replace H : (some t368) = some r := H
                                      have A81 := Aside0.mk A810
                                      clear A810
                                      obtain rfl := Option.some.inj H
                                      go_wp2_with (first | ((with_reducible refine gate_dst (N := 107) rfl ?_); (try (refine gate_guard (by rfl) ?_; dsimp only)); refine Kd.R_lit k41 _ 41 ?hg (N := 107) ?hd (xs := ([] : List (S41))) (inner := []) (ok := fun _ => True) (okp := fun _ => True) ?hr ?hp (fun _ hk => hk) trivial (Below.refl _ _) (Nat.le_refl _) (by simp) ?_; (case hd => rfl); (case hg => rfl); (case hr => first | (go_simp; done) | (go_simp; rfl)); (case hp => exact (Reps.none _ _)); intro v353 w82 ho83 hb hg_ hnew_; clear hg_ hnew_; (first | rw [← Ny352.out] at ho83 | (simp only [Int.reduceToNat] at ho83; rw [← Ny352.out] at ho83)); have n0_ := Aside0.mk (Kd.R_elder' (by (with_reducible repeat (first | apply Kd.R_alloc | apply Kd.R_drewN | apply Kd.R_drew)); exact HO_13.out) (Kd.R_base ho83) hb); have n1_ := Aside0.mk (Kd.R_lower (Kd.R_new' ho83 (Kd.R_lt (by (with_reducible repeat (first | apply Kd.R_alloc | apply Kd.R_drewN | apply Kd.R_drew)); exact HO_13.out))) (below_size (by repeat (first | (with_reducible first | exact HB.out | apply below_alloc | apply pw_below_drewN | apply below_drew1) | exact HB.out)))); have n2_ := Aside0.mk (below_step (by repeat (first | (with_reducible first | exact HB.out | apply below_alloc | apply pw_below_drewN | apply below_drew1) | exact HB.out)) hb); clear HO_13; clear HB; have HO_13 := n0_; have HO354 := n1_; have HB := n2_; clear n0_ n1_ n2_; clear hb ho83) | ((with_reducible refine gate_builtin (b := .append) (xs := #[.tmp 107, .tmp 108]) rfl ?_); (try (refine gate_guard (by rfl) ?_; dsimp only)); at_builtin; refine Kd.R_append_rows k41 (w0 := w) w.heap.size rfl (.tmp 107) (.tmp 108) 35 41 (.agg #[(.int .i64 0), (.int .i64 0)]) 16 rfl Try.underlying35 info41 rfl (by decide) (by omega) v353 y352 l0 _ _ _ (fun k_ => some k_ ≠ (v350 : Value).ownBlock) (fun _ => False) rfl rfl ?aO ?aR (fun _ _ h => h) (fun _ h => h.elim) ?aF ?aB ?aS ?aL ?_; (case aR => repeat (first | exact (Kd.C_below HR0.out HB.out) | (with_reducible refine Kd.C_alloc ?_ _) | (with_reducible refine Kd.C_drewN ?_ _) | (with_reducible refine Kd.C_drew ?_))); (case aB => exact (by repeat (first | (with_reducible first | exact HB.out | apply below_alloc | apply pw_below_drewN | apply below_drew1) | exact HB.out))); (case aF => exact (fun k_ hk => Kd.fresh' (Kd.R_lt (by (with_reducible repeat (first | apply Kd.R_alloc | apply Kd.R_drewN | apply Kd.R_drew)); exact HO_13.out)) k_ hk)); (case aO => exact (by (with_reducible repeat (first | apply Kd.R_alloc | apply Kd.R_drewN | apply Kd.R_drew)); exact Kd.R_mono HO354.out (fun _ hk => hk.2))); (case aS => exact (below_size (by repeat (first | (with_reducible first | exact HB.out | apply below_alloc | apply pw_below_drewN | apply below_drew1) | exact HB.out)))); (case aL => have := LMc46.out; omega); intro v356 w84 ho hb hg hat; rw [← Ny355.out] at ho; have n0_ := Aside0.mk (Kd.R_after (ok := (fun _ => True)) (by (with_reducible repeat (first | apply Kd.R_alloc | apply Kd.R_drewN | apply Kd.R_drew)); exact HO_13.out) hg hat); have n1_ := Aside0.mk (hb); have n2_ := Aside0.mk (ho); clear HO_13; clear HB; clear HO354; have HO_13 := n0_; have HB := n1_; have HO357 := n2_; clear n0_ n1_ n2_; clear ho hb hg hat) | ((with_reducible refine gate_builtin (b := .append) (xs := #[.tmp 109, .tmp 111]) rfl ?_); (try (refine gate_guard (by rfl) ?_; dsimp only)); at_builtin; refine Kd.R_append k41 (w0 := w) w.heap.size rfl (.tmp 109) (.tmp 111) 35 41 (.agg #[(.int .i64 0), (.int .i64 0)]) 16 rfl Try.underlying35 info41 rfl (by decide) (by omega) v356 y355 (⟨11, 0⟩ : S41) [.int .i64 11, .int .i64 0] (fun k_ => some k_ ≠ (v350 : Value).ownBlock) (fun _ => False) rfl rfl ?aP (fun _ hk => hk.elim) ?aF ?aO ?aB ?aS ?aL ?_; (case aP => exact k41_mkM _ _ _ (⟨11, 0⟩ : S41)); (case aB => exact (by repeat (first | (with_reducible first | exact HB.out | apply below_alloc | apply pw_below_drewN | apply below_drew1) | exact HB.out))); (case aF => exact (fun k_ hk => Kd.fresh' (Kd.R_lt (by (with_reducible repeat (first | apply Kd.R_alloc | apply Kd.R_drewN | apply Kd.R_drew)); exact HO_13.out)) k_ hk)); (case aO => exact (by (with_reducible repeat (first | apply Kd.R_alloc | apply Kd.R_drewN | apply Kd.R_drew)); exact HO357.out)); (case aS => exact (below_size (by repeat (first | (with_reducible first | exact HB.out | apply below_alloc | apply pw_below_drewN | apply below_drew1) | exact HB.out)))); (case aL => have := LMc47.out; omega); intro v359 w85 ho hb hg hat; rw [← Ny358.out] at ho; have n0_ := Aside0.mk (Kd.R_after (ok := (fun _ => True)) (by (with_reducible repeat (first | apply Kd.R_alloc | apply Kd.R_drewN | apply Kd.R_drew)); exact HO_13.out) hg hat); have n1_ := Aside0.mk (hb); have n2_ := Aside0.mk (ho); clear HO_13; clear HB; clear HO357; have HO_13 := n0_; have HB := n1_; have HO360 := n2_; clear n0_ n1_ n2_; clear ho hb hg hat; obtain ⟨Ao86, co86, eo86⟩ := Kd.R_slice HO360.out; subst eo86) | ((with_reducible refine gate_callee (f := 28) rfl ?_); refine goesL_ (some 115) rfl rfl Try.func28 (by kernel_rfl) rfl #[.slice Ao86 y358.length co86, .slice A2 l2.length c2, .slice A3 l3.length c3] rfl (by (try simp only [List.map_toArray, List.map_cons, List.map_nil]); first | done | rfl | (simp only [List.length_drop, List.length_take]; rfl)) ?_; (with_reducible refine (term_Eval.calls k3 _ _ y358 _ _ l2 _ _ l3 t361 t362 _ ?side1 ?side2 ?side3 ?side4 ?side5 ?side6 A48.out).mono ?_); (case side1 => repeat (first | exact (Kd.R_reads' HO360.out).2.2 | (with_reducible refine Kd.C_alloc ?_ _) | (with_reducible refine Kd.C_drewN ?_ _) | (with_reducible refine Kd.C_drew ?_))); (case side2 => exact (Kd.R_reads' HO360.out).2.1); (case side3 => repeat (first | exact (Kd.C_below HR2.out HB.out) | (with_reducible refine Kd.C_alloc ?_ _) | (with_reducible refine Kd.C_drewN ?_ _) | (with_reducible refine Kd.C_drew ?_))); (case side4 => exact HC2.out); (case side5 => repeat (first | exact (Kd.C_below HR3.out HB.out) | (with_reducible refine Kd.C_alloc ?_ _) | (with_reducible refine Kd.C_drewN ?_ _) | (with_reducible refine Kd.C_drew ?_))); (case side6 => exact HC3.out); rintro e w87 ⟨rfl, hb⟩; refine ⟨_, rfl, ?_⟩; have n0_ := Aside0.mk (Kd.R_below (by (with_reducible repeat (first | apply Kd.R_alloc | apply Kd.R_drewN | apply Kd.R_drew)); exact HO_13.out) hb); have n1_ := Aside0.mk (Kd.R_below (by (with_reducible repeat (first | apply Kd.R_alloc | apply Kd.R_drewN | apply Kd.R_drew)); exact HO360.out) hb); have n2_ := Aside0.mk (below_step (by repeat (first | (with_reducible first | exact HB.out | apply below_alloc | apply pw_below_drewN | apply below_drew1) | exact HB.out)) hb); clear HO_13; clear HO360; clear HB; have HO_13 := n0_; have HO360 := n1_; have HB := n2_; clear n0_ n1_ n2_; (try clear hb); (try clear hb2); (try clear hk); (try clear hi); obtain ⟨Ao88, co88, eo88⟩ := Kd.R_slice HO_13.out; subst eo88) | (go_at_call 25; (with_reducible refine (term_Check.calls k3 _ _ y349 t367 _ ?side1 ?side2 A79.out).mono ?_); (case side1 => repeat (first | exact (Kd.R_reads' HO_13.out).2.2 | (with_reducible refine Kd.C_alloc ?_ _) | (with_reducible refine Kd.C_drewN ?_ _) | (with_reducible refine Kd.C_drew ?_))); (case side2 => exact (Kd.R_reads' HO_13.out).2.1); rintro e w89 ⟨rfl, hb⟩; have n0_ := Aside0.mk (Kd.R_below (by (with_reducible repeat (first | apply Kd.R_alloc | apply Kd.R_drewN | apply Kd.R_drew)); exact HO_13.out) hb); have n1_ := Aside0.mk (Kd.R_below (by (with_reducible repeat (first | apply Kd.R_alloc | apply Kd.R_drewN | apply Kd.R_drew)); exact HO360.out) hb); have n2_ := Aside0.mk (below_step (by repeat (first | (with_reducible first | exact HB.out | apply below_alloc | apply pw_below_drewN | apply below_drew1) | exact HB.out)) hb); clear HO_13; clear HO360; clear HB; have HO_13 := n0_; have HO360 := n1_; have HB := n2_; clear n0_ n1_ n2_; (try clear hb); (try clear hb2); (try clear hk); (try clear hi)) | (go_at_call 27; (with_reducible refine (handshakerlaw07_awake.calls k3  t368 _ A81.out).mono ?_); rintro e w90 ⟨rfl, hb⟩; have n0_ := Aside0.mk (Kd.R_below (by (with_reducible repeat (first | apply Kd.R_alloc | apply Kd.R_drewN | apply Kd.R_drew)); exact HO_13.out) hb); have n1_ := Aside0.mk (Kd.R_below (by (with_reducible repeat (first | apply Kd.R_alloc | apply Kd.R_drewN | apply Kd.R_drew)); exact HO360.out) hb); have n2_ := Aside0.mk (below_step (by repeat (first | (with_reducible first | exact HB.out | apply below_alloc | apply pw_below_drewN | apply below_drew1) | exact HB.out)) hb); clear HO_13; clear HO360; clear HB; have HO_13 := n0_; have HO360 := n1_; have HB := n2_; clear n0_ n1_ n2_; (try clear hb); (try clear hb2); (try clear hk); (try clear hi)))
                                      go_ret
                                      exact ⟨by first | rfl | (simp [errW_none, errW_some] <;> rfl) | (simp [*, errW_none, errW_some] <;> rfl), by repeat (first | (with_reducible first | exact HB.out | apply below_alloc | apply pw_below_drewN | apply below_drew1) | exact HB.out)⟩
                                    · rw [if_neg c80] at H
                                      have c80b0 : (t367 == 2) = false := beq_eq_false_iff_ne.mpr c80
                                      have c80b1 : (t367 != 2) = true := bne_iff_ne.mpr c80
                                      exact absurd (Option.some.inj H) (by rw [HT.out]; decide)
                                  · rw [if_neg c78] at H
                                    have c78b0 : (t361 == 0) = false := beq_eq_false_iff_ne.mpr c78
                                    have c78b1 : (t361 != 0) = true := bne_iff_ne.mpr c78
                                    exact absurd (Option.some.inj H) (by rw [HT.out]; decide)
                            · rw [if_neg c49] at H
                              have c49b0 : (t362 == 0) = false := beq_eq_false_iff_ne.mpr c49
                              have c49b1 : (t362 != 0) = true := bne_iff_ne.mpr c49
                              exact absurd (Option.some.inj H) (by rw [HT.out]; decide)
                          · rw [if_neg c47] at H
                            exact absurd H (by simp)
                        · rw [if_neg c46] at H
                          exact absurd H (by simp)
                · rw [if_neg c22] at H
                  exact absurd H (by simp)
              · rw [if_neg c21] at H
                exact absurd H (by simp)

/-- THE ONE PURE STATEMENT of handshakerlaw07_TermTwo. -/
def handshakerlaw07_TermTwo.Pure : Prop := ∀ (l0 : List (S41)) (l1 : List (S41)) (l2 : List (S58)) (l3 : List Int), l0.length ≤ maxLen → l0.length * 16 ≤ 140737488351232 → (∀ y ∈ l0, wfS41 y) → l1.length ≤ maxLen → l1.length * 16 ≤ 140737488351232 → (∀ y ∈ l1, wfS41 y) → l2.length ≤ maxLen → l2.length * 16 ≤ 140737488351232 → (∀ y ∈ l2, wfS58 y) → l3.length ≤ maxLen → l3.length * 8 ≤ 140737488351232 → (∀ y ∈ l3, (Lit.int .i64 y).wf = true) → ∃ k, handshakerlaw07_TermTwo.f k l0 l1 l2 l3 = some true

end Go.Proofs.Ytbcpnbmegaodbaa.Tc
