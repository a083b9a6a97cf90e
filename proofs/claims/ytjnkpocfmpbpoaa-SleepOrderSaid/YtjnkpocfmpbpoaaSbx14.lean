-- PRINTED by print.py (a twelfth state) out of the translation. Not trusted: Lean checks it.
import Derived.Test.YtjnkpocfmpbpoaaSbx0
import Derived.Test.YtjnkpocfmpbpoaaSbx3
import Derived.Test.YtjnkpocfmpbpoaaSbx6
import Derived.Test.YtjnkpocfmpbpoaaSbx8
import Derived.Test.YtjnkpocfmpbpoaaSbx10
import Derived.Test.YtjnkpocfmpbpoaaSbx11
import Derived.Test.YtjnkpocfmpbpoaaSbx13
namespace Go.Proofs.Ytjnkpocfmpbpoaa.Sb
open Go.Proofs.Ytjnkpocfmpbpoaa.Ho
open Go.RowKit Go.Proofs.YtjnkpocfmpbpoaaW.PrintWords Go.Proofs.YtjnkpocfmpbpoaaW.PrintLast Go.Proofs.YtjnkpocfmpbpoaaW.PrintMore
attribute [local go_sem] max2_int min2_int max_two min_two max_three min_three max_four min_four   -- for this text's walks alone
set_option linter.unusedVariables false
set_option linter.unusedSimpArgs false

/-! ### handshakerlaw15_SleepOrder: function 7 -/
mutual
def handshakerlaw15_SleepOrder.j0 : Nat → List (S26) → Int → Bool → Option (Bool)
 | 0, _, _, _ => none
 | k + 1, x0, x1, x25 => if x25 = true then ((handshakerlaw15_awake.f k).bind fun t349 => (some t349)) else (handshakerlaw15_SleepOrder.l0 k x0 x1 ([] : List (S26)) ([] : List Int) (x0.length : Int) 0)
def handshakerlaw15_SleepOrder.l0 : Nat → List (S26) → Int → List (S26) → List Int → Int → Int → Option (Bool)
 | 0, _, _, _, _, _, _ => none
 | k + 1, x0, x1, x5, x6, x28, x29 => if x29 < x28 then (if (x0.length : Int) = 0 then (none) else (if 0 ≤ (Int.tmod (wrap64 ((wrap64 ((x0.length : Int) - x29)) + (wrap64 (x1)))) (x0.length : Int)) then (if (Int.tmod (wrap64 ((wrap64 ((x0.length : Int) - x29)) + (wrap64 (x1)))) (x0.length : Int)) < (x0.length : Int) then ((sleep_Add.f k x5 ((rd_T26 x0 (Int.tmod (wrap64 ((wrap64 ((x0.length : Int) - x29)) + (wrap64 (x1)))) (x0.length : Int))).f0) ((rd_T26 x0 (Int.tmod (wrap64 ((wrap64 ((x0.length : Int) - x29)) + (wrap64 (x1)))) (x0.length : Int))).f1) ((rd_T26 x0 (Int.tmod (wrap64 ((wrap64 ((x0.length : Int) - x29)) + (wrap64 (x1)))) (x0.length : Int))).f2) ((rd_T26 x0 (Int.tmod (wrap64 ((wrap64 ((x0.length : Int) - x29)) + (wrap64 (x1)))) (x0.length : Int))).f3) ((rd_T26 x0 (Int.tmod (wrap64 ((wrap64 ((x0.length : Int) - x29)) + (wrap64 (x1)))) (x0.length : Int))).f4)).bind fun bt352 => (if bt352.2 = 0 then (if x6.length < 17592186044416 then (handshakerlaw15_SleepOrder.l0 k x0 x1 bt352.1 (x6 ++ [(rd_T26 x0 (Int.tmod (wrap64 ((wrap64 ((x0.length : Int) - x29)) + (wrap64 (x1)))) (x0.length : Int))).f0]) x28 (wrap64 (x29 + 1))) else (none)) else (some false))) else (none)) else (none))) else ((sleep_Drop.f k x5 x6).bind fun bt359 => ((handshakerlaw15_Refs.f k x5).bind fun t363 => ((handshakerlaw15_Refs.f k x0).bind fun t366 => ((handshakerref15_Same.f k t363 t366).bind fun t369 => (if t369 = true then (if bt359.2 = 0 then (if (bt359.1.length : Int) = 0 then ((handshakerlaw15_awake.f k).bind fun t370 => (some t370)) else (some false)) else (some false)) else (some false))))))
end
def handshakerlaw15_SleepOrder.f (k : Nat) (l0 : List (S26)) (a1 : Int) : Option (Bool) := (handshakerlaw15_Small.f k l0).bind fun t347 => (if t347 < 0 then (handshakerlaw15_SleepOrder.j0 k l0 a1 true) else ((sleep_Right.f k l0).bind fun t348 => (if t348 = true then (handshakerlaw15_SleepOrder.j0 k l0 a1 ((l0.length : Int) == 0)) else (handshakerlaw15_SleepOrder.j0 k l0 a1 true))))
theorem handshakerlaw15_SleepOrder.mono_l : ∀ k, (∀ y0 y1 y2, LeO (handshakerlaw15_SleepOrder.j0 k y0 y1 y2) (handshakerlaw15_SleepOrder.j0 (k + 1) y0 y1 y2)) ∧ (∀ y0 y1 y2 y3 y4 y5, LeO (handshakerlaw15_SleepOrder.l0 k y0 y1 y2 y3 y4 y5) (handshakerlaw15_SleepOrder.l0 (k + 1) y0 y1 y2 y3 y4 y5))
 | 0 => ⟨fun _ _ _ r h => by simp [handshakerlaw15_SleepOrder.j0] at h, fun _ _ _ _ _ _ r h => by simp [handshakerlaw15_SleepOrder.l0] at h⟩
 | k + 1 => by
  obtain ⟨ih0, ih1⟩ := handshakerlaw15_SleepOrder.mono_l k
  refine ⟨?_, ?_⟩
  · intro y0 y1 y2
    unfold handshakerlaw15_SleepOrder.j0
    repeat' first
    | (with_reducible exact ih0 _ _ _)
    | (with_reducible exact ih1 _ _ _ _ _ _)
    | (with_reducible exact handshakerlaw15_Refs.mono _ _)
    | (with_reducible exact handshakerlaw15_Small.mono _ _)
    | (with_reducible exact handshakerlaw15_awake.mono _)
    | (with_reducible exact handshakerref15_Same.mono _ _ _)
    | (with_reducible exact sleep_Add.mono _ _ _ _ _ _ _)
    | (with_reducible exact sleep_Drop.mono _ _ _)
    | (with_reducible exact sleep_Right.mono _ _)
    | (with_reducible exact LeO.refl _)
    | (with_reducible exact LeO.none _)
    | (with_reducible refine LeO.ite ?_ ?_)
    | (with_reducible refine LeO.bind ?_ (fun _ => ?_))
    | exact ih0 _ _ _
    | exact ih1 _ _ _ _ _ _
    | exact handshakerlaw15_Refs.mono _ _
    | exact handshakerlaw15_Small.mono _ _
    | exact handshakerlaw15_awake.mono _
    | exact handshakerref15_Same.mono _ _ _
    | exact sleep_Add.mono _ _ _ _ _ _ _
    | exact sleep_Drop.mono _ _ _
    | exact sleep_Right.mono _ _
    | exact LeO.none _
    | refine LeO.ite ?_ ?_
    | refine LeO.bind ?_ (fun _ => ?_)
  · intro y0 y1 y2 y3 y4 y5
    unfold handshakerlaw15_SleepOrder.l0
    repeat' first
    | (with_reducible exact ih0 _ _ _)
    | (with_reducible exact ih1 _ _ _ _ _ _)
    | (with_reducible exact handshakerlaw15_Refs.mono _ _)
    | (with_reducible exact handshakerlaw15_Small.mono _ _)
    | (with_reducible exact handshakerlaw15_awake.mono _)
    | (with_reducible exact handshakerref15_Same.mono _ _ _)
    | (with_reducible exact sleep_Add.mono _ _ _ _ _ _ _)
    | (with_reducible exact sleep_Drop.mono _ _ _)
    | (with_reducible exact sleep_Right.mono _ _)
    | (with_reducible exact LeO.refl _)
    | (with_reducible exact LeO.none _)
    | (with_reducible refine LeO.ite ?_ ?_)
    | (with_reducible refine LeO.bind ?_ (fun _ => ?_))
    | exact ih0 _ _ _
    | exact ih1 _ _ _ _ _ _
    | exact handshakerlaw15_Refs.mono _ _
    | exact handshakerlaw15_Small.mono _ _
    | exact handshakerlaw15_awake.mono _
    | exact handshakerref15_Same.mono _ _ _
    | exact sleep_Add.mono _ _ _ _ _ _ _
    | exact sleep_Drop.mono _ _ _
    | exact sleep_Right.mono _ _
    | exact LeO.none _
    | refine LeO.ite ?_ ?_
    | refine LeO.bind ?_ (fun _ => ?_)
theorem handshakerlaw15_SleepOrder.mono : ∀ a0 a1 k, LeO (handshakerlaw15_SleepOrder.f k a0 a1) (handshakerlaw15_SleepOrder.f (k + 1) a0 a1) := by
 intro a0 a1 k
 obtain ⟨ih0, ih1⟩ := handshakerlaw15_SleepOrder.mono_l k
 unfold handshakerlaw15_SleepOrder.f
 repeat' first
  | (with_reducible exact ih0 _ _ _)
  | (with_reducible exact ih1 _ _ _ _ _ _)
  | (with_reducible exact handshakerlaw15_Refs.mono _ _)
  | (with_reducible exact handshakerlaw15_Small.mono _ _)
  | (with_reducible exact handshakerlaw15_awake.mono _)
  | (with_reducible exact handshakerref15_Same.mono _ _ _)
  | (with_reducible exact sleep_Add.mono _ _ _ _ _ _ _)
  | (with_reducible exact sleep_Drop.mono _ _ _)
  | (with_reducible exact sleep_Right.mono _ _)
  | (with_reducible exact LeO.refl _)
  | (with_reducible exact LeO.none _)
  | (with_reducible refine LeO.ite ?_ ?_)
  | (with_reducible refine LeO.bind ?_ (fun _ => ?_))
  | exact ih0 _ _ _
  | exact ih1 _ _ _ _ _ _
  | exact handshakerlaw15_Refs.mono _ _
  | exact handshakerlaw15_Small.mono _ _
  | exact handshakerlaw15_awake.mono _
  | exact handshakerref15_Same.mono _ _ _
  | exact sleep_Add.mono _ _ _ _ _ _ _
  | exact sleep_Drop.mono _ _ _
  | exact sleep_Right.mono _ _
  | exact LeO.none _
  | refine LeO.ite ?_ ?_
  | refine LeO.bind ?_ (fun _ => ?_)
set_option maxHeartbeats 8000000 in
set_option maxRecDepth 100000 in
theorem handshakerlaw15_SleepOrder.calls (k : Nat) (A0 : Option Addr) (c0 : Nat) (l0 : List (S26)) (a1 : Int) (r : Bool) (w : World) (HT : Aside0 (r = true)) (hr0 : Kd.C k26 w A0 l0.length l0) (hc0 : l0.length ≤ c0) (h : handshakerlaw15_SleepOrder.f k l0 a1 = some r) :
 Calls Try.prog 7 #[.slice A0 l0.length c0, .int .u8 a1] w fun e w' => e = .returned (.bool r) ∧ Below w.heap.size w w' := by
 have hu26 := Try.underlying26
 have HR0 := Aside0.mk hr0
 have HC0 := Aside0.mk hc0
 clear hr0 hc0
 have HB := Aside0.mk (Below.refl w.heap.size w)
 have H : ((handshakerlaw15_Small.f k l0).bind fun t347 => (if t347 < 0 then (handshakerlaw15_SleepOrder.j0 k l0 a1 true) else ((sleep_Right.f k l0).bind fun t348 => (if t348 = true then (handshakerlaw15_SleepOrder.j0 k l0 a1 ((l0.length : Int) == 0)) else (handshakerlaw15_SleepOrder.j0 k l0 a1 true))))) = some r := h
 clear h
 have HC3 := Aside0.mk H
 clear H
 go_enter Try.func7, Try.ntmps7
 go_upto_region 1 with (fail)
 go_cut [25] (fun v25 wc => ∃ (kq : Nat) (x25_2 : Bool), v25 = .bool x25_2 ∧ Aside0 (handshakerlaw15_SleepOrder.j0 kq l0 a1 x25_2 = some r) ∧ Aside0 (kq ≤ k) ∧ Aside0 (Below w.heap.size w wc))
 case first =>
  have H := HC3.out
  clear HC3
  replace H := Option.bind_eq_some_iff.mp H
  obtain ⟨t347, A40, H⟩ := H
  have A4 := Aside0.mk A40
  clear A40
  by_cases c5 : t347 < 0
  · rw [if_pos c5] at H
    have c5b0 : decide (t347 < 0) = true := decide_eq_true c5
    clear c5
    (first | rw [c5b0] | (simp only [i64_w, i32_w]; rw [c5b0]) | skip)
    have H' := Aside0.mk H
    clear H
    go_wp2_with (first | ((with_reducible refine gate_callee (f := 14) rfl ?_); refine goesL_ (some 14) rfl rfl Try.func14 (by kernel_rfl) rfl #[.slice A0 l0.length c0] rfl mp_ ?_; (with_reducible refine (handshakerlaw15_Small.calls k _ _ l0 t347 _ ?side1 ?side2 A4.out).mono ?_); (case side1 => repeat (first | exact (Kd.C_below HR0.out HB.out) | with_reducible first | refine Kd.C_alloc ?_ _ | refine Kd.C_drewN ?_ _ | refine Kd.C_drew ?_)); (case side2 => exact HC0.out); rintro e w6 ⟨rfl, hb⟩; refine ⟨_, rfl, ?_⟩; replace HB := Aside0.mk (bst_ hb); (try clear hb); (try clear hb2); (try clear hk); (try clear hi)))
    go_meet
    case rel => exact ⟨_, (true), (by first | rfl | (simp; done) | (simp [*]; done)), H', ⟨by first | omega | exact Nat.le_refl _⟩, ⟨bsv_⟩⟩
  · rw [if_neg c5] at H
    have c5b0 : decide (t347 < 0) = false := decide_eq_false c5
    clear c5
    (first | rw [c5b0] | (simp only [i64_w, i32_w]; rw [c5b0]) | skip)
    replace H := Option.bind_eq_some_iff.mp H
    obtain ⟨t348, A70, H⟩ := H
    have A7 := Aside0.mk A70
    clear A70
    by_cases c8 : t348 = true
    · subst c8
      rw [if_pos rfl] at H
      have H' := Aside0.mk H
      clear H
      go_wp2_with (first | ((with_reducible refine gate_callee (f := 14) rfl ?_); refine goesL_ (some 14) rfl rfl Try.func14 (by kernel_rfl) rfl #[.slice A0 l0.length c0] rfl mp_ ?_; (with_reducible refine (handshakerlaw15_Small.calls k _ _ l0 t347 _ ?side1 ?side2 A4.out).mono ?_); (case side1 => repeat (first | exact (Kd.C_below HR0.out HB.out) | with_reducible first | refine Kd.C_alloc ?_ _ | refine Kd.C_drewN ?_ _ | refine Kd.C_drew ?_)); (case side2 => exact HC0.out); rintro e w9 ⟨rfl, hb⟩; refine ⟨_, rfl, ?_⟩; replace HB := Aside0.mk (bst_ hb); (try clear hb); (try clear hb2); (try clear hk); (try clear hi)) | (go_at_call 26; (with_reducible refine (sleep_Right.calls k _ _ l0 true _ ?side1 ?side2 A7.out).mono ?_); (case side1 => repeat (first | exact (Kd.C_below HR0.out HB.out) | with_reducible first | refine Kd.C_alloc ?_ _ | refine Kd.C_drewN ?_ _ | refine Kd.C_drew ?_)); (case side2 => exact HC0.out); rintro e w10 ⟨rfl, hb⟩; replace HB := Aside0.mk (bst_ hb); (try clear hb); (try clear hb2); (try clear hk); (try clear hi)))
      go_meet
      case rel => exact ⟨_, (((l0.length : Int) == 0)), (by first | rfl | (simp; done) | (simp [*]; done)), H', ⟨by first | omega | exact Nat.le_refl _⟩, ⟨bsv_⟩⟩
    · replace c8 := Bool.eq_false_iff.mpr c8
      subst c8
      rw [if_neg (show ¬ (false = true) by decide)] at H
      have H' := Aside0.mk H
      clear H
      go_wp2_with (first | ((with_reducible refine gate_callee (f := 14) rfl ?_); refine goesL_ (some 14) rfl rfl Try.func14 (by kernel_rfl) rfl #[.slice A0 l0.length c0] rfl mp_ ?_; (with_reducible refine (handshakerlaw15_Small.calls k _ _ l0 t347 _ ?side1 ?side2 A4.out).mono ?_); (case side1 => repeat (first | exact (Kd.C_below HR0.out HB.out) | with_reducible first | refine Kd.C_alloc ?_ _ | refine Kd.C_drewN ?_ _ | refine Kd.C_drew ?_)); (case side2 => exact HC0.out); rintro e w11 ⟨rfl, hb⟩; refine ⟨_, rfl, ?_⟩; replace HB := Aside0.mk (bst_ hb); (try clear hb); (try clear hb2); (try clear hk); (try clear hi)) | (go_at_call 26; (with_reducible refine (sleep_Right.calls k _ _ l0 false _ ?side1 ?side2 A7.out).mono ?_); (case side1 => repeat (first | exact (Kd.C_below HR0.out HB.out) | with_reducible first | refine Kd.C_alloc ?_ _ | refine Kd.C_drewN ?_ _ | refine Kd.C_drew ?_)); (case side2 => exact HC0.out); rintro e w12 ⟨rfl, hb⟩; replace HB := Aside0.mk (bst_ hb); (try clear hb); (try clear hb2); (try clear hk); (try clear hi)))
      go_meet
      case rel => exact ⟨_, (true), (by first | rfl | (simp; done) | (simp [*]; done)), H', ⟨by first | omega | exact Nat.le_refl _⟩, ⟨bsv_⟩⟩
 case rest =>
  clear HC3
  try clear c1
  try clear p2
  try clear c5
  try clear c5b0
  try clear c7
  try clear c8
  obtain ⟨kq, x25_2, rfl, HA, HJ2, HB⟩ := hcut
  cases kq with
  | zero => exact absurd HA.out (by simp [handshakerlaw15_SleepOrder.j0])
  | succ kj2 =>
   have H := HA.out
   clear HA
   simp only [handshakerlaw15_SleepOrder.j0] at H
   by_cases c13 : x25_2 = true
   · subst c13
     rw [if_pos rfl] at H
     replace H := Option.bind_eq_some_iff.mp H
     obtain ⟨t349, A140, H⟩ := H
     have A14 := Aside0.mk A140
     clear A140
     obtain rfl := Option.some.inj H
     go_wp2_with (first | ((with_reducible refine gate_callee (f := 15) rfl ?_); refine goesL_ (some 26) rfl rfl Try.func15 (by kernel_rfl) rfl #[] rfl mp_ ?_; (with_reducible refine (handshakerlaw15_awake.calls kj2  t349 _ A14.out).mono ?_); rintro e w15 ⟨rfl, hb⟩; refine ⟨_, rfl, ?_⟩; replace HB := Aside0.mk (bst_ hb); (try clear hb); (try clear hb2); (try clear hk); (try clear hi)))
     go_ret
     exact ⟨by first | rfl | (simp [errW_none, errW_some] <;> rfl) | (simp [*, errW_none, errW_some] <;> rfl), bsv_⟩
   · replace c13 := Bool.eq_false_iff.mpr c13
     subst c13
     rw [if_neg (show ¬ (false = true) by decide)] at H
     have H' := Aside0.mk H
     clear H
     go_wp2
     go_loopg [5, 6, 29] kj2 (fun kq v5 v6 v29 w' => ∃ (x5_2 : List (S26)) (x6_2 : List Int) (x29_2 : Int), v29 = .int .i64 x29_2 ∧ Aside0 (handshakerlaw15_SleepOrder.l0 kq l0 a1 x5_2 x6_2 (l0.length : Int) x29_2 = some r) ∧ Aside0 (kq ≤ kj2) ∧ Aside0 (Kd.V k26 26 w' w.heap.size (fun k_ => some k_ ≠ (v6 : Value).ownBlock) v5 x5_2) ∧ Aside0 (Kd.R (Kd.int .i64) 3 w' w.heap.size (fun _ => True) v6 x6_2) ∧ Aside0 (Below w.heap.size w w'))
     case atStart => exact ⟨(([] : List (S26))), (([] : List Int)), (0), (by first | rfl | (simp; done) | (simp [*]; done)), H', ⟨Nat.le_refl _⟩, ⟨Kd.V_nil _ _ _ _ _⟩, ⟨by first | exact Kd.R_nil _ _ _ _ _ | exact Kd.N_nil _ _ _ _ _ | exact Kd.V_nil _ _ _ _ _ | exact Kd.Q_nil _ _ _ _ _ | exact Kd.S_nil _ _ _ _ _⟩, ⟨bsv_⟩⟩
     case round =>
      clear H'
      try clear c1
      try clear p2
      try clear c5
      try clear c5b0
      try clear c7
      try clear c8
      try clear c13
      try clear c14
      try clear c15
      try clear p2
      obtain ⟨x5_2, x6_2, x29_2, rfl, HA, HK2, HO_5, HO_6, HB⟩ := hrel
      cases gk with
      | zero => exact absurd HA.out (by simp [handshakerlaw15_SleepOrder.l0])
      | succ k2 =>
       have H := HA.out
       clear HA
       simp only [handshakerlaw15_SleepOrder.l0] at H
       by_cases c16 : x29_2 < (l0.length : Int)
       · rw [if_pos c16] at H
         have c16b0 : decide (x29_2 < (l0.length : Int)) = true := decide_eq_true c16
         clear c16
         by_cases c17 : (l0.length : Int) = 0
         · rw [if_pos c17] at H
           exact absurd H (by simp)
         · rw [if_neg c17] at H
           have c17b0 : ((l0.length : Int) == 0) = false := beq_eq_false_iff_ne.mpr c17
           have c17b1 : ((l0.length : Int) != 0) = true := bne_iff_ne.mpr c17
           have c17b2 : ¬ (l0 = []) := fun h_ => c17 (by rw [h_]; rfl)
           obtain ⟨ji18, hji18⟩ : ∃ j_ : Int, (Int.tmod (wrap64 ((wrap64 ((l0.length : Int) - x29_2)) + (wrap64 (a1)))) (l0.length : Int)) = j_ := ⟨_, rfl⟩
           replace H : (if 0 ≤ (ji18) then (if (ji18) < (l0.length : Int) then ((sleep_Add.f k2 x5_2 ((rd_T26 l0 (ji18)).f0) ((rd_T26 l0 (ji18)).f1) ((rd_T26 l0 (ji18)).f2) ((rd_T26 l0 (ji18)).f3) ((rd_T26 l0 (ji18)).f4)).bind fun bt352 => (if bt352.2 = 0 then (if x6_2.length < 17592186044416 then (handshakerlaw15_SleepOrder.l0 k2 l0 a1 bt352.1 (x6_2 ++ [(rd_T26 l0 (ji18)).f0]) (l0.length : Int) (wrap64 (x29_2 + 1))) else (none)) else (some false))) else (none)) else (none)) = some r := by first | (rw [hji18] at H; exact H) | (simp only [hji18] at H ⊢; exact H)
           by_cases c19 : 0 ≤ (ji18)
           · rw [if_pos c19] at H
             have c19b0 : decide (0 ≤ (ji18)) = true := decide_eq_true c19
             clear c19
             by_cases c20 : (ji18) < (l0.length : Int)
             · rw [if_pos c20] at H
               have c20b0 : decide ((ji18) < (l0.length : Int)) = true := decide_eq_true c20
               clear c20
               replace H := Option.bind_eq_some_iff.mp H
               obtain ⟨⟨t352, t355⟩, A210, H⟩ := H
               have A21 := Aside0.mk A210
               clear A210
               by_cases c22 : t355 = 0
               · rw [if_pos c22] at H
                 have c22b0 : (t355 == 0) = true := beq_iff_eq.mpr c22
                 have c22b1 : (t355 != 0) = false := bne_eq_false_iff_eq.mpr c22
                 clear c22
                 by_cases c23 : x6_2.length < 17592186044416
                 · rw [if_pos c23] at H
                   have LMc23 := Aside0.mk c23
                   clear c23
                   obtain ⟨y356, hy356⟩ : ∃ y_ : List Int, y_ = (x6_2 ++ [(rd_T26 l0 (ji18)).f0]) := ⟨_, rfl⟩
                   replace H : (handshakerlaw15_SleepOrder.l0 k2 l0 a1 t352 y356 (l0.length : Int) (wrap64 (x29_2 + 1))) = some r := by first | (rw [hy356]; with_reducible exact H) | (have H2_ := (Option.bind_some _ _).symm.trans H; rw [hy356]; with_reducible exact H2_) | (have H2_ := (Option.bind_some _ _).symm.trans H; with_reducible exact H2_) | with_reducible exact H | (rw [hy356]; exact H) | exact H
                   have Ny356 := Aside0.mk hy356
                   clear hy356
                   have H' := Aside0.mk H
                   clear H
                   have p350 : 0 ≤ ((ji18) : Int) := oda_
                   have q350 : (ji18) < (l0.length : Int) := oda_
                   obtain ⟨ad350, A350_3, c350_3, A350_4, c350_4, e350, hx350_0, hx350_1, hx350_2, hx350_3, hx350_4, hl350_3, hi350_3, hl350_4, hi350_4⟩ := at_T26 HR0.out (ji18) p350 q350
                   cases e350
                   replace hx350_0 := (HB.out.cell (World.block_lt_of_cell? w _ hx350_0)).trans hx350_0
                   replace hx350_1 := (HB.out.cell (World.block_lt_of_cell? w _ hx350_1)).trans hx350_1
                   replace hx350_2 := (HB.out.cell (World.block_lt_of_cell? w _ hx350_2)).trans hx350_2
                   replace hx350_3 := (HB.out.cell (World.block_lt_of_cell? w _ hx350_3)).trans hx350_3
                   replace hx350_4 := (HB.out.cell (World.block_lt_of_cell? w _ hx350_4)).trans hx350_4
                   have HR350_3 := Aside0.mk hi350_3
                   have HC350_3 := Aside0.mk hl350_3
                   clear hi350_3 hl350_3
                   have HR350_4 := Aside0.mk hi350_4
                   have HC350_4 := Aside0.mk hl350_4
                   clear hi350_4 hl350_4
                   replace p350 := eq_true p350
                   replace q350 := eq_true q350
                   go_wp2_with (first | ((with_reducible refine gate_dst (N := 8) rfl ?_); (try (refine gate_guard (by rfl) ?_; dsimp only)); refine box_event ?hg (N := 8) ?hd (cs := #[.int .i64 0, .int .i64 0, .int .i64 0, .slice none 0 0, .slice none 0 0]) (t := 26) ?hr ?_; (case hd => rfl); (case hg => rfl); (case hr => first | (go_simp; done) | (go_simp; rfl)); intro gb351 hg w24 hbox hb; replace HO_5 := Aside0.mk (Kd.V_below (Kd.V_elderB (vq_ HO_5) gb351 (Nat.le_of_eq hg.symm)) hb); replace HO_6 := rb_ HO_6 hb; replace BK351 := Aside0.mk (hbox); replace GW351 := Aside0.mk ((by rw [hg]; exact bsz_ : w.heap.size ≤ gb351)); replace HB := Aside0.mk (bst_ hb); replace GE351 := GW351; clear hb hbox hg; have hcz25_0 : w24.cell? ⟨gb351, 0, none⟩ = some (.int .i64 0) := (blk_cell BK351.out 0).trans rfl; have hcz25_1 : w24.cell? ⟨gb351, 1, none⟩ = some (.int .i64 0) := (blk_cell BK351.out 1).trans rfl; have hcz25_2 : w24.cell? ⟨gb351, 2, none⟩ = some (.int .i64 0) := (blk_cell BK351.out 2).trans rfl; have hcz25_3 : w24.cell? ⟨gb351, 3, none⟩ = some (.slice none 0 0) := (blk_cell BK351.out 3).trans rfl; have hcz25_4 : w24.cell? ⟨gb351, 4, none⟩ = some (.slice none 0 0) := (blk_cell BK351.out 4).trans rfl; have hfz25_0 := blk_frozen BK351.out 0; have hfz25_1 := blk_frozen BK351.out 1; have hfz25_2 := blk_frozen BK351.out 2; have hfz25_3 := blk_frozen BK351.out 3; have hfz25_4 := blk_frozen BK351.out 4) | ((with_reducible refine gate_store (t := 26) (p := 8) rfl ?_); refine store_event (t := 26) (p := 8) (v := ?vo_w26) (w1 := (((((w24.setCell ⟨gb351, 0, none⟩ (.int .i64 ((rd_T26 l0 (ji18)).f0))).setCell ⟨gb351, 1, none⟩ (.int .i64 ((rd_T26 l0 (ji18)).f1))).setCell ⟨gb351, 2, none⟩ (.int .i64 ((rd_T26 l0 (ji18)).f2))).setCell ⟨gb351, 3, none⟩ (.slice A350_3 ((rd_T26 l0 (ji18)).f3).length c350_3)).setCell ⟨gb351, 4, none⟩ (.slice A350_4 ((rd_T26 l0 (ji18)).f4).length c350_4))) ?hg ?ho ?hn ?hr ?_; (case ho => rfl); (case hg => rfl); (case hn => rfl); (case hr => first | (go_simp; done) | (go_simp; rfl)); intro w26 hw; have n0_ : Aside0 (Kd.V k26 26 w26 w.heap.size (fun k_ => some k_ ≠ (u6 : Value).ownBlock ∧ k_ ≠ gb351) u5 x5_2) := ⟨(by rw [hw]; exact (by (with_reducible repeat (first | apply Kd.V_alloc | apply Kd.V_drewN | apply Kd.V_drew)); exact Kd.V_mono (Kd.V_far (p := ⟨gb351, 4, none⟩) (Kd.V_far (p := ⟨gb351, 3, none⟩) (Kd.V_far (p := ⟨gb351, 2, none⟩) (Kd.V_far (p := ⟨gb351, 1, none⟩) (Kd.V_far (p := ⟨gb351, 0, none⟩) (Kd.V_mono HO_5.out (fun k_ hk => (⟨hk, hk.2⟩ : _ ∧ k_ ≠ gb351))) (fun _ hk => hk.2) (.int .i64 ((rd_T26 l0 (ji18)).f0))) (fun _ hk => hk.2) (.int .i64 ((rd_T26 l0 (ji18)).f1))) (fun _ hk => hk.2) (.int .i64 ((rd_T26 l0 (ji18)).f2))) (fun _ hk => hk.2) (.slice A350_3 ((rd_T26 l0 (ji18)).f3).length c350_3)) (fun _ hk => hk.2) (.slice A350_4 ((rd_T26 l0 (ji18)).f4).length c350_4)) (fun _ hk => ⟨hk.1.1, hk.1.2⟩)))⟩; have n1_ : Aside0 (Kd.R (Kd.int .i64) 3 w26 w.heap.size (fun _ => True) u6 x6_2) := ⟨(by rw [hw]; exact (by (with_reducible repeat (first | apply Kd.R_alloc | apply Kd.R_drewN | apply Kd.R_drew)); exact Kd.R_mono (Kd.R_far (p := ⟨gb351, 4, none⟩) (Kd.R_far (p := ⟨gb351, 3, none⟩) (Kd.R_far (p := ⟨gb351, 2, none⟩) (Kd.R_far (p := ⟨gb351, 1, none⟩) (Kd.R_far (p := ⟨gb351, 0, none⟩) (Kd.R_types HO_6.out BK351.out (by decide)) (fun _ hk => hk.2) (.int .i64 ((rd_T26 l0 (ji18)).f0))) (fun _ hk => hk.2) (.int .i64 ((rd_T26 l0 (ji18)).f1))) (fun _ hk => hk.2) (.int .i64 ((rd_T26 l0 (ji18)).f2))) (fun _ hk => hk.2) (.slice A350_3 ((rd_T26 l0 (ji18)).f3).length c350_3)) (fun _ hk => hk.2) (.slice A350_4 ((rd_T26 l0 (ji18)).f4).length c350_4)) (fun _ hk => trivial)))⟩; have n2_ : Aside0 (w26.heap[gb351]? = some (.cells #[.int .i64 ((rd_T26 l0 (ji18)).f0), .int .i64 ((rd_T26 l0 (ji18)).f1), .int .i64 ((rd_T26 l0 (ji18)).f2), .slice A350_3 ((rd_T26 l0 (ji18)).f3).length c350_3, .slice A350_4 ((rd_T26 l0 (ji18)).f4).length c350_4] 26 (0, 0))) := ⟨(by rw [hw]; exact (by (with_reducible repeat (first | refine blk_drewN ?_ _ | refine blk_drew ?_ | refine blk_alloc ?_ _)); refine blk_put (cs := #[.int .i64 ((rd_T26 l0 (ji18)).f0), .int .i64 ((rd_T26 l0 (ji18)).f1), .int .i64 ((rd_T26 l0 (ji18)).f2), .slice A350_3 ((rd_T26 l0 (ji18)).f3).length c350_3, .slice none 0 0]) ?_ 4 _ rfl; (with_reducible repeat (first | refine blk_drewN ?_ _ | refine blk_drew ?_ | refine blk_alloc ?_ _)); refine blk_put (cs := #[.int .i64 ((rd_T26 l0 (ji18)).f0), .int .i64 ((rd_T26 l0 (ji18)).f1), .int .i64 ((rd_T26 l0 (ji18)).f2), .slice none 0 0, .slice none 0 0]) ?_ 3 _ rfl; (with_reducible repeat (first | refine blk_drewN ?_ _ | refine blk_drew ?_ | refine blk_alloc ?_ _)); refine blk_put (cs := #[.int .i64 ((rd_T26 l0 (ji18)).f0), .int .i64 ((rd_T26 l0 (ji18)).f1), .int .i64 0, .slice none 0 0, .slice none 0 0]) ?_ 2 _ rfl; (with_reducible repeat (first | refine blk_drewN ?_ _ | refine blk_drew ?_ | refine blk_alloc ?_ _)); refine blk_put (cs := #[.int .i64 ((rd_T26 l0 (ji18)).f0), .int .i64 0, .int .i64 0, .slice none 0 0, .slice none 0 0]) ?_ 1 _ rfl; (with_reducible repeat (first | refine blk_drewN ?_ _ | refine blk_drew ?_ | refine blk_alloc ?_ _)); refine blk_put (cs := #[.int .i64 0, .int .i64 0, .int .i64 0, .slice none 0 0, .slice none 0 0]) ?_ 0 _ rfl; (with_reducible repeat (first | refine blk_drewN ?_ _ | refine blk_drew ?_ | refine blk_alloc ?_ _)); exact BK351.out))⟩; have n3_ : Aside0 (Below w.heap.size w w26) := ⟨(by rw [hw]; exact bsw_)⟩; clear hw; clear HO_5; clear HO_6; clear BK351; clear HB; have HO_5 := n0_; have HO_6 := n1_; have BK351 := n2_; have HB := n3_; clear n0_ n1_ n2_ n3_; have hcz27_0 : w26.cell? ⟨gb351, 0, none⟩ = some (.int .i64 ((rd_T26 l0 (ji18)).f0)) := (blk_cell BK351.out 0).trans rfl; have hcz27_1 : w26.cell? ⟨gb351, 1, none⟩ = some (.int .i64 ((rd_T26 l0 (ji18)).f1)) := (blk_cell BK351.out 1).trans rfl; have hcz27_2 : w26.cell? ⟨gb351, 2, none⟩ = some (.int .i64 ((rd_T26 l0 (ji18)).f2)) := (blk_cell BK351.out 2).trans rfl; have hcz27_3 : w26.cell? ⟨gb351, 3, none⟩ = some (.slice A350_3 ((rd_T26 l0 (ji18)).f3).length c350_3) := (blk_cell BK351.out 3).trans rfl; have hcz27_4 : w26.cell? ⟨gb351, 4, none⟩ = some (.slice A350_4 ((rd_T26 l0 (ji18)).f4).length c350_4) := (blk_cell BK351.out 4).trans rfl; have hfz27_0 := blk_frozen BK351.out 0; have hfz27_1 := blk_frozen BK351.out 1; have hfz27_2 := blk_frozen BK351.out 2; have hfz27_3 := blk_frozen BK351.out 3; have hfz27_4 := blk_frozen BK351.out 4; obtain ⟨Ao28, co28, eo28⟩ := Kd.V_slice HO_5.out; subst eo28) | ((with_reducible refine gate_callee (f := 17) rfl ?_); refine goesL_ (some 48) rfl rfl Try.func17 (by kernel_rfl) rfl #[.slice Ao28 x5_2.length co28, .agg #[.int .i64 ((rd_T26 l0 (ji18)).f0), .int .i64 ((rd_T26 l0 (ji18)).f1), .int .i64 ((rd_T26 l0 (ji18)).f2), .slice A350_3 ((rd_T26 l0 (ji18)).f3).length c350_3, .slice A350_4 ((rd_T26 l0 (ji18)).f4).length c350_4]] rfl (by (try simp only [List.map_toArray, List.map_cons, List.map_nil]); first | done | (simp only [hji18]; rfl) | rfl | (simp only [List.length_drop, List.length_take]; rfl)) ?_; (with_reducible refine (sleep_Add.calls k2 (fun k_ => (some k_ ≠ (u6 : Value).ownBlock ∧ k_ ≠ gb351)) _ _ x5_2 ((rd_T26 l0 (ji18)).f0) ((rd_T26 l0 (ji18)).f1) ((rd_T26 l0 (ji18)).f2) (fun k_ => k_ < w.heap.size) _ _ ((rd_T26 l0 (ji18)).f3) (fun k_ => k_ < w.heap.size) _ _ ((rd_T26 l0 (ji18)).f4) t352 t355 _ ?side1 ?side2 ?side3 A21.out).mono ?_); (case side1 => exact HO_5.out); (case side2 => exact Kd.V_mk HC350_3.out (Kd.F_below (Kd.C_F k62_heap HR350_3.out) bsw_)); (case side3 => exact Kd.V_mk HC350_4.out (Kd.F_below (Kd.C_F k80_heap HR350_4.out) bsw_)); rintro e w29 ⟨v353, rfl, ho0, hb⟩; refine ⟨_, rfl, ?_⟩; replace HO_5 := vb_ HO_5 hb; replace HO354 := Aside0.mk (Kd.V_lower (Kd.V_mono (ok' := fun k_ => some k_ ≠ (u6 : Value).ownBlock ∧ k_ ≠ gb351) ho0 (fun k_ hk_ => ⟨Or.elim hk_ (fun hs_ => Or.elim hs_ (fun hs_ => hs_.1) (fun hs_ => Or.elim hs_ (fun hs_ => fun e_ => Nat.not_le.2 hs_ (Kd.R_base HO_6.out k_ e_.symm)) (fun hs_ => fun e_ => Nat.not_le.2 hs_ (Kd.R_base HO_6.out k_ e_.symm)))) (fun hn_ => (Kd.fresh' (Kd.R_lt (rq_ HO_6)) k_ hn_)), Or.elim hk_ (fun hs_ => Or.elim hs_ (fun hs_ => hs_.2) (fun hs_ => Or.elim hs_ (fun hs_ => fun e_ => Nat.not_le.2 hs_ (by rw [e_]; exact GW351.out)) (fun hs_ => fun e_ => Nat.not_le.2 hs_ (by rw [e_]; exact GW351.out)))) (fun hn_ => (Kd.freshB (g := gb351) (o := .cells #[.int .i64 ((rd_T26 l0 (ji18)).f0), .int .i64 ((rd_T26 l0 (ji18)).f1), .int .i64 ((rd_T26 l0 (ji18)).f2), .slice A350_3 ((rd_T26 l0 (ji18)).f3).length c350_3, .slice A350_4 ((rd_T26 l0 (ji18)).f4).length c350_4] 26 (0, 0)) (bq_ BK351) k_ hn_))⟩)) (below_size bsw_)); replace HO_6 := rb_ HO_6 hb; replace BK351 := bb_ BK351 hb; replace HB := Aside0.mk (below_step bsw_ hb); (try clear hb); (try clear hb2); (try clear hk); (try clear hi); (try clear ho0); have hcz30_0 : w29.cell? ⟨gb351, 0, none⟩ = some (.int .i64 ((rd_T26 l0 (ji18)).f0)) := (blk_cell BK351.out 0).trans rfl; have hcz30_1 : w29.cell? ⟨gb351, 1, none⟩ = some (.int .i64 ((rd_T26 l0 (ji18)).f1)) := (blk_cell BK351.out 1).trans rfl; have hcz30_2 : w29.cell? ⟨gb351, 2, none⟩ = some (.int .i64 ((rd_T26 l0 (ji18)).f2)) := (blk_cell BK351.out 2).trans rfl; have hcz30_3 : w29.cell? ⟨gb351, 3, none⟩ = some (.slice A350_3 ((rd_T26 l0 (ji18)).f3).length c350_3) := (blk_cell BK351.out 3).trans rfl; have hcz30_4 : w29.cell? ⟨gb351, 4, none⟩ = some (.slice A350_4 ((rd_T26 l0 (ji18)).f4).length c350_4) := (blk_cell BK351.out 4).trans rfl; have hfz30_0 := blk_frozen BK351.out 0; have hfz30_1 := blk_frozen BK351.out 1; have hfz30_2 := blk_frozen BK351.out 2; have hfz30_3 := blk_frozen BK351.out 3; have hfz30_4 := blk_frozen BK351.out 4) | ((with_reducible refine gate_builtin (b := .append) (xs := #[.tmp 54, .tmp 57]) rfl ?_); (try (refine gate_guard (by rfl) ?_; dsimp only)); at_builtin; refine Kd.R_append (Kd.int .i64) (w0 := w) w.heap.size rfl (.tmp 54) (.tmp 57) 27 3 (.int .i64 0) 8 rfl Try.underlying27 info3 rfl (by decide) (by omega) u6 x6_2 ((rd_T26 l0 (ji18)).f0) [.int .i64 ((rd_T26 l0 (ji18)).f0)] (fun _ => True) (fun _ => False) rfl rfl ?aP (fun _ hk => hk.elim) ?aF ?aO ?aB ?aS ?aL ?_; (case aP => exact rfl); (case aB => exact bsw_); (case aF => exact (fun _ _ => trivial)); (case aO => exact (rq_ HO_6)); (case aS => exact (below_size bsw_)); (case aL => have := LMc23.out; omega); intro v357 w31 ho hb hg hat; rw [← Ny356.out] at ho; replace HO_5 := Aside0.mk (Kd.V_afterv (ok := (fun k_ => k_ ≠ gb351)) (Kd.V_mono (vq_ HO_5) (fun _ hk => ⟨hk.2, hk.1⟩)) hg hat); replace BK351 := Aside0.mk (blk_grown (g := gb351) (o := .cells #[.int .i64 ((rd_T26 l0 (ji18)).f0), .int .i64 ((rd_T26 l0 (ji18)).f1), .int .i64 ((rd_T26 l0 (ji18)).f2), .slice A350_3 ((rd_T26 l0 (ji18)).f3).length c350_3, .slice A350_4 ((rd_T26 l0 (ji18)).f4).length c350_4] 26 (0, 0)) (bq_ BK351) hg (Kd.R_ne HO_6.out BK351.out (by decide))); replace HO354 := Aside0.mk (Kd.V_afterv (ok := (fun k_ => k_ ≠ gb351)) (Kd.V_mono (vq_ HO354) (fun _ hk => ⟨hk.2, hk.1⟩)) hg hat); replace HB := Aside0.mk (hb); replace HO358 := Aside0.mk (ho); clear HO_6; clear ho hb hg hat))
                   go_roundg k2
                   case measure => have := HJ2.out; have := HK2.out; omega
                   case rel => exact ⟨(t352), (y356), (wrap64 (x29_2 + 1)), (by first | rfl | (simp; done) | (simp [*]; done)), H', ⟨by have := HJ2.out; have := HK2.out; omega⟩, ⟨Kd.V_mono (vq_ HO354) (fun _ hk => hk.2)⟩, ⟨rq_ HO358⟩, ⟨bsw_⟩⟩
                 · rw [if_neg c23] at H
                   exact absurd H (by simp)
               · rw [if_neg c22] at H
                 have c22b0 : (t355 == 0) = false := beq_eq_false_iff_ne.mpr c22
                 have c22b1 : (t355 != 0) = true := bne_iff_ne.mpr c22
                 exact absurd (Option.some.inj H) (by rw [HT.out]; decide)
             · rw [if_neg c20] at H
               exact absurd H (by simp)
           · rw [if_neg c19] at H
             exact absurd H (by simp)
       · rw [if_neg c16] at H
         have c16b0 : decide (x29_2 < (l0.length : Int)) = false := decide_eq_false c16
         clear c16
         replace H := Option.bind_eq_some_iff.mp H
         obtain ⟨⟨t359, t362⟩, A320, H⟩ := H
         have A32 := Aside0.mk A320
         clear A320
         replace H := Option.bind_eq_some_iff.mp H
         obtain ⟨t363, A330, H⟩ := H
         have A33 := Aside0.mk A330
         clear A330
         replace H := Option.bind_eq_some_iff.mp H
         obtain ⟨t366, A340, H⟩ := H
         have A34 := Aside0.mk A340
         clear A340
         replace H := Option.bind_eq_some_iff.mp H
         obtain ⟨t369, A350, H⟩ := H
         have A35 := Aside0.mk A350
         clear A350
         by_cases c36 : t369 = true
         · subst c36
           rw [if_pos rfl] at H
           by_cases c37 : t362 = 0
           · rw [if_pos c37] at H
             have c37b0 : (t362 == 0) = true := beq_iff_eq.mpr c37
             have c37b1 : (t362 != 0) = false := bne_eq_false_iff_eq.mpr c37
             clear c37
             by_cases c38 : (t359.length : Int) = 0
             · rw [if_pos c38] at H
               have c38b0 : ((t359.length : Int) == 0) = true := beq_iff_eq.mpr c38
               have c38b1 : ((t359.length : Int) != 0) = false := bne_eq_false_iff_eq.mpr c38
               clear c38
               replace H := Option.bind_eq_some_iff.mp H
               obtain ⟨t370, A390, H⟩ := H
               have A39 := Aside0.mk A390
               clear A390
               obtain rfl := Option.some.inj H
               obtain ⟨Ao40, co40, eo40⟩ := Kd.V_slice HO_5.out
               subst eo40
               obtain ⟨Ao41, co41, eo41⟩ := Kd.R_slice HO_6.out
               subst eo41
               go_wp2_with (first | ((with_reducible refine gate_callee (f := 20) rfl ?_); refine goesL_ (some 63) rfl rfl Try.func20 (by kernel_rfl) rfl #[.slice Ao40 x5_2.length co40, .slice Ao41 x6_2.length co41] rfl mp_ ?_; (with_reducible refine (sleep_Drop.calls k2 (fun k_ => some k_ ≠ (.slice Ao41 x6_2.length co41 : Value).ownBlock) _ _ x5_2 _ _ x6_2 t359 t362 _ ?side1 ?side2 ?side3 A32.out).mono ?_); (case side1 => exact HO_5.out); (case side2 => repeat (first | exact (Kd.R_reads' HO_6.out).2.2 | with_reducible first | refine Kd.C_alloc ?_ _ | refine Kd.C_drewN ?_ _ | refine Kd.C_drew ?_)); (case side3 => exact (Kd.R_reads' HO_6.out).2.1); rintro e w42 ⟨v360, rfl, ho0, hb⟩; refine ⟨_, rfl, ?_⟩; replace HO_5 := vb_ HO_5 hb; replace HO361 := Aside0.mk (Kd.V_lower (Kd.V_mono (ok' := fun k_ => some k_ ≠ (.slice Ao41 x6_2.length co41 : Value).ownBlock) ho0 (fun k_ hk_ => Or.elim hk_ (fun hs_ => hs_) (fun hn_ => (Kd.fresh' (Kd.R_lt (rq_ HO_6)) k_ hn_)))) bsz_); replace HO_6 := rb_ HO_6 hb; replace HB := Aside0.mk (bst_ hb); (try clear hb); (try clear hb2); (try clear hk); (try clear hi); (try clear ho0)) | ((with_reducible refine gate_callee (f := 16) rfl ?_); refine goesL_ (some 67) rfl rfl Try.func16 (by kernel_rfl) rfl #[.slice Ao40 x5_2.length co40] rfl mp_ ?_; (with_reducible refine (handshakerlaw15_Refs.calls k2 (fun k_ => some k_ ≠ (.slice Ao41 x6_2.length co41 : Value).ownBlock) _ _ x5_2 t363 _ ?side1 A33.out).mono ?_); (case side1 => exact HO_5.out); rintro e w43 ⟨v364, rfl, ho0, hb⟩; refine ⟨_, rfl, ?_⟩; replace HO_5 := Aside0.mk (Kd.V_elder' (vq_ HO_5) (Kd.N_base ho0) hb); replace HO361 := Aside0.mk (Kd.V_elder' (vq_ HO361) (Kd.N_base ho0) hb); replace HO365 := Aside0.mk (Kd.N_lower (Kd.N_mono (ok' := fun k_ => some k_ ≠ (.slice Ao41 x6_2.length co41 : Value).ownBlock) ho0 (fun k_ hk_ => Or.elim hk_ (fun hs_ => hs_) (fun hn_ => (Kd.fresh' (Kd.R_lt (rq_ HO_6)) k_ hn_)))) bsz_); replace HO_6 := rb_ HO_6 hb; replace HB := Aside0.mk (bst_ hb); (try clear hb); (try clear hb2); (try clear hk); (try clear hi); (try clear ho0)) | ((with_reducible refine gate_callee (f := 16) rfl ?_); refine goesL_ (some 69) rfl rfl Try.func16 (by kernel_rfl) rfl #[.slice A0 l0.length c0] rfl mp_ ?_; (with_reducible refine (handshakerlaw15_Refs.calls k2 (fun k_ => k_ < w.heap.size) _ _ l0 t366 _ ?side1 A34.out).mono ?_); (case side1 => exact Kd.V_mk HC0.out (Kd.F_below (Kd.C_F k26_heap HR0.out) bsv_)); rintro e w44 ⟨v367, rfl, ho0, hb⟩; refine ⟨_, rfl, ?_⟩; replace HO_5 := Aside0.mk (Kd.V_elder' (vq_ HO_5) (Kd.N_base ho0) hb); replace HO361 := Aside0.mk (Kd.V_elder' (vq_ HO361) (Kd.N_base ho0) hb); replace HO368 := Aside0.mk (Kd.N_lower (Kd.N_mono (ok' := fun k_ => some k_ ≠ (.slice Ao41 x6_2.length co41 : Value).ownBlock ∧ some k_ ≠ (v364 : Value).ownBlock) ho0 (fun k_ hk_ => ⟨Or.elim hk_ (fun hs_ => fun e_ => Nat.not_le.2 hs_ (Kd.R_base HO_6.out k_ e_.symm)) (fun hn_ => (Kd.fresh' (Kd.R_lt (rq_ HO_6)) k_ hn_)), Or.elim hk_ (fun hs_ => fun e_ => Nat.not_le.2 hs_ (Kd.N_base HO365.out k_ e_.symm)) (fun hn_ => (Kd.fresh' (Kd.N_lt (nq_ HO365)) k_ hn_))⟩)) bsz_); replace HO_6 := rb_ HO_6 hb; replace HO365 := Aside0.mk (Kd.N_elder' (nq_ HO365) (Kd.N_base ho0) hb); replace HB := Aside0.mk (bst_ hb); (try clear hb); (try clear hb2); (try clear hk); (try clear hi); (try clear ho0); obtain ⟨Ao45, co45, eo45⟩ := Kd.N_slice HO365.out; subst eo45; obtain ⟨Ao46, co46, eo46⟩ := Kd.N_slice HO368.out; subst eo46) | ((with_reducible refine gate_callee (f := 27) rfl ?_); refine goesL_ (some 70) rfl rfl Try.func27 (by kernel_rfl) rfl #[.slice Ao45 t363.length co45, .slice Ao46 t366.length co46] rfl mp_ ?_; (with_reducible refine (handshakerref15_Same.calls k2 _ _ t363 _ _ t366 true _ ?side1 ?side2 ?side3 ?side4 A35.out).mono ?_); (case side1 => repeat (first | exact (Kd.N_reads' HO365.out).2.2 | with_reducible first | refine Kd.C_alloc ?_ _ | refine Kd.C_drewN ?_ _ | refine Kd.C_drew ?_)); (case side2 => exact (Kd.N_reads' HO365.out).2.1); (case side3 => repeat (first | exact (Kd.N_reads' HO368.out).2.2 | with_reducible first | refine Kd.C_alloc ?_ _ | refine Kd.C_drewN ?_ _ | refine Kd.C_drew ?_)); (case side4 => exact (Kd.N_reads' HO368.out).2.1); rintro e w47 ⟨rfl, hb⟩; refine ⟨_, rfl, ?_⟩; replace HO_5 := vb_ HO_5 hb; replace HO_6 := rb_ HO_6 hb; replace HO361 := vb_ HO361 hb; replace HO365 := nb_ HO365 hb; replace HO368 := nb_ HO368 hb; replace HB := Aside0.mk (bst_ hb); (try clear hb); (try clear hb2); (try clear hk); (try clear hi); obtain ⟨Ao48, co48, eo48⟩ := Kd.V_slice HO361.out; subst eo48) | (go_at_call 15; (with_reducible refine (handshakerlaw15_awake.calls k2  t370 _ A39.out).mono ?_); rintro e w49 ⟨rfl, hb⟩; replace HO_5 := vb_ HO_5 hb; replace HO_6 := rb_ HO_6 hb; replace HO361 := vb_ HO361 hb; replace HO365 := nb_ HO365 hb; replace HO368 := nb_ HO368 hb; replace HB := Aside0.mk (bst_ hb); (try clear hb); (try clear hb2); (try clear hk); (try clear hi)))
               go_ret
               exact ⟨by first | rfl | (simp [errW_none, errW_some] <;> rfl) | (simp [*, errW_none, errW_some] <;> rfl), bsv_⟩
             · rw [if_neg c38] at H
               have c38b0 : ((t359.length : Int) == 0) = false := beq_eq_false_iff_ne.mpr c38
               have c38b1 : ((t359.length : Int) != 0) = true := bne_iff_ne.mpr c38
               have c38b2 : ¬ (t359 = []) := fun h_ => c38 (by rw [h_]; rfl)
               exact absurd (Option.some.inj H) (by rw [HT.out]; decide)
           · rw [if_neg c37] at H
             have c37b0 : (t362 == 0) = false := beq_eq_false_iff_ne.mpr c37
             have c37b1 : (t362 != 0) = true := bne_iff_ne.mpr c37
             exact absurd (Option.some.inj H) (by rw [HT.out]; decide)
         · replace c36 := Bool.eq_false_iff.mpr c36
           subst c36
           rw [if_neg (show ¬ (false = true) by decide)] at H
           exact absurd (Option.some.inj H) (by rw [HT.out]; decide)

/-- THE ONE PURE STATEMENT of handshakerlaw15_SleepOrder. -/
def handshakerlaw15_SleepOrder.Pure : Prop := ∀ (l0 : List (S26)) (a1 : Int), l0.length ≤ maxLen → l0.length * 72 ≤ 140737488351232 → (∀ y ∈ l0, wfS26 y) → (Lit.int .u8 a1).wf = true → ∃ k, handshakerlaw15_SleepOrder.f k l0 a1 = some true

end Go.Proofs.Ytjnkpocfmpbpoaa.Sb
