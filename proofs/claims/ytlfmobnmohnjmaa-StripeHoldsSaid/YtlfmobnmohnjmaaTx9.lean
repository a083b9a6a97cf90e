-- PRINTED by print.py (a twelfth state) out of the translation. Not trusted: Lean checks it.
import Derived.Test.YtlfmobnmohnjmaaTx0
import Derived.Test.YtlfmobnmohnjmaaTx2
import Derived.Test.YtlfmobnmohnjmaaTx3
import Derived.Test.YtlfmobnmohnjmaaTx4
import Derived.Test.YtlfmobnmohnjmaaTx7
namespace Go.Proofs.Ytlfmobnmohnjmaa.T
open Go.Proofs.Ytlfmobnmohnjmaa.Ho
open Go.RowKit Go.Proofs.YtlfmobnmohnjmaaW.PrintWords Go.Proofs.YtlfmobnmohnjmaaW.PrintLast Go.Proofs.YtlfmobnmohnjmaaW.PrintMore
attribute [local go_sem] max2_int min2_int max_two min_two max_three min_three max_four min_four   -- for this text's walks alone
set_option linter.unusedVariables false
set_option linter.unusedSimpArgs false

/-! ### handshakerlaw03_StripeHolds: function 10 -/
mutual
def handshakerlaw03_StripeHolds.j0 : Nat → List (S67) → Int → Int → List Int → Bool → Option (Bool)
 | 0, _, _, _, _, _ => none
 | k + 1, x0, x1, x2, x3, x35 => if x35 = true then ((handshakerlaw03_awake.f k).bind fun t357 => (some t357)) else ((stripe_Lock.f k x0 x1 x3).bind fun bt358 => (if bt358.2 = 0 then ((stripe_Held.f k bt358.1 x1).bind fun t364 => ((stripe_Of.f k x0 x3).bind fun t367 => (handshakerlaw03_StripeHolds.l0 k x0 x1 x2 bt358.1 t364 t367 (t367.length : Int) 0))) else ((handshakerref03_Same.f k bt358.1 x0).bind fun t362 => (if t362 = true then ((handshakerlaw03_awake.f k).bind fun t363 => (some t363)) else (some false)))))
def handshakerlaw03_StripeHolds.l0 : Nat → List (S67) → Int → Int → List (S67) → List Int → List Int → Int → Int → Option (Bool)
 | 0, _, _, _, _, _, _, _, _ => none
 | k + 1, x0, x1, x2, x9, x11, x57, x58, x59 => if x59 < x58 then (if 0 ≤ x59 then (if x59 < (x57.length : Int) then (handshakerlaw03_StripeHolds.l1 k x0 x1 x2 x9 x11 (rd x57 x59) false x57 x58 x59 x11 (x11.length : Int) 0) else (none)) else (none)) else ((stripe_Let.f k x9 x1).bind fun t372 => ((stripe_Held.f k t372 x1).bind fun t375 => (if (t375.length : Int) = 0 then ((stripe_Held.f k x0 x1).bind fun t378 => (if (x11.length : Int) ≥ (t378.length : Int) then ((stripe_Held.f k x9 x2).bind fun t381 => ((stripe_Held.f k x0 x2).bind fun t384 => ((handshakerref03_Numbers.f k t381 t384).bind fun t387 => (if t387 = true then ((stripe_Held.f k t372 x2).bind fun t388 => ((stripe_Held.f k x0 x2).bind fun t391 => ((handshakerref03_Numbers.f k t388 t391).bind fun t394 => (if t394 = true then ((stripe_Right.f x9).bind fun t395 => (if t395 = true then ((stripe_Right.f t372).bind fun t396 => (if t396 = true then ((handshakerlaw03_awake.f k).bind fun t397 => (some t397)) else (some false))) else (some false))) else (some false))))) else (some false))))) else (some false))) else (some false))))
def handshakerlaw03_StripeHolds.l1 : Nat → List (S67) → Int → Int → List (S67) → List Int → Int → Bool → List Int → Int → Int → List Int → Int → Int → Option (Bool)
 | 0, _, _, _, _, _, _, _, _, _, _, _, _, _ => none
 | k + 1, x0, x1, x2, x9, x11, x13, x14, x57, x58, x59, x63, x64, x65 => if x65 < x64 then (if 0 ≤ x65 then (if x65 < (x63.length : Int) then (if x14 = true then (handshakerlaw03_StripeHolds.l1 k x0 x1 x2 x9 x11 x13 true x57 x58 x59 x63 x64 (wrap64 (x65 + 1))) else (handshakerlaw03_StripeHolds.l1 k x0 x1 x2 x9 x11 x13 ((rd x63 x65) == x13) x57 x58 x59 x63 x64 (wrap64 (x65 + 1)))) else (none)) else (none)) else (if x14 = true then (handshakerlaw03_StripeHolds.l0 k x0 x1 x2 x9 x11 x57 x58 (wrap64 (x59 + 1))) else (some false))
end
def handshakerlaw03_StripeHolds.f (k : Nat) (l0 : List (S67)) (a1 : Int) (a2 : Int) (l3 : List Int) : Option (Bool) := if (l0.length : Int) > 16 then (handshakerlaw03_StripeHolds.j0 k l0 a1 a2 l3 true) else (if (l3.length : Int) > 60 then (handshakerlaw03_StripeHolds.j0 k l0 a1 a2 l3 true) else ((stripe_Right.f l0).bind fun t356 => (if t356 = true then (handshakerlaw03_StripeHolds.j0 k l0 a1 a2 l3 (a1 == a2)) else (handshakerlaw03_StripeHolds.j0 k l0 a1 a2 l3 true))))
theorem handshakerlaw03_StripeHolds.mono_l : ∀ k, (∀ y0 y1 y2 y3 y4, LeO (handshakerlaw03_StripeHolds.j0 k y0 y1 y2 y3 y4) (handshakerlaw03_StripeHolds.j0 (k + 1) y0 y1 y2 y3 y4)) ∧ (∀ y0 y1 y2 y3 y4 y5 y6 y7, LeO (handshakerlaw03_StripeHolds.l0 k y0 y1 y2 y3 y4 y5 y6 y7) (handshakerlaw03_StripeHolds.l0 (k + 1) y0 y1 y2 y3 y4 y5 y6 y7)) ∧ (∀ y0 y1 y2 y3 y4 y5 y6 y7 y8 y9 y10 y11 y12, LeO (handshakerlaw03_StripeHolds.l1 k y0 y1 y2 y3 y4 y5 y6 y7 y8 y9 y10 y11 y12) (handshakerlaw03_StripeHolds.l1 (k + 1) y0 y1 y2 y3 y4 y5 y6 y7 y8 y9 y10 y11 y12))
 | 0 => ⟨fun _ _ _ _ _ r h => by simp [handshakerlaw03_StripeHolds.j0] at h, fun _ _ _ _ _ _ _ _ r h => by simp [handshakerlaw03_StripeHolds.l0] at h, fun _ _ _ _ _ _ _ _ _ _ _ _ _ r h => by simp [handshakerlaw03_StripeHolds.l1] at h⟩
 | k + 1 => by
  obtain ⟨ih0, ih1, ih2⟩ := handshakerlaw03_StripeHolds.mono_l k
  refine ⟨?_, ?_, ?_⟩
  · intro y0 y1 y2 y3 y4
    unfold handshakerlaw03_StripeHolds.j0
    repeat' first
    | (with_reducible exact ih0 _ _ _ _ _)
    | (with_reducible exact ih1 _ _ _ _ _ _ _ _)
    | (with_reducible exact ih2 _ _ _ _ _ _ _ _ _ _ _ _ _)
    | (with_reducible exact handshakerlaw03_awake.mono _)
    | (with_reducible exact handshakerref03_Numbers.mono _ _ _)
    | (with_reducible exact handshakerref03_Same.mono _ _ _)
    | (with_reducible exact stripe_Held.mono _ _ _)
    | (with_reducible exact stripe_Let.mono _ _ _)
    | (with_reducible exact stripe_Lock.mono _ _ _ _)
    | (with_reducible exact stripe_Of.mono _ _ _)
    | (with_reducible exact LeO.refl _)
    | (with_reducible exact LeO.none _)
    | (with_reducible refine LeO.ite ?_ ?_)
    | (with_reducible refine LeO.bind ?_ (fun _ => ?_))
    | exact ih0 _ _ _ _ _
    | exact ih1 _ _ _ _ _ _ _ _
    | exact ih2 _ _ _ _ _ _ _ _ _ _ _ _ _
    | exact handshakerlaw03_awake.mono _
    | exact handshakerref03_Numbers.mono _ _ _
    | exact handshakerref03_Same.mono _ _ _
    | exact stripe_Held.mono _ _ _
    | exact stripe_Let.mono _ _ _
    | exact stripe_Lock.mono _ _ _ _
    | exact stripe_Of.mono _ _ _
    | exact LeO.none _
    | refine LeO.ite ?_ ?_
    | refine LeO.bind ?_ (fun _ => ?_)
  · intro y0 y1 y2 y3 y4 y5 y6 y7
    unfold handshakerlaw03_StripeHolds.l0
    repeat' first
    | (with_reducible exact ih0 _ _ _ _ _)
    | (with_reducible exact ih1 _ _ _ _ _ _ _ _)
    | (with_reducible exact ih2 _ _ _ _ _ _ _ _ _ _ _ _ _)
    | (with_reducible exact handshakerlaw03_awake.mono _)
    | (with_reducible exact handshakerref03_Numbers.mono _ _ _)
    | (with_reducible exact handshakerref03_Same.mono _ _ _)
    | (with_reducible exact stripe_Held.mono _ _ _)
    | (with_reducible exact stripe_Let.mono _ _ _)
    | (with_reducible exact stripe_Lock.mono _ _ _ _)
    | (with_reducible exact stripe_Of.mono _ _ _)
    | (with_reducible exact LeO.refl _)
    | (with_reducible exact LeO.none _)
    | (with_reducible refine LeO.ite ?_ ?_)
    | (with_reducible refine LeO.bind ?_ (fun _ => ?_))
    | exact ih0 _ _ _ _ _
    | exact ih1 _ _ _ _ _ _ _ _
    | exact ih2 _ _ _ _ _ _ _ _ _ _ _ _ _
    | exact handshakerlaw03_awake.mono _
    | exact handshakerref03_Numbers.mono _ _ _
    | exact handshakerref03_Same.mono _ _ _
    | exact stripe_Held.mono _ _ _
    | exact stripe_Let.mono _ _ _
    | exact stripe_Lock.mono _ _ _ _
    | exact stripe_Of.mono _ _ _
    | exact LeO.none _
    | refine LeO.ite ?_ ?_
    | refine LeO.bind ?_ (fun _ => ?_)
  · intro y0 y1 y2 y3 y4 y5 y6 y7 y8 y9 y10 y11 y12
    unfold handshakerlaw03_StripeHolds.l1
    repeat' first
    | (with_reducible exact ih0 _ _ _ _ _)
    | (with_reducible exact ih1 _ _ _ _ _ _ _ _)
    | (with_reducible exact ih2 _ _ _ _ _ _ _ _ _ _ _ _ _)
    | (with_reducible exact handshakerlaw03_awake.mono _)
    | (with_reducible exact handshakerref03_Numbers.mono _ _ _)
    | (with_reducible exact handshakerref03_Same.mono _ _ _)
    | (with_reducible exact stripe_Held.mono _ _ _)
    | (with_reducible exact stripe_Let.mono _ _ _)
    | (with_reducible exact stripe_Lock.mono _ _ _ _)
    | (with_reducible exact stripe_Of.mono _ _ _)
    | (with_reducible exact LeO.refl _)
    | (with_reducible exact LeO.none _)
    | (with_reducible refine LeO.ite ?_ ?_)
    | (with_reducible refine LeO.bind ?_ (fun _ => ?_))
    | exact ih0 _ _ _ _ _
    | exact ih1 _ _ _ _ _ _ _ _
    | exact ih2 _ _ _ _ _ _ _ _ _ _ _ _ _
    | exact handshakerlaw03_awake.mono _
    | exact handshakerref03_Numbers.mono _ _ _
    | exact handshakerref03_Same.mono _ _ _
    | exact stripe_Held.mono _ _ _
    | exact stripe_Let.mono _ _ _
    | exact stripe_Lock.mono _ _ _ _
    | exact stripe_Of.mono _ _ _
    | exact LeO.none _
    | refine LeO.ite ?_ ?_
    | refine LeO.bind ?_ (fun _ => ?_)
theorem handshakerlaw03_StripeHolds.mono : ∀ a0 a1 a2 a3 k, LeO (handshakerlaw03_StripeHolds.f k a0 a1 a2 a3) (handshakerlaw03_StripeHolds.f (k + 1) a0 a1 a2 a3) := by
 intro a0 a1 a2 a3 k
 obtain ⟨ih0, ih1, ih2⟩ := handshakerlaw03_StripeHolds.mono_l k
 unfold handshakerlaw03_StripeHolds.f
 repeat' first
  | (with_reducible exact ih0 _ _ _ _ _)
  | (with_reducible exact ih1 _ _ _ _ _ _ _ _)
  | (with_reducible exact ih2 _ _ _ _ _ _ _ _ _ _ _ _ _)
  | (with_reducible exact handshakerlaw03_awake.mono _)
  | (with_reducible exact handshakerref03_Numbers.mono _ _ _)
  | (with_reducible exact handshakerref03_Same.mono _ _ _)
  | (with_reducible exact stripe_Held.mono _ _ _)
  | (with_reducible exact stripe_Let.mono _ _ _)
  | (with_reducible exact stripe_Lock.mono _ _ _ _)
  | (with_reducible exact stripe_Of.mono _ _ _)
  | (with_reducible exact LeO.refl _)
  | (with_reducible exact LeO.none _)
  | (with_reducible refine LeO.ite ?_ ?_)
  | (with_reducible refine LeO.bind ?_ (fun _ => ?_))
  | exact ih0 _ _ _ _ _
  | exact ih1 _ _ _ _ _ _ _ _
  | exact ih2 _ _ _ _ _ _ _ _ _ _ _ _ _
  | exact handshakerlaw03_awake.mono _
  | exact handshakerref03_Numbers.mono _ _ _
  | exact handshakerref03_Same.mono _ _ _
  | exact stripe_Held.mono _ _ _
  | exact stripe_Let.mono _ _ _
  | exact stripe_Lock.mono _ _ _ _
  | exact stripe_Of.mono _ _ _
  | exact LeO.none _
  | refine LeO.ite ?_ ?_
  | refine LeO.bind ?_ (fun _ => ?_)
set_option maxHeartbeats 8000000 in
set_option maxRecDepth 100000 in
theorem handshakerlaw03_StripeHolds.calls (k : Nat) (A0 : Option Addr) (c0 : Nat) (l0 : List (S67)) (a1 : Int) (a2 : Int) (A3 : Option Addr) (c3 : Nat) (l3 : List Int) (r : Bool) (w : World) (HT : Aside0 (r = true)) (hr0 : Kd.C k67 w A0 l0.length l0) (hc0 : l0.length ≤ c0) (hr3 : Kd.C (Kd.int .i64) w A3 l3.length l3) (hc3 : l3.length ≤ c3) (h : handshakerlaw03_StripeHolds.f k l0 a1 a2 l3 = some r) :
 Calls Try.prog 10 #[.slice A0 l0.length c0, .int .i64 a1, .int .i64 a2, .slice A3 l3.length c3] w fun e w' => e = .returned (.bool r) ∧ Below w.heap.size w w' := by
 have HR0 := Aside0.mk hr0
 have HC0 := Aside0.mk hc0
 clear hr0 hc0
 have HR3 := Aside0.mk hr3
 have HC3 := Aside0.mk hc3
 clear hr3 hc3
 have HB := Aside0.mk (Below.refl w.heap.size w)
 have H : (if (l0.length : Int) > 16 then (handshakerlaw03_StripeHolds.j0 k l0 a1 a2 l3 true) else (if (l3.length : Int) > 60 then (handshakerlaw03_StripeHolds.j0 k l0 a1 a2 l3 true) else ((stripe_Right.f l0).bind fun t356 => (if t356 = true then (handshakerlaw03_StripeHolds.j0 k l0 a1 a2 l3 (a1 == a2)) else (handshakerlaw03_StripeHolds.j0 k l0 a1 a2 l3 true))))) = some r := h
 clear h
 have HC5 := Aside0.mk H
 clear H
 go_enter Try.func10, Try.ntmps10
 go_upto_region 1 with (fail)
 go_cut [35] (fun v35 wc => ∃ (kq : Nat) (x35_4 : Bool), v35 = .bool x35_4 ∧ Aside0 (handshakerlaw03_StripeHolds.j0 kq l0 a1 a2 l3 x35_4 = some r) ∧ Aside0 (kq ≤ k) ∧ Aside0 (Below w.heap.size w wc))
 case first =>
  have H := HC5.out
  clear HC5
  by_cases c6 : (l0.length : Int) > 16
  · rw [if_pos c6] at H
    have c6b0 : decide (16 < (l0.length : Int)) = true := decide_eq_true c6
    have c6b1 : decide (16 < l0.length) = true := decide_eq_true (by omega)
    clear c6
    (first | rw [c6b0] | (simp only [i64_w, i32_w]; rw [c6b0]) | skip)
    have H' := Aside0.mk H
    clear H
    go_wp2
    go_meet
    case rel => exact ⟨_, (true), (by first | rfl | (simp; done) | (simp [*]; done)), H', ⟨by first | omega | exact Nat.le_refl _⟩, ⟨by repeat (with_reducible first | exact HB.out | apply below_alloc | apply pw_below_drewN | apply below_drew1)⟩⟩
  · rw [if_neg c6] at H
    have c6b0 : decide (16 < (l0.length : Int)) = false := decide_eq_false c6
    have c6b1 : decide (16 < l0.length) = false := decide_eq_false (by omega)
    clear c6
    (first | rw [c6b0] | (simp only [i64_w, i32_w]; rw [c6b0]) | skip)
    by_cases c7 : (l3.length : Int) > 60
    · rw [if_pos c7] at H
      have c7b0 : decide (60 < (l3.length : Int)) = true := decide_eq_true c7
      have c7b1 : decide (60 < l3.length) = true := decide_eq_true (by omega)
      clear c7
      have H' := Aside0.mk H
      clear H
      go_wp2
      go_meet
      case rel => exact ⟨_, (true), (by first | rfl | (simp; done) | (simp [*]; done)), H', ⟨by first | omega | exact Nat.le_refl _⟩, ⟨by repeat (with_reducible first | exact HB.out | apply below_alloc | apply pw_below_drewN | apply below_drew1)⟩⟩
    · rw [if_neg c7] at H
      have c7b0 : decide (60 < (l3.length : Int)) = false := decide_eq_false c7
      have c7b1 : decide (60 < l3.length) = false := decide_eq_false (by omega)
      clear c7
      replace H := Option.bind_eq_some_iff.mp H
      obtain ⟨t356, A80, H⟩ := H
      replace H : (if t356 = true then (handshakerlaw03_StripeHolds.j0 k l0 a1 a2 l3 (a1 == a2)) else (handshakerlaw03_StripeHolds.j0 k l0 a1 a2 l3 true)) = some r := H
      have A8 := Aside0.mk A80
      clear A80
      by_cases c9 : t356 = true
      · subst c9
        have H1 : (handshakerlaw03_StripeHolds.j0 k l0 a1 a2 l3 (a1 == a2)) = some r := by rw [if_pos rfl] at H; exact H
        clear H
        have H := H1
        clear H1
        have H' := Aside0.mk H
        clear H
        go_wp2_with (first | (go_at_call 37; (with_reducible refine (stripe_Right.calls _ _ l0 true _ ?side1 ?side2 A8.out).mono ?_); (case side1 => repeat (first | exact (Kd.C_below HR0.out HB.out) | with_reducible first | refine Kd.C_alloc ?_ _ | refine Kd.C_drewN ?_ _ | refine Kd.C_drew ?_)); (case side2 => exact HC0.out); rintro e w10 ⟨rfl, hb⟩; have n0_ := Aside0.mk (bst_ hb); clear HB; have HB := n0_; clear n0_; (try clear hb); (try clear hb2); (try clear hk); (try clear hi)))
        go_meet
        case rel => exact ⟨_, ((a1 == a2)), (by first | rfl | (simp; done) | (simp [*]; done)), H', ⟨by first | omega | exact Nat.le_refl _⟩, ⟨by repeat (with_reducible first | exact HB.out | apply below_alloc | apply pw_below_drewN | apply below_drew1)⟩⟩
      · replace c9 := Bool.eq_false_iff.mpr c9
        subst c9
        have H1 : (handshakerlaw03_StripeHolds.j0 k l0 a1 a2 l3 true) = some r := by rw [if_neg (show ¬ (false = true) by decide)] at H; exact H
        clear H
        have H := H1
        clear H1
        have H' := Aside0.mk H
        clear H
        go_wp2_with (first | (go_at_call 37; (with_reducible refine (stripe_Right.calls _ _ l0 false _ ?side1 ?side2 A8.out).mono ?_); (case side1 => repeat (first | exact (Kd.C_below HR0.out HB.out) | with_reducible first | refine Kd.C_alloc ?_ _ | refine Kd.C_drewN ?_ _ | refine Kd.C_drew ?_)); (case side2 => exact HC0.out); rintro e w11 ⟨rfl, hb⟩; have n0_ := Aside0.mk (bst_ hb); clear HB; have HB := n0_; clear n0_; (try clear hb); (try clear hb2); (try clear hk); (try clear hi)))
        go_meet
        case rel => exact ⟨_, (true), (by first | rfl | (simp; done) | (simp [*]; done)), H', ⟨by first | omega | exact Nat.le_refl _⟩, ⟨by repeat (with_reducible first | exact HB.out | apply below_alloc | apply pw_below_drewN | apply below_drew1)⟩⟩
 case rest =>
  clear HC5
  try clear c1
  try clear p2
  try clear c3
  try clear c6
  try clear c6b0
  try clear c6b1
  try clear c7
  try clear c7b0
  try clear c7b1
  try clear c9
  try clear c10
  obtain ⟨kq, x35_4, rfl, HA, HJ4, HB⟩ := hcut
  cases kq with
  | zero => exact absurd HA.out (by simp [handshakerlaw03_StripeHolds.j0])
  | succ kj4 =>
   have H := HA.out
   clear HA
   simp only [handshakerlaw03_StripeHolds.j0] at H
   by_cases c12 : x35_4 = true
   · subst c12
     have H1 : ((handshakerlaw03_awake.f kj4).bind fun t357 => (some t357)) = some r := by rw [if_pos rfl] at H; exact H
     clear H
     have H := H1
     clear H1
     replace H := Option.bind_eq_some_iff.mp H
     obtain ⟨t357, A130, H⟩ := H
     replace H : (some t357) = some r := H
     have A13 := Aside0.mk A130
     clear A130
     obtain rfl := Option.some.inj H
     go_wp2_with (first | ((with_reducible refine gate_callee (f := 33) rfl ?_); refine goesL_ (some 36) rfl rfl Try.func33 (by kernel_rfl) rfl #[] rfl (by (try simp only [List.map_toArray, List.map_cons, List.map_nil]); first | done | rfl) ?_; (with_reducible refine (handshakerlaw03_awake.calls kj4  t357 _ A13.out).mono ?_); rintro e w14 ⟨rfl, hb⟩; refine ⟨_, rfl, ?_⟩; have n0_ := Aside0.mk (bst_ hb); clear HB; have HB := n0_; clear n0_; (try clear hb); (try clear hb2); (try clear hk); (try clear hi)))
     go_ret
     exact ⟨by first | rfl | (simp [errW_none, errW_some] <;> rfl) | (simp [*, errW_none, errW_some] <;> rfl), by repeat (with_reducible first | exact HB.out | apply below_alloc | apply pw_below_drewN | apply below_drew1)⟩
   · replace c12 := Bool.eq_false_iff.mpr c12
     subst c12
     have H1 : ((stripe_Lock.f kj4 l0 a1 l3).bind fun bt358 => (if bt358.2 = 0 then ((stripe_Held.f kj4 bt358.1 a1).bind fun t364 => ((stripe_Of.f kj4 l0 l3).bind fun t367 => (handshakerlaw03_StripeHolds.l0 kj4 l0 a1 a2 bt358.1 t364 t367 (t367.length : Int) 0))) else ((handshakerref03_Same.f kj4 bt358.1 l0).bind fun t362 => (if t362 = true then ((handshakerlaw03_awake.f kj4).bind fun t363 => (some t363)) else (some false))))) = some r := by rw [if_neg (show ¬ (false = true) by decide)] at H; exact H
     clear H
     have H := H1
     clear H1
     replace H := Option.bind_eq_some_iff.mp H
     obtain ⟨⟨t358, t361⟩, A150, H⟩ := H
     replace H : (if t361 = 0 then ((stripe_Held.f kj4 t358 a1).bind fun t364 => ((stripe_Of.f kj4 l0 l3).bind fun t367 => (handshakerlaw03_StripeHolds.l0 kj4 l0 a1 a2 t358 t364 t367 (t367.length : Int) 0))) else ((handshakerref03_Same.f kj4 t358 l0).bind fun t362 => (if t362 = true then ((handshakerlaw03_awake.f kj4).bind fun t363 => (some t363)) else (some false)))) = some r := H
     have A15 := Aside0.mk A150
     clear A150
     by_cases c16 : t361 = 0
     · rw [if_pos c16] at H
       have c16b0 : (t361 == 0) = true := beq_iff_eq.mpr c16
       have c16b1 : (t361 != 0) = false := bne_eq_false_iff_eq.mpr c16
       clear c16
       replace H := Option.bind_eq_some_iff.mp H
       obtain ⟨t364, A170, H⟩ := H
       replace H : ((stripe_Of.f kj4 l0 l3).bind fun t367 => (handshakerlaw03_StripeHolds.l0 kj4 l0 a1 a2 t358 t364 t367 (t367.length : Int) 0)) = some r := H
       have A17 := Aside0.mk A170
       clear A170
       replace H := Option.bind_eq_some_iff.mp H
       obtain ⟨t367, A180, H⟩ := H
       replace H : (handshakerlaw03_StripeHolds.l0 kj4 l0 a1 a2 t358 t364 t367 (t367.length : Int) 0) = some r := H
       have A18 := Aside0.mk A180
       clear A180
       have H' := Aside0.mk H
       clear H
       go_wp2_with (first | ((with_reducible refine gate_callee (f := 30) rfl ?_); refine goesL_ (some 41) rfl rfl Try.func30 (by kernel_rfl) rfl #[.slice A0 l0.length c0, .int .i64 a1, .slice A3 l3.length c3] rfl (by (try simp only [List.map_toArray, List.map_cons, List.map_nil]); first | done | rfl) ?_; (with_reducible refine (stripe_Lock.calls kj4 (fun k_ => k_ < w.heap.size) _ _ l0 a1 _ _ l3 t358 t361 _ ?side1 ?side2 ?side3 A15.out).mono ?_); (case side1 => exact Kd.V_mk HC0.out (Kd.F_below (Kd.C_F k67_heap HR0.out) (by repeat (with_reducible first | exact HB.out | apply below_alloc | apply pw_below_drewN | apply below_drew1)))); (case side2 => repeat (first | exact (Kd.C_below HR3.out HB.out) | with_reducible first | refine Kd.C_alloc ?_ _ | refine Kd.C_drewN ?_ _ | refine Kd.C_drew ?_)); (case side3 => exact HC3.out); rintro e w19 ⟨v359, rfl, ho0, hb⟩; refine ⟨_, rfl, ?_⟩; have n0_ := Aside0.mk (Kd.V_lower (Kd.V_mono (ok' := fun k_ => True) ho0 (fun k_ hk_ => trivial)) bsz_); have n1_ := Aside0.mk (bst_ hb); clear HB; have HO360 := n0_; have HB := n1_; clear n0_ n1_; (try clear hb); (try clear hb2); (try clear hk); (try clear hi); (try clear ho0); obtain ⟨Ao20, co20, eo20⟩ := Kd.V_slice HO360.out; subst eo20) | ((with_reducible refine gate_callee (f := 40) rfl ?_); refine goesL_ (some 54) rfl rfl Try.func40 (by kernel_rfl) rfl #[.slice Ao20 t358.length co20, .int .i64 a1] rfl (by (try simp only [List.map_toArray, List.map_cons, List.map_nil]); first | done | rfl) ?_; (with_reducible refine (stripe_Held.calls kj4 _ _ t358 a1 t364 _ ?side1 ?side2 A17.out).mono ?_); (case side1 => repeat (first | exact (Kd.V_reads' HO360.out).2.2 | with_reducible first | refine Kd.C_alloc ?_ _ | refine Kd.C_drewN ?_ _ | refine Kd.C_drew ?_)); (case side2 => exact (Kd.V_reads' HO360.out).2.1); rintro e w21 ⟨v365, rfl, ho0, hb⟩; refine ⟨_, rfl, ?_⟩; have n0_ := Aside0.mk (Kd.V_elder' (by (with_reducible repeat (first | apply Kd.V_alloc | apply Kd.V_drewN | apply Kd.V_drew)); exact HO360.out) (Kd.R_base ho0) hb); have n1_ := Aside0.mk (Kd.R_lower ho0 bsz_); have n2_ := Aside0.mk (bst_ hb); clear HO360; clear HB; have HO360 := n0_; have HO366 := n1_; have HB := n2_; clear n0_ n1_ n2_; (try clear hb); (try clear hb2); (try clear hk); (try clear hi); (try clear ho0)) | ((with_reducible refine gate_callee (f := 31) rfl ?_); refine goesL_ (some 57) rfl rfl Try.func31 (by kernel_rfl) rfl #[.slice A0 l0.length c0, .slice A3 l3.length c3] rfl (by (try simp only [List.map_toArray, List.map_cons, List.map_nil]); first | done | rfl) ?_; (with_reducible refine (stripe_Of.calls kj4 _ _ l0 _ _ l3 t367 _ ?side1 ?side2 ?side3 ?side4 A18.out).mono ?_); (case side1 => repeat (first | exact (Kd.C_below HR0.out HB.out) | with_reducible first | refine Kd.C_alloc ?_ _ | refine Kd.C_drewN ?_ _ | refine Kd.C_drew ?_)); (case side2 => exact HC0.out); (case side3 => repeat (first | exact (Kd.C_below HR3.out HB.out) | with_reducible first | refine Kd.C_alloc ?_ _ | refine Kd.C_drewN ?_ _ | refine Kd.C_drew ?_)); (case side4 => exact HC3.out); rintro e w22 ⟨v368, rfl, ho0, hb⟩; refine ⟨_, rfl, ?_⟩; have n0_ := Aside0.mk (Kd.V_elder' (by (with_reducible repeat (first | apply Kd.V_alloc | apply Kd.V_drewN | apply Kd.V_drew)); exact HO360.out) (Kd.R_base ho0) hb); have n1_ := Aside0.mk (Kd.R_elder' (by (with_reducible repeat (first | apply Kd.R_alloc | apply Kd.R_drewN | apply Kd.R_drew)); exact HO366.out) (Kd.R_base ho0) hb); have n2_ := Aside0.mk (Kd.R_lower (Kd.R_new' ho0 (Kd.R_lt (by (with_reducible repeat (first | apply Kd.R_alloc | apply Kd.R_drewN | apply Kd.R_drew)); exact HO366.out))) bsz_); have n3_ := Aside0.mk (bst_ hb); clear HO360; clear HO366; clear HB; have HO360 := n0_; have HO366 := n1_; have HO369 := n2_; have HB := n3_; clear n0_ n1_ n2_ n3_; (try clear hb); (try clear hb2); (try clear hk); (try clear hi); (try clear ho0); obtain ⟨Ao23, co23, eo23⟩ := Kd.R_slice HO369.out; subst eo23))
       go_loopg [59] kj4 (fun kq v59 w' => ∃ (x59_2 : Int), v59 = .int .i64 x59_2 ∧ Aside0 (handshakerlaw03_StripeHolds.l0 kq l0 a1 a2 t358 t364 t367 (t367.length : Int) x59_2 = some r) ∧ Aside0 (kq ≤ kj4) ∧ Aside0 (Kd.V k67 67 w' w.heap.size (fun k_ => some k_ ≠ (v365 : Value).ownBlock ∧ some k_ ≠ ((.slice Ao23 t367.length co23) : Value).ownBlock) (.slice Ao20 t358.length co20) t358) ∧ Aside0 (Kd.R (Kd.int .i64) 3 w' w.heap.size (fun k_ => some k_ ≠ ((.slice Ao23 t367.length co23) : Value).ownBlock) v365 t364) ∧ Aside0 (Kd.R (Kd.int .i64) 3 w' w.heap.size (fun k_ => some k_ ≠ (v365 : Value).ownBlock) (.slice Ao23 t367.length co23) t367) ∧ Aside0 (Below w.heap.size w w'))
       case atStart => exact ⟨(0), (by first | rfl | (simp; done) | (simp [*]; done)), H', ⟨Nat.le_refl _⟩, ⟨by (with_reducible repeat (first | apply Kd.V_alloc | apply Kd.V_drewN | apply Kd.V_drew)); exact Kd.V_mono HO360.out (fun _ hk => ⟨hk.1.2, hk.2⟩)⟩, ⟨by (with_reducible repeat (first | apply Kd.R_alloc | apply Kd.R_drewN | apply Kd.R_drew)); exact Kd.R_mono HO366.out (fun _ hk => hk.2)⟩, ⟨by (with_reducible repeat (first | apply Kd.R_alloc | apply Kd.R_drewN | apply Kd.R_drew)); exact Kd.R_mono HO369.out (fun _ hk => hk.2)⟩, ⟨by repeat (with_reducible first | exact HB.out | apply below_alloc | apply pw_below_drewN | apply below_drew1)⟩⟩
       case round =>
        clear H'
        try clear c1
        try clear p2
        try clear c3
        try clear c4
        try clear c6
        try clear c6b0
        try clear c6b1
        try clear c7
        try clear c7b0
        try clear c7b1
        try clear c9
        try clear c10
        try clear c12
        try clear c16
        try clear c16b0
        try clear c16b1
        try clear p2
        obtain ⟨x59_2, rfl, HA, HK2, HO_9, HO_11, HO_57, HB⟩ := hrel
        cases gk with
        | zero => exact absurd HA.out (by simp [handshakerlaw03_StripeHolds.l0])
        | succ k2 =>
         have H := HA.out
         clear HA
         simp only [handshakerlaw03_StripeHolds.l0] at H
         by_cases c24 : x59_2 < (t367.length : Int)
         · rw [if_pos c24] at H
           have c24b0 : decide (x59_2 < (t367.length : Int)) = true := decide_eq_true c24
           clear c24
           by_cases c25 : 0 ≤ x59_2
           · rw [if_pos c25] at H
             have c25b0 : decide (0 ≤ x59_2) = true := decide_eq_true c25
             clear c25
             by_cases c26 : x59_2 < (t367.length : Int)
             · rw [if_pos c26] at H
               have c26b0 : decide (x59_2 < (t367.length : Int)) = true := decide_eq_true c26
               clear c26
               have H' := Aside0.mk H
               clear H
               have p370 : 0 ≤ (x59_2 : Int) := of_decide_eq_true (by first | (with_reducible assumption) | assumption)
               have q370 : x59_2 < (t367.length : Int) := of_decide_eq_true (by first | (with_reducible assumption) | assumption)
               obtain ⟨ad370, e370, hx370_0⟩ := Kd.at_int (Kd.R_reads' HO_57.out).2.2 x59_2 p370 q370
               cases e370
               replace p370 := eq_true p370
               replace q370 := eq_true q370
               obtain ⟨Ao27, co27, eo27⟩ := Kd.R_slice HO_11.out
               subst eo27
               go_wp2
               go_loopg [14, 65] k2 (fun kq v14 v65 w' => ∃ (x14_3 : Bool) (x65_3 : Int), v14 = .bool x14_3 ∧ v65 = .int .i64 x65_3 ∧ Aside0 (handshakerlaw03_StripeHolds.l1 kq l0 a1 a2 t358 t364 (rd t367 x59_2) x14_3 t367 (t367.length : Int) x59_2 t364 (t364.length : Int) x65_3 = some r) ∧ Aside0 (kq ≤ k2) ∧ Aside0 (Kd.V k67 67 w' w.heap.size (fun k_ => some k_ ≠ ((.slice Ao27 t364.length co27) : Value).ownBlock ∧ some k_ ≠ ((.slice (some ad370) t367.length co23) : Value).ownBlock ∧ some k_ ≠ ((.slice Ao27 t364.length co27) : Value).ownBlock) (.slice Ao20 t358.length co20) t358) ∧ Aside0 (Kd.R (Kd.int .i64) 3 w' w.heap.size (fun k_ => some k_ ≠ ((.slice (some ad370) t367.length co23) : Value).ownBlock) (.slice Ao27 t364.length co27) t364) ∧ Aside0 (Kd.R (Kd.int .i64) 3 w' w.heap.size (fun k_ => some k_ ≠ ((.slice Ao27 t364.length co27) : Value).ownBlock ∧ some k_ ≠ ((.slice Ao27 t364.length co27) : Value).ownBlock) (.slice (some ad370) t367.length co23) t367) ∧ Aside0 (Kd.R (Kd.int .i64) 3 w' w.heap.size (fun k_ => some k_ ≠ ((.slice (some ad370) t367.length co23) : Value).ownBlock) (.slice Ao27 t364.length co27) t364) ∧ Aside0 (Below w.heap.size w w'))
               case atStart => exact ⟨(false), (0), (by first | rfl | (simp; done) | (simp [*]; done)), (by first | rfl | (simp; done) | (simp [*]; done)), H', ⟨Nat.le_refl _⟩, ⟨by (with_reducible repeat (first | apply Kd.V_alloc | apply Kd.V_drewN | apply Kd.V_drew)); exact Kd.V_mono HO_9.out (fun _ hk => ⟨hk.1, ⟨hk.2, hk.1⟩⟩)⟩, ⟨by (with_reducible repeat (first | apply Kd.R_alloc | apply Kd.R_drewN | apply Kd.R_drew)); exact HO_11.out⟩, ⟨by (with_reducible repeat (first | apply Kd.R_alloc | apply Kd.R_drewN | apply Kd.R_drew)); exact Kd.R_mono HO_57.out (fun _ hk => ⟨hk, hk⟩)⟩, ⟨by (with_reducible repeat (first | apply Kd.R_alloc | apply Kd.R_drewN | apply Kd.R_drew)); exact HO_11.out⟩, ⟨by repeat (with_reducible first | exact HB.out | apply below_alloc | apply pw_below_drewN | apply below_drew1)⟩⟩
               case round =>
                clear H'
                try clear c1
                try clear c2
                try clear p2
                try clear c3
                try clear p3
                try clear q3
                try clear hx3
                try clear c4
                try clear c6
                try clear c6b0
                try clear c6b1
                try clear c7
                try clear c7b0
                try clear c7b1
                try clear c9
                try clear c10
                try clear c12
                try clear c16
                try clear c16b0
                try clear c16b1
                try clear c24
                try clear c24b0
                try clear c25
                try clear c25b0
                try clear c26
                try clear c26b0
                try clear hx370_0
                try clear p2
                try clear p370
                try clear q370
                obtain ⟨x14_3, x65_3, rfl, rfl, HA, HK3, HO_9, HO_11, HO_57, HO_63, HB⟩ := hrel
                cases gk with
                | zero => exact absurd HA.out (by simp [handshakerlaw03_StripeHolds.l1])
                | succ k3 =>
                 have H := HA.out
                 clear HA
                 simp only [handshakerlaw03_StripeHolds.l1] at H
                 by_cases c28 : x65_3 < (t364.length : Int)
                 · rw [if_pos c28] at H
                   have c28b0 : decide (x65_3 < (t364.length : Int)) = true := decide_eq_true c28
                   clear c28
                   by_cases c29 : 0 ≤ x65_3
                   · rw [if_pos c29] at H
                     have c29b0 : decide (0 ≤ x65_3) = true := decide_eq_true c29
                     clear c29
                     by_cases c30 : x65_3 < (t364.length : Int)
                     · rw [if_pos c30] at H
                       have c30b0 : decide (x65_3 < (t364.length : Int)) = true := decide_eq_true c30
                       clear c30
                       by_cases c31 : x14_3 = true
                       · subst c31
                         have H1 : (handshakerlaw03_StripeHolds.l1 k3 l0 a1 a2 t358 t364 (rd t367 x59_2) true t367 (t367.length : Int) x59_2 t364 (t364.length : Int) (wrap64 (x65_3 + 1))) = some r := by rw [if_pos rfl] at H; exact H
                         clear H
                         have H := H1
                         clear H1
                         have H' := Aside0.mk H
                         clear H
                         have p371 : 0 ≤ (x65_3 : Int) := of_decide_eq_true (by first | (with_reducible assumption) | assumption)
                         have q371 : x65_3 < (t364.length : Int) := of_decide_eq_true (by first | (with_reducible assumption) | assumption)
                         obtain ⟨ad371, e371, hx371_0⟩ := Kd.at_int (Kd.R_reads' HO_63.out).2.2 x65_3 p371 q371
                         cases e371
                         replace p371 := eq_true p371
                         replace q371 := eq_true q371
                         go_wp2
                         go_roundg k3
                         case measure => have := HJ4.out; have := HK2.out; have := HK3.out; omega
                         case rel => exact ⟨(true), (wrap64 (x65_3 + 1)), (by first | rfl | (simp; done) | (simp [*]; done)), (by first | rfl | (simp; done) | (simp [*]; done)), H', ⟨by have := HJ4.out; have := HK2.out; have := HK3.out; omega⟩, ⟨by (with_reducible repeat (first | apply Kd.V_alloc | apply Kd.V_drewN | apply Kd.V_drew)); exact HO_9.out⟩, ⟨by (with_reducible repeat (first | apply Kd.R_alloc | apply Kd.R_drewN | apply Kd.R_drew)); exact HO_11.out⟩, ⟨by (with_reducible repeat (first | apply Kd.R_alloc | apply Kd.R_drewN | apply Kd.R_drew)); exact HO_57.out⟩, ⟨by (with_reducible repeat (first | apply Kd.R_alloc | apply Kd.R_drewN | apply Kd.R_drew)); exact HO_63.out⟩, ⟨by repeat (with_reducible first | exact HB.out | apply below_alloc | apply pw_below_drewN | apply below_drew1)⟩⟩
                       · replace c31 := Bool.eq_false_iff.mpr c31
                         subst c31
                         have H1 : (handshakerlaw03_StripeHolds.l1 k3 l0 a1 a2 t358 t364 (rd t367 x59_2) ((rd t364 x65_3) == (rd t367 x59_2)) t367 (t367.length : Int) x59_2 t364 (t364.length : Int) (wrap64 (x65_3 + 1))) = some r := by rw [if_neg (show ¬ (false = true) by decide)] at H; exact H
                         clear H
                         have H := H1
                         clear H1
                         have H' := Aside0.mk H
                         clear H
                         have p371 : 0 ≤ (x65_3 : Int) := of_decide_eq_true (by first | (with_reducible assumption) | assumption)
                         have q371 : x65_3 < (t364.length : Int) := of_decide_eq_true (by first | (with_reducible assumption) | assumption)
                         obtain ⟨ad371, e371, hx371_0⟩ := Kd.at_int (Kd.R_reads' HO_63.out).2.2 x65_3 p371 q371
                         cases e371
                         replace p371 := eq_true p371
                         replace q371 := eq_true q371
                         go_wp2
                         go_roundg k3
                         case measure => have := HJ4.out; have := HK2.out; have := HK3.out; omega
                         case rel => exact ⟨(((rd t364 x65_3) == (rd t367 x59_2))), (wrap64 (x65_3 + 1)), (by first | rfl | (simp; done) | (simp [*]; done)), (by first | rfl | (simp; done) | (simp [*]; done)), H', ⟨by have := HJ4.out; have := HK2.out; have := HK3.out; omega⟩, ⟨by (with_reducible repeat (first | apply Kd.V_alloc | apply Kd.V_drewN | apply Kd.V_drew)); exact HO_9.out⟩, ⟨by (with_reducible repeat (first | apply Kd.R_alloc | apply Kd.R_drewN | apply Kd.R_drew)); exact HO_11.out⟩, ⟨by (with_reducible repeat (first | apply Kd.R_alloc | apply Kd.R_drewN | apply Kd.R_drew)); exact HO_57.out⟩, ⟨by (with_reducible repeat (first | apply Kd.R_alloc | apply Kd.R_drewN | apply Kd.R_drew)); exact HO_63.out⟩, ⟨by repeat (with_reducible first | exact HB.out | apply below_alloc | apply pw_below_drewN | apply below_drew1)⟩⟩
                     · rw [if_neg c30] at H
                       exact absurd H (by simp)
                   · rw [if_neg c29] at H
                     exact absurd H (by simp)
                 · rw [if_neg c28] at H
                   have c28b0 : decide (x65_3 < (t364.length : Int)) = false := decide_eq_false c28
                   clear c28
                   by_cases c32 : x14_3 = true
                   · subst c32
                     have H1 : (handshakerlaw03_StripeHolds.l0 k3 l0 a1 a2 t358 t364 t367 (t367.length : Int) (wrap64 (x59_2 + 1))) = some r := by rw [if_pos rfl] at H; exact H
                     clear H
                     have H := H1
                     clear H1
                     have H' := Aside0.mk H
                     clear H
                     go_wp2
                     go_roundg k3
                     case measure => have := HJ4.out; have := HK2.out; have := HK3.out; omega
                     case rel => exact ⟨(wrap64 (x59_2 + 1)), (by first | rfl | (simp; done) | (simp [*]; done)), H', ⟨by have := HJ4.out; have := HK2.out; have := HK3.out; omega⟩, ⟨by (with_reducible repeat (first | apply Kd.V_alloc | apply Kd.V_drewN | apply Kd.V_drew)); exact Kd.V_mono HO_9.out (fun _ hk => ⟨hk.1, hk.2.1⟩)⟩, ⟨by (with_reducible repeat (first | apply Kd.R_alloc | apply Kd.R_drewN | apply Kd.R_drew)); exact HO_11.out⟩, ⟨by (with_reducible repeat (first | apply Kd.R_alloc | apply Kd.R_drewN | apply Kd.R_drew)); exact Kd.R_mono HO_57.out (fun _ hk => hk.1)⟩, ⟨by repeat (with_reducible first | exact HB.out | apply below_alloc | apply pw_below_drewN | apply below_drew1)⟩⟩
                   · replace c32 := Bool.eq_false_iff.mpr c32
                     subst c32
                     have H1 : (some false) = some r := by rw [if_neg (show ¬ (false = true) by decide)] at H; exact H
                     clear H
                     have H := H1
                     clear H1
                     exact absurd (Option.some.inj H) (by rw [HT.out]; decide)
             · rw [if_neg c26] at H
               exact absurd H (by simp)
           · rw [if_neg c25] at H
             exact absurd H (by simp)
         · rw [if_neg c24] at H
           have c24b0 : decide (x59_2 < (t367.length : Int)) = false := decide_eq_false c24
           clear c24
           replace H := Option.bind_eq_some_iff.mp H
           obtain ⟨t372, A330, H⟩ := H
           replace H : ((stripe_Held.f k2 t372 a1).bind fun t375 => (if (t375.length : Int) = 0 then ((stripe_Held.f k2 l0 a1).bind fun t378 => (if (t364.length : Int) ≥ (t378.length : Int) then ((stripe_Held.f k2 t358 a2).bind fun t381 => ((stripe_Held.f k2 l0 a2).bind fun t384 => ((handshakerref03_Numbers.f k2 t381 t384).bind fun t387 => (if t387 = true then ((stripe_Held.f k2 t372 a2).bind fun t388 => ((stripe_Held.f k2 l0 a2).bind fun t391 => ((handshakerref03_Numbers.f k2 t388 t391).bind fun t394 => (if t394 = true then ((stripe_Right.f t358).bind fun t395 => (if t395 = true then ((stripe_Right.f t372).bind fun t396 => (if t396 = true then ((handshakerlaw03_awake.f k2).bind fun t397 => (some t397)) else (some false))) else (some false))) else (some false))))) else (some false))))) else (some false))) else (some false))) = some r := H
           have A33 := Aside0.mk A330
           clear A330
           replace H := Option.bind_eq_some_iff.mp H
           obtain ⟨t375, A340, H⟩ := H
           replace H : (if (t375.length : Int) = 0 then ((stripe_Held.f k2 l0 a1).bind fun t378 => (if (t364.length : Int) ≥ (t378.length : Int) then ((stripe_Held.f k2 t358 a2).bind fun t381 => ((stripe_Held.f k2 l0 a2).bind fun t384 => ((handshakerref03_Numbers.f k2 t381 t384).bind fun t387 => (if t387 = true then ((stripe_Held.f k2 t372 a2).bind fun t388 => ((stripe_Held.f k2 l0 a2).bind fun t391 => ((handshakerref03_Numbers.f k2 t388 t391).bind fun t394 => (if t394 = true then ((stripe_Right.f t358).bind fun t395 => (if t395 = true then ((stripe_Right.f t372).bind fun t396 => (if t396 = true then ((handshakerlaw03_awake.f k2).bind fun t397 => (some t397)) else (some false))) else (some false))) else (some false))))) else (some false))))) else (some false))) else (some false)) = some r := H
           have A34 := Aside0.mk A340
           clear A340
           by_cases c35 : (t375.length : Int) = 0
           · rw [if_pos c35] at H
             have c35b0 : ((t375.length : Int) == 0) = true := beq_iff_eq.mpr c35
             have c35b1 : ((t375.length : Int) != 0) = false := bne_eq_false_iff_eq.mpr c35
             clear c35
             replace H := Option.bind_eq_some_iff.mp H
             obtain ⟨t378, A360, H⟩ := H
             replace H : (if (t364.length : Int) ≥ (t378.length : Int) then ((stripe_Held.f k2 t358 a2).bind fun t381 => ((stripe_Held.f k2 l0 a2).bind fun t384 => ((handshakerref03_Numbers.f k2 t381 t384).bind fun t387 => (if t387 = true then ((stripe_Held.f k2 t372 a2).bind fun t388 => ((stripe_Held.f k2 l0 a2).bind fun t391 => ((handshakerref03_Numbers.f k2 t388 t391).bind fun t394 => (if t394 = true then ((stripe_Right.f t358).bind fun t395 => (if t395 = true then ((stripe_Right.f t372).bind fun t396 => (if t396 = true then ((handshakerlaw03_awake.f k2).bind fun t397 => (some t397)) else (some false))) else (some false))) else (some false))))) else (some false))))) else (some false)) = some r := H
             have A36 := Aside0.mk A360
             clear A360
             by_cases c37 : (t364.length : Int) ≥ (t378.length : Int)
             · rw [if_pos c37] at H
               have c37b0 : decide ((t378.length : Int) ≤ (t364.length : Int)) = true := decide_eq_true c37
               have c37b1 : decide (t378.length ≤ t364.length) = true := decide_eq_true (Int.ofNat_le.mp c37)
               clear c37
               replace H := Option.bind_eq_some_iff.mp H
               obtain ⟨t381, A380, H⟩ := H
               replace H : ((stripe_Held.f k2 l0 a2).bind fun t384 => ((handshakerref03_Numbers.f k2 t381 t384).bind fun t387 => (if t387 = true then ((stripe_Held.f k2 t372 a2).bind fun t388 => ((stripe_Held.f k2 l0 a2).bind fun t391 => ((handshakerref03_Numbers.f k2 t388 t391).bind fun t394 => (if t394 = true then ((stripe_Right.f t358).bind fun t395 => (if t395 = true then ((stripe_Right.f t372).bind fun t396 => (if t396 = true then ((handshakerlaw03_awake.f k2).bind fun t397 => (some t397)) else (some false))) else (some false))) else (some false))))) else (some false)))) = some r := H
               have A38 := Aside0.mk A380
               clear A380
               replace H := Option.bind_eq_some_iff.mp H
               obtain ⟨t384, A390, H⟩ := H
               replace H : ((handshakerref03_Numbers.f k2 t381 t384).bind fun t387 => (if t387 = true then ((stripe_Held.f k2 t372 a2).bind fun t388 => ((stripe_Held.f k2 l0 a2).bind fun t391 => ((handshakerref03_Numbers.f k2 t388 t391).bind fun t394 => (if t394 = true then ((stripe_Right.f t358).bind fun t395 => (if t395 = true then ((stripe_Right.f t372).bind fun t396 => (if t396 = true then ((handshakerlaw03_awake.f k2).bind fun t397 => (some t397)) else (some false))) else (some false))) else (some false))))) else (some false))) = some r := H
               have A39 := Aside0.mk A390
               clear A390
               replace H := Option.bind_eq_some_iff.mp H
               obtain ⟨t387, A400, H⟩ := H
               replace H : (if t387 = true then ((stripe_Held.f k2 t372 a2).bind fun t388 => ((stripe_Held.f k2 l0 a2).bind fun t391 => ((handshakerref03_Numbers.f k2 t388 t391).bind fun t394 => (if t394 = true then ((stripe_Right.f t358).bind fun t395 => (if t395 = true then ((stripe_Right.f t372).bind fun t396 => (if t396 = true then ((handshakerlaw03_awake.f k2).bind fun t397 => (some t397)) else (some false))) else (some false))) else (some false))))) else (some false)) = some r := H
               have A40 := Aside0.mk A400
               clear A400
               by_cases c41 : t387 = true
               · subst c41
                 have H1 : ((stripe_Held.f k2 t372 a2).bind fun t388 => ((stripe_Held.f k2 l0 a2).bind fun t391 => ((handshakerref03_Numbers.f k2 t388 t391).bind fun t394 => (if t394 = true then ((stripe_Right.f t358).bind fun t395 => (if t395 = true then ((stripe_Right.f t372).bind fun t396 => (if t396 = true then ((handshakerlaw03_awake.f k2).bind fun t397 => (some t397)) else (some false))) else (some false))) else (some false))))) = some r := by rw [if_pos rfl] at H; exact H
                 clear H
                 have H := H1
                 clear H1
                 replace H := Option.bind_eq_some_iff.mp H
                 obtain ⟨t388, A420, H⟩ := H
                 replace H : ((stripe_Held.f k2 l0 a2).bind fun t391 => ((handshakerref03_Numbers.f k2 t388 t391).bind fun t394 => (if t394 = true then ((stripe_Right.f t358).bind fun t395 => (if t395 = true then ((stripe_Right.f t372).bind fun t396 => (if t396 = true then ((handshakerlaw03_awake.f k2).bind fun t397 => (some t397)) else (some false))) else (some false))) else (some false)))) = some r := H
                 have A42 := Aside0.mk A420
                 clear A420
                 replace H := Option.bind_eq_some_iff.mp H
                 obtain ⟨t391, A430, H⟩ := H
                 replace H : ((handshakerref03_Numbers.f k2 t388 t391).bind fun t394 => (if t394 = true then ((stripe_Right.f t358).bind fun t395 => (if t395 = true then ((stripe_Right.f t372).bind fun t396 => (if t396 = true then ((handshakerlaw03_awake.f k2).bind fun t397 => (some t397)) else (some false))) else (some false))) else (some false))) = some r := H
                 have A43 := Aside0.mk A430
                 clear A430
                 replace H := Option.bind_eq_some_iff.mp H
                 obtain ⟨t394, A440, H⟩ := H
                 replace H : (if t394 = true then ((stripe_Right.f t358).bind fun t395 => (if t395 = true then ((stripe_Right.f t372).bind fun t396 => (if t396 = true then ((handshakerlaw03_awake.f k2).bind fun t397 => (some t397)) else (some false))) else (some false))) else (some false)) = some r := H
                 have A44 := Aside0.mk A440
                 clear A440
                 by_cases c45 : t394 = true
                 · subst c45
                   have H1 : ((stripe_Right.f t358).bind fun t395 => (if t395 = true then ((stripe_Right.f t372).bind fun t396 => (if t396 = true then ((handshakerlaw03_awake.f k2).bind fun t397 => (some t397)) else (some false))) else (some false))) = some r := by rw [if_pos rfl] at H; exact H
                   clear H
                   have H := H1
                   clear H1
                   replace H := Option.bind_eq_some_iff.mp H
                   obtain ⟨t395, A460, H⟩ := H
                   replace H : (if t395 = true then ((stripe_Right.f t372).bind fun t396 => (if t396 = true then ((handshakerlaw03_awake.f k2).bind fun t397 => (some t397)) else (some false))) else (some false)) = some r := H
                   have A46 := Aside0.mk A460
                   clear A460
                   by_cases c47 : t395 = true
                   · subst c47
                     have H1 : ((stripe_Right.f t372).bind fun t396 => (if t396 = true then ((handshakerlaw03_awake.f k2).bind fun t397 => (some t397)) else (some false))) = some r := by rw [if_pos rfl] at H; exact H
                     clear H
                     have H := H1
                     clear H1
                     replace H := Option.bind_eq_some_iff.mp H
                     obtain ⟨t396, A480, H⟩ := H
                     replace H : (if t396 = true then ((handshakerlaw03_awake.f k2).bind fun t397 => (some t397)) else (some false)) = some r := H
                     have A48 := Aside0.mk A480
                     clear A480
                     by_cases c49 : t396 = true
                     · subst c49
                       have H1 : ((handshakerlaw03_awake.f k2).bind fun t397 => (some t397)) = some r := by rw [if_pos rfl] at H; exact H
                       clear H
                       have H := H1
                       clear H1
                       replace H := Option.bind_eq_some_iff.mp H
                       obtain ⟨t397, A500, H⟩ := H
                       replace H : (some t397) = some r := H
                       have A50 := Aside0.mk A500
                       clear A500
                       obtain rfl := Option.some.inj H
                       go_wp2_with (first | ((with_reducible refine gate_callee (f := 43) rfl ?_); refine goesL_ (some 81) rfl rfl Try.func43 (by kernel_rfl) rfl #[.slice Ao20 t358.length co20, .int .i64 a1] rfl (by (try simp only [List.map_toArray, List.map_cons, List.map_nil]); first | done | rfl) ?_; (with_reducible refine (stripe_Let.calls k2 _ _ t358 a1 t372 _ ?side1 ?side2 A33.out).mono ?_); (case side1 => repeat (first | exact (Kd.V_reads' HO_9.out).2.2 | with_reducible first | refine Kd.C_alloc ?_ _ | refine Kd.C_drewN ?_ _ | refine Kd.C_drew ?_)); (case side2 => exact (Kd.V_reads' HO_9.out).2.1); rintro e w51 ⟨v373, rfl, ho0, hb⟩; refine ⟨_, rfl, ?_⟩; have n0_ := Aside0.mk (Kd.V_elder' (by (with_reducible repeat (first | apply Kd.V_alloc | apply Kd.V_drewN | apply Kd.V_drew)); exact HO_9.out) (Kd.R_base ho0) hb); have n1_ := Aside0.mk (Kd.R_below (by (with_reducible repeat (first | apply Kd.R_alloc | apply Kd.R_drewN | apply Kd.R_drew)); exact HO_11.out) hb); have n2_ := Aside0.mk (Kd.R_below (by (with_reducible repeat (first | apply Kd.R_alloc | apply Kd.R_drewN | apply Kd.R_drew)); exact HO_57.out) hb); have n3_ := Aside0.mk (Kd.R_lower ho0 bsz_); have n4_ := Aside0.mk (bst_ hb); clear HO_9; clear HO_11; clear HO_57; clear HB; have HO_9 := n0_; have HO_11 := n1_; have HO_57 := n2_; have HO374 := n3_; have HB := n4_; clear n0_ n1_ n2_ n3_ n4_; (try clear hb); (try clear hb2); (try clear hk); (try clear hi); (try clear ho0); obtain ⟨Ao52, co52, eo52⟩ := Kd.R_slice HO374.out; subst eo52) | ((with_reducible refine gate_callee (f := 40) rfl ?_); refine goesL_ (some 84) rfl rfl Try.func40 (by kernel_rfl) rfl #[.slice Ao52 t372.length co52, .int .i64 a1] rfl (by (try simp only [List.map_toArray, List.map_cons, List.map_nil]); first | done | rfl) ?_; (with_reducible refine (stripe_Held.calls k2 _ _ t372 a1 t375 _ ?side1 ?side2 A34.out).mono ?_); (case side1 => repeat (first | exact (Kd.R_reads' HO374.out).2.2 | with_reducible first | refine Kd.C_alloc ?_ _ | refine Kd.C_drewN ?_ _ | refine Kd.C_drew ?_)); (case side2 => exact (Kd.R_reads' HO374.out).2.1); rintro e w53 ⟨v376, rfl, ho0, hb⟩; refine ⟨_, rfl, ?_⟩; have n0_ := Aside0.mk (Kd.V_elder' (by (with_reducible repeat (first | apply Kd.V_alloc | apply Kd.V_drewN | apply Kd.V_drew)); exact HO_9.out) (Kd.R_base ho0) hb); have n1_ := Aside0.mk (Kd.R_elder' (by (with_reducible repeat (first | apply Kd.R_alloc | apply Kd.R_drewN | apply Kd.R_drew)); exact HO_11.out) (Kd.R_base ho0) hb); have n2_ := Aside0.mk (Kd.R_elder' (by (with_reducible repeat (first | apply Kd.R_alloc | apply Kd.R_drewN | apply Kd.R_drew)); exact HO_57.out) (Kd.R_base ho0) hb); have n3_ := Aside0.mk (Kd.R_below (by (with_reducible repeat (first | apply Kd.R_alloc | apply Kd.R_drewN | apply Kd.R_drew)); exact HO374.out) hb); have n4_ := Aside0.mk (Kd.R_lower (Kd.R_new' (Kd.R_new' ho0 (Kd.R_lt (by (with_reducible repeat (first | apply Kd.R_alloc | apply Kd.R_drewN | apply Kd.R_drew)); exact HO_11.out))) (Kd.R_lt (by (with_reducible repeat (first | apply Kd.R_alloc | apply Kd.R_drewN | apply Kd.R_drew)); exact HO_57.out))) bsz_); have n5_ := Aside0.mk (bst_ hb); clear HO_9; clear HO_11; clear HO_57; clear HO374; clear HB; have HO_9 := n0_; have HO_11 := n1_; have HO_57 := n2_; have HO374 := n3_; have HO377 := n4_; have HB := n5_; clear n0_ n1_ n2_ n3_ n4_ n5_; (try clear hb); (try clear hb2); (try clear hk); (try clear hi); (try clear ho0); obtain ⟨Ao54, co54, eo54⟩ := Kd.R_slice HO377.out; subst eo54; obtain ⟨Ao55, co55, eo55⟩ := Kd.R_slice HO_11.out; subst eo55) | (go_at_call 40; (with_reducible refine (stripe_Held.calls k2 _ _ l0 a1 t378 _ ?side1 ?side2 A36.out).mono ?_); (case side1 => repeat (first | exact (Kd.C_below HR0.out HB.out) | with_reducible first | refine Kd.C_alloc ?_ _ | refine Kd.C_drewN ?_ _ | refine Kd.C_drew ?_)); (case side2 => exact HC0.out); rintro e w56 ⟨v379, rfl, ho0, hb⟩; have n0_ := Aside0.mk (Kd.V_elder' (by (with_reducible repeat (first | apply Kd.V_alloc | apply Kd.V_drewN | apply Kd.V_drew)); exact HO_9.out) (Kd.R_base ho0) hb); have n1_ := Aside0.mk (Kd.R_elder' (by (with_reducible repeat (first | apply Kd.R_alloc | apply Kd.R_drewN | apply Kd.R_drew)); exact HO_11.out) (Kd.R_base ho0) hb); have n2_ := Aside0.mk (Kd.R_elder' (by (with_reducible repeat (first | apply Kd.R_alloc | apply Kd.R_drewN | apply Kd.R_drew)); exact HO_57.out) (Kd.R_base ho0) hb); have n3_ := Aside0.mk (Kd.R_below (by (with_reducible repeat (first | apply Kd.R_alloc | apply Kd.R_drewN | apply Kd.R_drew)); exact HO374.out) hb); have n4_ := Aside0.mk (Kd.R_elder' (by (with_reducible repeat (first | apply Kd.R_alloc | apply Kd.R_drewN | apply Kd.R_drew)); exact HO377.out) (Kd.R_base ho0) hb); have n5_ := Aside0.mk (Kd.R_lower (Kd.R_new' (Kd.R_new' (Kd.R_new' ho0 (Kd.R_lt (by (with_reducible repeat (first | apply Kd.R_alloc | apply Kd.R_drewN | apply Kd.R_drew)); exact HO_11.out))) (Kd.R_lt (by (with_reducible repeat (first | apply Kd.R_alloc | apply Kd.R_drewN | apply Kd.R_drew)); exact HO_57.out))) (Kd.R_lt (by (with_reducible repeat (first | apply Kd.R_alloc | apply Kd.R_drewN | apply Kd.R_drew)); exact HO377.out))) bsz_); have n6_ := Aside0.mk (bst_ hb); clear HO_9; clear HO_11; clear HO_57; clear HO374; clear HO377; clear HB; have HO_9 := n0_; have HO_11 := n1_; have HO_57 := n2_; have HO374 := n3_; have HO377 := n4_; have HO380 := n5_; have HB := n6_; clear n0_ n1_ n2_ n3_ n4_ n5_ n6_; (try clear hb); (try clear hb2); (try clear hk); (try clear hi); (try clear ho0); obtain ⟨Ao57, co57, eo57⟩ := Kd.R_slice HO380.out; subst eo57) | (go_at_call 40; (with_reducible refine (stripe_Held.calls k2 _ _ t358 a2 t381 _ ?side1 ?side2 A38.out).mono ?_); (case side1 => repeat (first | exact (Kd.V_reads' HO_9.out).2.2 | with_reducible first | refine Kd.C_alloc ?_ _ | refine Kd.C_drewN ?_ _ | refine Kd.C_drew ?_)); (case side2 => exact (Kd.V_reads' HO_9.out).2.1); rintro e w58 ⟨v382, rfl, ho0, hb⟩; have n0_ := Aside0.mk (Kd.V_elder' (by (with_reducible repeat (first | apply Kd.V_alloc | apply Kd.V_drewN | apply Kd.V_drew)); exact HO_9.out) (Kd.R_base ho0) hb); have n1_ := Aside0.mk (Kd.R_elder' (by (with_reducible repeat (first | apply Kd.R_alloc | apply Kd.R_drewN | apply Kd.R_drew)); exact HO_11.out) (Kd.R_base ho0) hb); have n2_ := Aside0.mk (Kd.R_elder' (by (with_reducible repeat (first | apply Kd.R_alloc | apply Kd.R_drewN | apply Kd.R_drew)); exact HO_57.out) (Kd.R_base ho0) hb); have n3_ := Aside0.mk (Kd.R_below (by (with_reducible repeat (first | apply Kd.R_alloc | apply Kd.R_drewN | apply Kd.R_drew)); exact HO374.out) hb); have n4_ := Aside0.mk (Kd.R_elder' (by (with_reducible repeat (first | apply Kd.R_alloc | apply Kd.R_drewN | apply Kd.R_drew)); exact HO377.out) (Kd.R_base ho0) hb); have n5_ := Aside0.mk (Kd.R_elder' (by (with_reducible repeat (first | apply Kd.R_alloc | apply Kd.R_drewN | apply Kd.R_drew)); exact HO380.out) (Kd.R_base ho0) hb); have n6_ := Aside0.mk (Kd.R_lower (Kd.R_new' (Kd.R_new' (Kd.R_new' (Kd.R_new' ho0 (Kd.R_lt (by (with_reducible repeat (first | apply Kd.R_alloc | apply Kd.R_drewN | apply Kd.R_drew)); exact HO_11.out))) (Kd.R_lt (by (with_reducible repeat (first | apply Kd.R_alloc | apply Kd.R_drewN | apply Kd.R_drew)); exact HO_57.out))) (Kd.R_lt (by (with_reducible repeat (first | apply Kd.R_alloc | apply Kd.R_drewN | apply Kd.R_drew)); exact HO377.out))) (Kd.R_lt (by (with_reducible repeat (first | apply Kd.R_alloc | apply Kd.R_drewN | apply Kd.R_drew)); exact HO380.out))) bsz_); have n7_ := Aside0.mk (bst_ hb); clear HO_9; clear HO_11; clear HO_57; clear HO374; clear HO377; clear HO380; clear HB; have HO_9 := n0_; have HO_11 := n1_; have HO_57 := n2_; have HO374 := n3_; have HO377 := n4_; have HO380 := n5_; have HO383 := n6_; have HB := n7_; clear n0_ n1_ n2_ n3_ n4_ n5_ n6_ n7_; (try clear hb); (try clear hb2); (try clear hk); (try clear hi); (try clear ho0)) | (go_at_call 40; (with_reducible refine (stripe_Held.calls k2 _ _ l0 a2 t384 _ ?side1 ?side2 A39.out).mono ?_); (case side1 => repeat (first | exact (Kd.C_below HR0.out HB.out) | with_reducible first | refine Kd.C_alloc ?_ _ | refine Kd.C_drewN ?_ _ | refine Kd.C_drew ?_)); (case side2 => exact HC0.out); rintro e w59 ⟨v385, rfl, ho0, hb⟩; have n0_ := Aside0.mk (Kd.V_elder' (by (with_reducible repeat (first | apply Kd.V_alloc | apply Kd.V_drewN | apply Kd.V_drew)); exact HO_9.out) (Kd.R_base ho0) hb); have n1_ := Aside0.mk (Kd.R_elder' (by (with_reducible repeat (first | apply Kd.R_alloc | apply Kd.R_drewN | apply Kd.R_drew)); exact HO_11.out) (Kd.R_base ho0) hb); have n2_ := Aside0.mk (Kd.R_elder' (by (with_reducible repeat (first | apply Kd.R_alloc | apply Kd.R_drewN | apply Kd.R_drew)); exact HO_57.out) (Kd.R_base ho0) hb); have n3_ := Aside0.mk (Kd.R_below (by (with_reducible repeat (first | apply Kd.R_alloc | apply Kd.R_drewN | apply Kd.R_drew)); exact HO374.out) hb); have n4_ := Aside0.mk (Kd.R_elder' (by (with_reducible repeat (first | apply Kd.R_alloc | apply Kd.R_drewN | apply Kd.R_drew)); exact HO377.out) (Kd.R_base ho0) hb); have n5_ := Aside0.mk (Kd.R_elder' (by (with_reducible repeat (first | apply Kd.R_alloc | apply Kd.R_drewN | apply Kd.R_drew)); exact HO380.out) (Kd.R_base ho0) hb); have n6_ := Aside0.mk (Kd.R_elder' (by (with_reducible repeat (first | apply Kd.R_alloc | apply Kd.R_drewN | apply Kd.R_drew)); exact HO383.out) (Kd.R_base ho0) hb); have n7_ := Aside0.mk (Kd.R_lower (Kd.R_new' (Kd.R_new' (Kd.R_new' (Kd.R_new' (Kd.R_new' ho0 (Kd.R_lt (by (with_reducible repeat (first | apply Kd.R_alloc | apply Kd.R_drewN | apply Kd.R_drew)); exact HO_11.out))) (Kd.R_lt (by (with_reducible repeat (first | apply Kd.R_alloc | apply Kd.R_drewN | apply Kd.R_drew)); exact HO_57.out))) (Kd.R_lt (by (with_reducible repeat (first | apply Kd.R_alloc | apply Kd.R_drewN | apply Kd.R_drew)); exact HO377.out))) (Kd.R_lt (by (with_reducible repeat (first | apply Kd.R_alloc | apply Kd.R_drewN | apply Kd.R_drew)); exact HO380.out))) (Kd.R_lt (by (with_reducible repeat (first | apply Kd.R_alloc | apply Kd.R_drewN | apply Kd.R_drew)); exact HO383.out))) bsz_); have n8_ := Aside0.mk (bst_ hb); clear HO_9; clear HO_11; clear HO_57; clear HO374; clear HO377; clear HO380; clear HO383; clear HB; have HO_9 := n0_; have HO_11 := n1_; have HO_57 := n2_; have HO374 := n3_; have HO377 := n4_; have HO380 := n5_; have HO383 := n6_; have HO386 := n7_; have HB := n8_; clear n0_ n1_ n2_ n3_ n4_ n5_ n6_ n7_ n8_; (try clear hb); (try clear hb2); (try clear hk); (try clear hi); (try clear ho0); obtain ⟨Ao60, co60, eo60⟩ := Kd.R_slice HO383.out; subst eo60; obtain ⟨Ao61, co61, eo61⟩ := Kd.R_slice HO386.out; subst eo61) | (go_at_call 24; (with_reducible refine (handshakerref03_Numbers.calls k2 _ _ t381 _ _ t384 true _ ?side1 ?side2 ?side3 ?side4 A40.out).mono ?_); (case side1 => repeat (first | exact (Kd.R_reads' HO383.out).2.2 | with_reducible first | refine Kd.C_alloc ?_ _ | refine Kd.C_drewN ?_ _ | refine Kd.C_drew ?_)); (case side2 => exact (Kd.R_reads' HO383.out).2.1); (case side3 => repeat (first | exact (Kd.R_reads' HO386.out).2.2 | with_reducible first | refine Kd.C_alloc ?_ _ | refine Kd.C_drewN ?_ _ | refine Kd.C_drew ?_)); (case side4 => exact (Kd.R_reads' HO386.out).2.1); rintro e w' ⟨rfl, ⟨nd, rfl⟩⟩) | (go_at_call 40; (with_reducible refine (stripe_Held.calls k2 _ _ t372 a2 t388 _ ?side1 ?side2 A42.out).mono ?_); (case side1 => repeat (first | exact (Kd.R_reads' HO374.out).2.2 | with_reducible first | refine Kd.C_alloc ?_ _ | refine Kd.C_drewN ?_ _ | refine Kd.C_drew ?_)); (case side2 => exact (Kd.R_reads' HO374.out).2.1); rintro e w62 ⟨v389, rfl, ho0, hb⟩; have n0_ := Aside0.mk (Kd.V_elder' (by (with_reducible repeat (first | apply Kd.V_alloc | apply Kd.V_drewN | apply Kd.V_drew)); exact HO_9.out) (Kd.R_base ho0) hb); have n1_ := Aside0.mk (Kd.R_elder' (by (with_reducible repeat (first | apply Kd.R_alloc | apply Kd.R_drewN | apply Kd.R_drew)); exact HO_11.out) (Kd.R_base ho0) hb); have n2_ := Aside0.mk (Kd.R_elder' (by (with_reducible repeat (first | apply Kd.R_alloc | apply Kd.R_drewN | apply Kd.R_drew)); exact HO_57.out) (Kd.R_base ho0) hb); have n3_ := Aside0.mk (Kd.R_below (by (with_reducible repeat (first | apply Kd.R_alloc | apply Kd.R_drewN | apply Kd.R_drew)); exact HO374.out) hb); have n4_ := Aside0.mk (Kd.R_elder' (by (with_reducible repeat (first | apply Kd.R_alloc | apply Kd.R_drewN | apply Kd.R_drew)); exact HO377.out) (Kd.R_base ho0) hb); have n5_ := Aside0.mk (Kd.R_elder' (by (with_reducible repeat (first | apply Kd.R_alloc | apply Kd.R_drewN | apply Kd.R_drew)); exact HO380.out) (Kd.R_base ho0) hb); have n6_ := Aside0.mk (Kd.R_elder' (by (with_reducible repeat (first | apply Kd.R_alloc | apply Kd.R_drewN | apply Kd.R_drew)); exact HO383.out) (Kd.R_base ho0) hb); have n7_ := Aside0.mk (Kd.R_elder' (by (with_reducible repeat (first | apply Kd.R_alloc | apply Kd.R_drewN | apply Kd.R_drew)); exact HO386.out) (Kd.R_base ho0) hb); have n8_ := Aside0.mk (Kd.R_lower (Kd.R_new' (Kd.R_new' (Kd.R_new' (Kd.R_new' (Kd.R_new' (Kd.R_new' ho0 (Kd.R_lt (by (with_reducible repeat (first | apply Kd.R_alloc | apply Kd.R_drewN | apply Kd.R_drew)); exact HO_11.out))) (Kd.R_lt (by (with_reducible repeat (first | apply Kd.R_alloc | apply Kd.R_drewN | apply Kd.R_drew)); exact HO_57.out))) (Kd.R_lt (by (with_reducible repeat (first | apply Kd.R_alloc | apply Kd.R_drewN | apply Kd.R_drew)); exact HO377.out))) (Kd.R_lt (by (with_reducible repeat (first | apply Kd.R_alloc | apply Kd.R_drewN | apply Kd.R_drew)); exact HO380.out))) (Kd.R_lt (by (with_reducible repeat (first | apply Kd.R_alloc | apply Kd.R_drewN | apply Kd.R_drew)); exact HO383.out))) (Kd.R_lt (by (with_reducible repeat (first | apply Kd.R_alloc | apply Kd.R_drewN | apply Kd.R_drew)); exact HO386.out))) bsz_); have n9_ := Aside0.mk (bst_ hb); clear HO_9; clear HO_11; clear HO_57; clear HO374; clear HO377; clear HO380; clear HO383; clear HO386; clear HB; have HO_9 := n0_; have HO_11 := n1_; have HO_57 := n2_; have HO374 := n3_; have HO377 := n4_; have HO380 := n5_; have HO383 := n6_; have HO386 := n7_; have HO390 := n8_; have HB := n9_; clear n0_ n1_ n2_ n3_ n4_ n5_ n6_ n7_ n8_ n9_; (try clear hb); (try clear hb2); (try clear hk); (try clear hi); (try clear ho0)) | (go_at_call 40; (with_reducible refine (stripe_Held.calls k2 _ _ l0 a2 t391 _ ?side1 ?side2 A43.out).mono ?_); (case side1 => repeat (first | exact (Kd.C_below HR0.out HB.out) | with_reducible first | refine Kd.C_alloc ?_ _ | refine Kd.C_drewN ?_ _ | refine Kd.C_drew ?_)); (case side2 => exact HC0.out); rintro e w63 ⟨v392, rfl, ho0, hb⟩; have n0_ := Aside0.mk (Kd.V_elder' (by (with_reducible repeat (first | apply Kd.V_alloc | apply Kd.V_drewN | apply Kd.V_drew)); exact HO_9.out) (Kd.R_base ho0) hb); have n1_ := Aside0.mk (Kd.R_elder' (by (with_reducible repeat (first | apply Kd.R_alloc | apply Kd.R_drewN | apply Kd.R_drew)); exact HO_11.out) (Kd.R_base ho0) hb); have n2_ := Aside0.mk (Kd.R_elder' (by (with_reducible repeat (first | apply Kd.R_alloc | apply Kd.R_drewN | apply Kd.R_drew)); exact HO_57.out) (Kd.R_base ho0) hb); have n3_ := Aside0.mk (Kd.R_below (by (with_reducible repeat (first | apply Kd.R_alloc | apply Kd.R_drewN | apply Kd.R_drew)); exact HO374.out) hb); have n4_ := Aside0.mk (Kd.R_elder' (by (with_reducible repeat (first | apply Kd.R_alloc | apply Kd.R_drewN | apply Kd.R_drew)); exact HO377.out) (Kd.R_base ho0) hb); have n5_ := Aside0.mk (Kd.R_elder' (by (with_reducible repeat (first | apply Kd.R_alloc | apply Kd.R_drewN | apply Kd.R_drew)); exact HO380.out) (Kd.R_base ho0) hb); have n6_ := Aside0.mk (Kd.R_elder' (by (with_reducible repeat (first | apply Kd.R_alloc | apply Kd.R_drewN | apply Kd.R_drew)); exact HO383.out) (Kd.R_base ho0) hb); have n7_ := Aside0.mk (Kd.R_elder' (by (with_reducible repeat (first | apply Kd.R_alloc | apply Kd.R_drewN | apply Kd.R_drew)); exact HO386.out) (Kd.R_base ho0) hb); have n8_ := Aside0.mk (Kd.R_elder' (by (with_reducible repeat (first | apply Kd.R_alloc | apply Kd.R_drewN | apply Kd.R_drew)); exact HO390.out) (Kd.R_base ho0) hb); have n9_ := Aside0.mk (Kd.R_lower (Kd.R_new' (Kd.R_new' (Kd.R_new' (Kd.R_new' (Kd.R_new' (Kd.R_new' (Kd.R_new' ho0 (Kd.R_lt (by (with_reducible repeat (first | apply Kd.R_alloc | apply Kd.R_drewN | apply Kd.R_drew)); exact HO_11.out))) (Kd.R_lt (by (with_reducible repeat (first | apply Kd.R_alloc | apply Kd.R_drewN | apply Kd.R_drew)); exact HO_57.out))) (Kd.R_lt (by (with_reducible repeat (first | apply Kd.R_alloc | apply Kd.R_drewN | apply Kd.R_drew)); exact HO377.out))) (Kd.R_lt (by (with_reducible repeat (first | apply Kd.R_alloc | apply Kd.R_drewN | apply Kd.R_drew)); exact HO380.out))) (Kd.R_lt (by (with_reducible repeat (first | apply Kd.R_alloc | apply Kd.R_drewN | apply Kd.R_drew)); exact HO383.out))) (Kd.R_lt (by (with_reducible repeat (first | apply Kd.R_alloc | apply Kd.R_drewN | apply Kd.R_drew)); exact HO386.out))) (Kd.R_lt (by (with_reducible repeat (first | apply Kd.R_alloc | apply Kd.R_drewN | apply Kd.R_drew)); exact HO390.out))) bsz_); have n10_ := Aside0.mk (bst_ hb); clear HO_9; clear HO_11; clear HO_57; clear HO374; clear HO377; clear HO380; clear HO383; clear HO386; clear HO390; clear HB; have HO_9 := n0_; have HO_11 := n1_; have HO_57 := n2_; have HO374 := n3_; have HO377 := n4_; have HO380 := n5_; have HO383 := n6_; have HO386 := n7_; have HO390 := n8_; have HO393 := n9_; have HB := n10_; clear n0_ n1_ n2_ n3_ n4_ n5_ n6_ n7_ n8_ n9_ n10_; (try clear hb); (try clear hb2); (try clear hk); (try clear hi); (try clear ho0); obtain ⟨Ao64, co64, eo64⟩ := Kd.R_slice HO390.out; subst eo64; obtain ⟨Ao65, co65, eo65⟩ := Kd.R_slice HO393.out; subst eo65) | (go_at_call 24; (with_reducible refine (handshakerref03_Numbers.calls k2 _ _ t388 _ _ t391 true _ ?side1 ?side2 ?side3 ?side4 A44.out).mono ?_); (case side1 => repeat (first | exact (Kd.R_reads' HO390.out).2.2 | with_reducible first | refine Kd.C_alloc ?_ _ | refine Kd.C_drewN ?_ _ | refine Kd.C_drew ?_)); (case side2 => exact (Kd.R_reads' HO390.out).2.1); (case side3 => repeat (first | exact (Kd.R_reads' HO393.out).2.2 | with_reducible first | refine Kd.C_alloc ?_ _ | refine Kd.C_drewN ?_ _ | refine Kd.C_drew ?_)); (case side4 => exact (Kd.R_reads' HO393.out).2.1); rintro e w' ⟨rfl, ⟨nd, rfl⟩⟩) | (go_at_call 37; (with_reducible refine (stripe_Right.calls _ _ t358 true _ ?side1 ?side2 A46.out).mono ?_); (case side1 => repeat (first | exact (Kd.V_reads' HO_9.out).2.2 | with_reducible first | refine Kd.C_alloc ?_ _ | refine Kd.C_drewN ?_ _ | refine Kd.C_drew ?_)); (case side2 => exact (Kd.V_reads' HO_9.out).2.1); rintro e w66 ⟨rfl, hb⟩; have n0_ := Aside0.mk (Kd.V_below (by (with_reducible repeat (first | apply Kd.V_alloc | apply Kd.V_drewN | apply Kd.V_drew)); exact HO_9.out) hb); have n1_ := Aside0.mk (Kd.R_below (by (with_reducible repeat (first | apply Kd.R_alloc | apply Kd.R_drewN | apply Kd.R_drew)); exact HO_11.out) hb); have n2_ := Aside0.mk (Kd.R_below (by (with_reducible repeat (first | apply Kd.R_alloc | apply Kd.R_drewN | apply Kd.R_drew)); exact HO_57.out) hb); have n3_ := Aside0.mk (Kd.R_below (by (with_reducible repeat (first | apply Kd.R_alloc | apply Kd.R_drewN | apply Kd.R_drew)); exact HO374.out) hb); have n4_ := Aside0.mk (Kd.R_below (by (with_reducible repeat (first | apply Kd.R_alloc | apply Kd.R_drewN | apply Kd.R_drew)); exact HO377.out) hb); have n5_ := Aside0.mk (Kd.R_below (by (with_reducible repeat (first | apply Kd.R_alloc | apply Kd.R_drewN | apply Kd.R_drew)); exact HO380.out) hb); have n6_ := Aside0.mk (Kd.R_below (by (with_reducible repeat (first | apply Kd.R_alloc | apply Kd.R_drewN | apply Kd.R_drew)); exact HO383.out) hb); have n7_ := Aside0.mk (Kd.R_below (by (with_reducible repeat (first | apply Kd.R_alloc | apply Kd.R_drewN | apply Kd.R_drew)); exact HO386.out) hb); have n8_ := Aside0.mk (Kd.R_below (by (with_reducible repeat (first | apply Kd.R_alloc | apply Kd.R_drewN | apply Kd.R_drew)); exact HO390.out) hb); have n9_ := Aside0.mk (Kd.R_below (by (with_reducible repeat (first | apply Kd.R_alloc | apply Kd.R_drewN | apply Kd.R_drew)); exact HO393.out) hb); have n10_ := Aside0.mk (bst_ hb); clear HO_9; clear HO_11; clear HO_57; clear HO374; clear HO377; clear HO380; clear HO383; clear HO386; clear HO390; clear HO393; clear HB; have HO_9 := n0_; have HO_11 := n1_; have HO_57 := n2_; have HO374 := n3_; have HO377 := n4_; have HO380 := n5_; have HO383 := n6_; have HO386 := n7_; have HO390 := n8_; have HO393 := n9_; have HB := n10_; clear n0_ n1_ n2_ n3_ n4_ n5_ n6_ n7_ n8_ n9_ n10_; (try clear hb); (try clear hb2); (try clear hk); (try clear hi)) | (go_at_call 37; (with_reducible refine (stripe_Right.calls _ _ t372 true _ ?side1 ?side2 A48.out).mono ?_); (case side1 => repeat (first | exact (Kd.R_reads' HO374.out).2.2 | with_reducible first | refine Kd.C_alloc ?_ _ | refine Kd.C_drewN ?_ _ | refine Kd.C_drew ?_)); (case side2 => exact (Kd.R_reads' HO374.out).2.1); rintro e w67 ⟨rfl, hb⟩; have n0_ := Aside0.mk (Kd.V_below (by (with_reducible repeat (first | apply Kd.V_alloc | apply Kd.V_drewN | apply Kd.V_drew)); exact HO_9.out) hb); have n1_ := Aside0.mk (Kd.R_below (by (with_reducible repeat (first | apply Kd.R_alloc | apply Kd.R_drewN | apply Kd.R_drew)); exact HO_11.out) hb); have n2_ := Aside0.mk (Kd.R_below (by (with_reducible repeat (first | apply Kd.R_alloc | apply Kd.R_drewN | apply Kd.R_drew)); exact HO_57.out) hb); have n3_ := Aside0.mk (Kd.R_below (by (with_reducible repeat (first | apply Kd.R_alloc | apply Kd.R_drewN | apply Kd.R_drew)); exact HO374.out) hb); have n4_ := Aside0.mk (Kd.R_below (by (with_reducible repeat (first | apply Kd.R_alloc | apply Kd.R_drewN | apply Kd.R_drew)); exact HO377.out) hb); have n5_ := Aside0.mk (Kd.R_below (by (with_reducible repeat (first | apply Kd.R_alloc | apply Kd.R_drewN | apply Kd.R_drew)); exact HO380.out) hb); have n6_ := Aside0.mk (Kd.R_below (by (with_reducible repeat (first | apply Kd.R_alloc | apply Kd.R_drewN | apply Kd.R_drew)); exact HO383.out) hb); have n7_ := Aside0.mk (Kd.R_below (by (with_reducible repeat (first | apply Kd.R_alloc | apply Kd.R_drewN | apply Kd.R_drew)); exact HO386.out) hb); have n8_ := Aside0.mk (Kd.R_below (by (with_reducible repeat (first | apply Kd.R_alloc | apply Kd.R_drewN | apply Kd.R_drew)); exact HO390.out) hb); have n9_ := Aside0.mk (Kd.R_below (by (with_reducible repeat (first | apply Kd.R_alloc | apply Kd.R_drewN | apply Kd.R_drew)); exact HO393.out) hb); have n10_ := Aside0.mk (bst_ hb); clear HO_9; clear HO_11; clear HO_57; clear HO374; clear HO377; clear HO380; clear HO383; clear HO386; clear HO390; clear HO393; clear HB; have HO_9 := n0_; have HO_11 := n1_; have HO_57 := n2_; have HO374 := n3_; have HO377 := n4_; have HO380 := n5_; have HO383 := n6_; have HO386 := n7_; have HO390 := n8_; have HO393 := n9_; have HB := n10_; clear n0_ n1_ n2_ n3_ n4_ n5_ n6_ n7_ n8_ n9_ n10_; (try clear hb); (try clear hb2); (try clear hk); (try clear hi)) | (go_at_call 33; (with_reducible refine (handshakerlaw03_awake.calls k2  t397 _ A50.out).mono ?_); rintro e w68 ⟨rfl, hb⟩; have n0_ := Aside0.mk (Kd.V_below (by (with_reducible repeat (first | apply Kd.V_alloc | apply Kd.V_drewN | apply Kd.V_drew)); exact HO_9.out) hb); have n1_ := Aside0.mk (Kd.R_below (by (with_reducible repeat (first | apply Kd.R_alloc | apply Kd.R_drewN | apply Kd.R_drew)); exact HO_11.out) hb); have n2_ := Aside0.mk (Kd.R_below (by (with_reducible repeat (first | apply Kd.R_alloc | apply Kd.R_drewN | apply Kd.R_drew)); exact HO_57.out) hb); have n3_ := Aside0.mk (Kd.R_below (by (with_reducible repeat (first | apply Kd.R_alloc | apply Kd.R_drewN | apply Kd.R_drew)); exact HO374.out) hb); have n4_ := Aside0.mk (Kd.R_below (by (with_reducible repeat (first | apply Kd.R_alloc | apply Kd.R_drewN | apply Kd.R_drew)); exact HO377.out) hb); have n5_ := Aside0.mk (Kd.R_below (by (with_reducible repeat (first | apply Kd.R_alloc | apply Kd.R_drewN | apply Kd.R_drew)); exact HO380.out) hb); have n6_ := Aside0.mk (Kd.R_below (by (with_reducible repeat (first | apply Kd.R_alloc | apply Kd.R_drewN | apply Kd.R_drew)); exact HO383.out) hb); have n7_ := Aside0.mk (Kd.R_below (by (with_reducible repeat (first | apply Kd.R_alloc | apply Kd.R_drewN | apply Kd.R_drew)); exact HO386.out) hb); have n8_ := Aside0.mk (Kd.R_below (by (with_reducible repeat (first | apply Kd.R_alloc | apply Kd.R_drewN | apply Kd.R_drew)); exact HO390.out) hb); have n9_ := Aside0.mk (Kd.R_below (by (with_reducible repeat (first | apply Kd.R_alloc | apply Kd.R_drewN | apply Kd.R_drew)); exact HO393.out) hb); have n10_ := Aside0.mk (bst_ hb); clear HO_9; clear HO_11; clear HO_57; clear HO374; clear HO377; clear HO380; clear HO383; clear HO386; clear HO390; clear HO393; clear HB; have HO_9 := n0_; have HO_11 := n1_; have HO_57 := n2_; have HO374 := n3_; have HO377 := n4_; have HO380 := n5_; have HO383 := n6_; have HO386 := n7_; have HO390 := n8_; have HO393 := n9_; have HB := n10_; clear n0_ n1_ n2_ n3_ n4_ n5_ n6_ n7_ n8_ n9_ n10_; (try clear hb); (try clear hb2); (try clear hk); (try clear hi)))
                       go_ret
                       exact ⟨by first | rfl | (simp [errW_none, errW_some] <;> rfl) | (simp [*, errW_none, errW_some] <;> rfl), by repeat (with_reducible first | exact HB.out | apply below_alloc | apply pw_below_drewN | apply below_drew1)⟩
                     · replace c49 := Bool.eq_false_iff.mpr c49
                       subst c49
                       have H1 : (some false) = some r := by rw [if_neg (show ¬ (false = true) by decide)] at H; exact H
                       clear H
                       have H := H1
                       clear H1
                       exact absurd (Option.some.inj H) (by rw [HT.out]; decide)
                   · replace c47 := Bool.eq_false_iff.mpr c47
                     subst c47
                     have H1 : (some false) = some r := by rw [if_neg (show ¬ (false = true) by decide)] at H; exact H
                     clear H
                     have H := H1
                     clear H1
                     exact absurd (Option.some.inj H) (by rw [HT.out]; decide)
                 · replace c45 := Bool.eq_false_iff.mpr c45
                   subst c45
                   have H1 : (some false) = some r := by rw [if_neg (show ¬ (false = true) by decide)] at H; exact H
                   clear H
                   have H := H1
                   clear H1
                   exact absurd (Option.some.inj H) (by rw [HT.out]; decide)
               · replace c41 := Bool.eq_false_iff.mpr c41
                 subst c41
                 have H1 : (some false) = some r := by rw [if_neg (show ¬ (false = true) by decide)] at H; exact H
                 clear H
                 have H := H1
                 clear H1
                 exact absurd (Option.some.inj H) (by rw [HT.out]; decide)
             · rw [if_neg c37] at H
               have c37b0 : decide ((t378.length : Int) ≤ (t364.length : Int)) = false := decide_eq_false c37
               have c37b1 : decide (t378.length ≤ t364.length) = false := decide_eq_false (fun h => c37 (Int.ofNat_le.mpr h))
               clear c37
               exact absurd (Option.some.inj H) (by rw [HT.out]; decide)
           · rw [if_neg c35] at H
             have c35b0 : ((t375.length : Int) == 0) = false := beq_eq_false_iff_ne.mpr c35
             have c35b1 : ((t375.length : Int) != 0) = true := bne_iff_ne.mpr c35
             have c35b2 : ¬ (t375 = []) := fun h_ => c35 (by rw [h_]; rfl)
             exact absurd (Option.some.inj H) (by rw [HT.out]; decide)
     · rw [if_neg c16] at H
       have c16b0 : (t361 == 0) = false := beq_eq_false_iff_ne.mpr c16
       have c16b1 : (t361 != 0) = true := bne_iff_ne.mpr c16
       replace H := Option.bind_eq_some_iff.mp H
       obtain ⟨t362, A690, H⟩ := H
       replace H : (if t362 = true then ((handshakerlaw03_awake.f kj4).bind fun t363 => (some t363)) else (some false)) = some r := H
       have A69 := Aside0.mk A690
       clear A690
       by_cases c70 : t362 = true
       · subst c70
         have H1 : ((handshakerlaw03_awake.f kj4).bind fun t363 => (some t363)) = some r := by rw [if_pos rfl] at H; exact H
         clear H
         have H := H1
         clear H1
         replace H := Option.bind_eq_some_iff.mp H
         obtain ⟨t363, A710, H⟩ := H
         replace H : (some t363) = some r := H
         have A71 := Aside0.mk A710
         clear A710
         obtain rfl := Option.some.inj H
         go_wp2_with (first | ((with_reducible refine gate_callee (f := 30) rfl ?_); refine goesL_ (some 41) rfl rfl Try.func30 (by kernel_rfl) rfl #[.slice A0 l0.length c0, .int .i64 a1, .slice A3 l3.length c3] rfl (by (try simp only [List.map_toArray, List.map_cons, List.map_nil]); first | done | rfl) ?_; (with_reducible refine (stripe_Lock.calls kj4 (fun k_ => k_ < w.heap.size) _ _ l0 a1 _ _ l3 t358 t361 _ ?side1 ?side2 ?side3 A15.out).mono ?_); (case side1 => exact Kd.V_mk HC0.out (Kd.F_below (Kd.C_F k67_heap HR0.out) (by repeat (with_reducible first | exact HB.out | apply below_alloc | apply pw_below_drewN | apply below_drew1)))); (case side2 => repeat (first | exact (Kd.C_below HR3.out HB.out) | with_reducible first | refine Kd.C_alloc ?_ _ | refine Kd.C_drewN ?_ _ | refine Kd.C_drew ?_)); (case side3 => exact HC3.out); rintro e w72 ⟨v359, rfl, ho0, hb⟩; refine ⟨_, rfl, ?_⟩; have n0_ := Aside0.mk (Kd.V_lower (Kd.V_mono (ok' := fun k_ => True) ho0 (fun k_ hk_ => trivial)) bsz_); have n1_ := Aside0.mk (bst_ hb); clear HB; have HO360 := n0_; have HB := n1_; clear n0_ n1_; (try clear hb); (try clear hb2); (try clear hk); (try clear hi); (try clear ho0); obtain ⟨Ao73, co73, eo73⟩ := Kd.V_slice HO360.out; subst eo73) | ((with_reducible refine gate_callee (f := 42) rfl ?_); refine goesL_ (some 48) rfl rfl Try.func42 (by kernel_rfl) rfl #[.slice Ao73 t358.length co73, .slice A0 l0.length c0] rfl (by (try simp only [List.map_toArray, List.map_cons, List.map_nil]); first | done | rfl) ?_; (with_reducible refine (handshakerref03_Same.calls kj4 _ _ t358 _ _ l0 true _ ?side1 ?side2 ?side3 ?side4 A69.out).mono ?_); (case side1 => repeat (first | exact (Kd.V_reads' HO360.out).2.2 | with_reducible first | refine Kd.C_alloc ?_ _ | refine Kd.C_drewN ?_ _ | refine Kd.C_drew ?_)); (case side2 => exact (Kd.V_reads' HO360.out).2.1); (case side3 => repeat (first | exact (Kd.C_below HR0.out HB.out) | with_reducible first | refine Kd.C_alloc ?_ _ | refine Kd.C_drewN ?_ _ | refine Kd.C_drew ?_)); (case side4 => exact HC0.out); rintro e w' ⟨rfl, ⟨nd, rfl⟩⟩; refine ⟨_, rfl, ?_⟩) | (go_at_call 33; (with_reducible refine (handshakerlaw03_awake.calls kj4  t363 _ A71.out).mono ?_); rintro e w74 ⟨rfl, hb⟩; have n0_ := Aside0.mk (Kd.V_below (by (with_reducible repeat (first | apply Kd.V_alloc | apply Kd.V_drewN | apply Kd.V_drew)); exact HO360.out) hb); have n1_ := Aside0.mk (bst_ hb); clear HO360; clear HB; have HO360 := n0_; have HB := n1_; clear n0_ n1_; (try clear hb); (try clear hb2); (try clear hk); (try clear hi)))
         go_ret
         exact ⟨by first | rfl | (simp [errW_none, errW_some] <;> rfl) | (simp [*, errW_none, errW_some] <;> rfl), by repeat (with_reducible first | exact HB.out | apply below_alloc | apply pw_below_drewN | apply below_drew1)⟩
       · replace c70 := Bool.eq_false_iff.mpr c70
         subst c70
         have H1 : (some false) = some r := by rw [if_neg (show ¬ (false = true) by decide)] at H; exact H
         clear H
         have H := H1
         clear H1
         exact absurd (Option.some.inj H) (by rw [HT.out]; decide)

/-- THE ONE PURE STATEMENT of handshakerlaw03_StripeHolds. -/
def handshakerlaw03_StripeHolds.Pure : Prop := ∀ (l0 : List (S67)) (a1 : Int) (a2 : Int) (l3 : List Int), l0.length ≤ maxLen → l0.length * 16 ≤ 140737488351232 → (∀ y ∈ l0, wfS67 y) → (Lit.int .i64 a1).wf = true → (Lit.int .i64 a2).wf = true → l3.length ≤ maxLen → l3.length * 8 ≤ 140737488351232 → (∀ y ∈ l3, (Lit.int .i64 y).wf = true) → ∃ k, handshakerlaw03_StripeHolds.f k l0 a1 a2 l3 = some true

end Go.Proofs.Ytlfmobnmohnjmaa.T
