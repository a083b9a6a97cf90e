-- PRINTED by print.py (a twelfth state) out of the translation. Not trusted: Lean checks it.
import Derived.Test.YtlfmobnmohnjmaaTx0
import Derived.Test.YtlfmobnmohnjmaaTx2
import Derived.Test.YtlfmobnmohnjmaaTx3
import Derived.Test.YtlfmobnmohnjmaaTx4
import Derived.Test.YtlfmobnmohnjmaaTx7
namespace Go.Proofs.Ytlfmobnmohnjmaa.T
open Go.Proofs.Ytlfmobnmohnjmaa.Ho
open Go.RowKit Go.Proofs.YtlfmobnmohnjmaaW.PrintWords Go.Proofs.YtlfmobnmohnjmaaW.PrintLast Go.Proofs.YtlfmobnmohnjmaaW.PrintMore
attribute [local go_sem] max2_int min2_int max_two min_two max_three min_three max_four min_four   -- for this text's walks alone
set_option linter.unusedVariables false
set_option linter.unusedSimpArgs false

/-! ### handshakerlaw03_StripeAgain: function 14 -/
mutual
def handshakerlaw03_StripeAgain.j0 : Nat → List (S67) → Int → List Int → List Int → Bool → Option (Bool)
 | 0, _, _, _, _, _ => none
 | k + 1, x0, x1, x2, x3, x35 => if x35 = true then ((handshakerlaw03_awake.f k).bind fun t510 => (some t510)) else ((stripe_Lock.f k x0 x1 x2).bind fun bt511 => ((stripe_Lock.f k bt511.1 x1 x3).bind fun bt515 => ((some (([] : List Int) : List Int)).bind fun y519 => (if y519.length + x2.length < 17592186044416 then ((some (y519 ++ x2 : List Int)).bind fun y522 => (if y522.length + x3.length < 17592186044416 then ((stripe_Lock.f k x0 x1 (y522 ++ x3)).bind fun bt528 => (if bt511.2 = 0 then (if bt528.2 = 0 then (if bt515.2 = 0 then ((handshakerref03_Same.f k bt515.1 bt528.1).bind fun t532 => (handshakerlaw03_StripeAgain.j1 k x1 x2 bt511.1 bt511.2 (!t532))) else (handshakerlaw03_StripeAgain.j1 k x1 x2 bt511.1 bt511.2 true)) else (if bt515.2 = 0 then (handshakerlaw03_StripeAgain.j1 k x1 x2 bt511.1 bt511.2 true) else (handshakerlaw03_StripeAgain.j1 k x1 x2 bt511.1 bt511.2 false))) else (if bt528.2 = 0 then (handshakerlaw03_StripeAgain.j1 k x1 x2 bt511.1 bt511.2 true) else (handshakerlaw03_StripeAgain.j1 k x1 x2 bt511.1 bt511.2 false)))) else (none))) else (none)))))
def handshakerlaw03_StripeAgain.j1 : Nat → Int → List Int → List (S67) → Int → Bool → Option (Bool)
 | 0, _, _, _, _, _ => none
 | k + 1, x1, x2, x9, x10, x80 => if x80 = true then (some false) else ((stripe_Lock.f k x9 x1 x2).bind fun bt533 => ((stripe_Let.f k x9 x1).bind fun t537 => (if x10 = 0 then (if bt533.2 = 0 then ((handshakerref03_Same.f k bt533.1 x9).bind fun t540 => (if t540 = true then ((stripe_Let.f k t537 x1).bind fun t541 => ((handshakerref03_Same.f k t541 t537).bind fun t544 => (if t544 = true then ((handshakerlaw03_awake.f k).bind fun t545 => (some t545)) else (some false)))) else (some false))) else (some false)) else ((stripe_Let.f k t537 x1).bind fun t546 => ((handshakerref03_Same.f k t546 t537).bind fun t549 => (if t549 = true then ((handshakerlaw03_awake.f k).bind fun t550 => (some t550)) else (some false)))))))
end
def handshakerlaw03_StripeAgain.f (k : Nat) (l0 : List (S67)) (a1 : Int) (l2 : List Int) (l3 : List Int) : Option (Bool) := if (l0.length : Int) > 16 then (handshakerlaw03_StripeAgain.j0 k l0 a1 l2 l3 true) else (if (l2.length : Int) > 30 then (handshakerlaw03_StripeAgain.j0 k l0 a1 l2 l3 true) else (if (l3.length : Int) > 30 then (handshakerlaw03_StripeAgain.j0 k l0 a1 l2 l3 true) else ((stripe_Right.f l0).bind fun t509 => (handshakerlaw03_StripeAgain.j0 k l0 a1 l2 l3 (!t509)))))
theorem handshakerlaw03_StripeAgain.mono_l : ∀ k, (∀ y0 y1 y2 y3 y4, LeO (handshakerlaw03_StripeAgain.j0 k y0 y1 y2 y3 y4) (handshakerlaw03_StripeAgain.j0 (k + 1) y0 y1 y2 y3 y4)) ∧ (∀ y0 y1 y2 y3 y4, LeO (handshakerlaw03_StripeAgain.j1 k y0 y1 y2 y3 y4) (handshakerlaw03_StripeAgain.j1 (k + 1) y0 y1 y2 y3 y4))
 | 0 => ⟨fun _ _ _ _ _ r h => by simp [handshakerlaw03_StripeAgain.j0] at h, fun _ _ _ _ _ r h => by simp [handshakerlaw03_StripeAgain.j1] at h⟩
 | k + 1 => by
  obtain ⟨ih0, ih1⟩ := handshakerlaw03_StripeAgain.mono_l k
  refine ⟨?_, ?_⟩
  · intro y0 y1 y2 y3 y4
    unfold handshakerlaw03_StripeAgain.j0
    repeat' first
    | (with_reducible exact ih0 _ _ _ _ _)
    | (with_reducible exact ih1 _ _ _ _ _)
    | (with_reducible exact handshakerlaw03_awake.mono _)
    | (with_reducible exact handshakerref03_Same.mono _ _ _)
    | (with_reducible exact stripe_Let.mono _ _ _)
    | (with_reducible exact stripe_Lock.mono _ _ _ _)
    | (with_reducible exact LeO.refl _)
    | (with_reducible exact LeO.none _)
    | (with_reducible refine LeO.ite ?_ ?_)
    | (with_reducible refine LeO.bind ?_ (fun _ => ?_))
    | exact ih0 _ _ _ _ _
    | exact ih1 _ _ _ _ _
    | exact handshakerlaw03_awake.mono _
    | exact handshakerref03_Same.mono _ _ _
    | exact stripe_Let.mono _ _ _
    | exact stripe_Lock.mono _ _ _ _
    | exact LeO.none _
    | refine LeO.ite ?_ ?_
    | refine LeO.bind ?_ (fun _ => ?_)
  · intro y0 y1 y2 y3 y4
    unfold handshakerlaw03_StripeAgain.j1
    repeat' first
    | (with_reducible exact ih0 _ _ _ _ _)
    | (with_reducible exact ih1 _ _ _ _ _)
    | (with_reducible exact handshakerlaw03_awake.mono _)
    | (with_reducible exact handshakerref03_Same.mono _ _ _)
    | (with_reducible exact stripe_Let.mono _ _ _)
    | (with_reducible exact stripe_Lock.mono _ _ _ _)
    | (with_reducible exact LeO.refl _)
    | (with_reducible exact LeO.none _)
    | (with_reducible refine LeO.ite ?_ ?_)
    | (with_reducible refine LeO.bind ?_ (fun _ => ?_))
    | exact ih0 _ _ _ _ _
    | exact ih1 _ _ _ _ _
    | exact handshakerlaw03_awake.mono _
    | exact handshakerref03_Same.mono _ _ _
    | exact stripe_Let.mono _ _ _
    | exact stripe_Lock.mono _ _ _ _
    | exact LeO.none _
    | refine LeO.ite ?_ ?_
    | refine LeO.bind ?_ (fun _ => ?_)
theorem handshakerlaw03_StripeAgain.mono : ∀ a0 a1 a2 a3 k, LeO (handshakerlaw03_StripeAgain.f k a0 a1 a2 a3) (handshakerlaw03_StripeAgain.f (k + 1) a0 a1 a2 a3) := by
 intro a0 a1 a2 a3 k
 obtain ⟨ih0, ih1⟩ := handshakerlaw03_StripeAgain.mono_l k
 unfold handshakerlaw03_StripeAgain.f
 repeat' first
  | (with_reducible exact ih0 _ _ _ _ _)
  | (with_reducible exact ih1 _ _ _ _ _)
  | (with_reducible exact handshakerlaw03_awake.mono _)
  | (with_reducible exact handshakerref03_Same.mono _ _ _)
  | (with_reducible exact stripe_Let.mono _ _ _)
  | (with_reducible exact stripe_Lock.mono _ _ _ _)
  | (with_reducible exact LeO.refl _)
  | (with_reducible exact LeO.none _)
  | (with_reducible refine LeO.ite ?_ ?_)
  | (with_reducible refine LeO.bind ?_ (fun _ => ?_))
  | exact ih0 _ _ _ _ _
  | exact ih1 _ _ _ _ _
  | exact handshakerlaw03_awake.mono _
  | exact handshakerref03_Same.mono _ _ _
  | exact stripe_Let.mono _ _ _
  | exact stripe_Lock.mono _ _ _ _
  | exact LeO.none _
  | refine LeO.ite ?_ ?_
  | refine LeO.bind ?_ (fun _ => ?_)
set_option maxHeartbeats 8000000 in
set_option maxRecDepth 100000 in
theorem handshakerlaw03_StripeAgain.calls (k : Nat) (A0 : Option Addr) (c0 : Nat) (l0 : List (S67)) (a1 : Int) (A2 : Option Addr) (c2 : Nat) (l2 : List Int) (A3 : Option Addr) (c3 : Nat) (l3 : List Int) (r : Bool) (w : World) (HT : Aside0 (r = true)) (hr0 : Kd.C k67 w A0 l0.length l0) (hc0 : l0.length ≤ c0) (hr2 : Kd.C (Kd.int .i64) w A2 l2.length l2) (hc2 : l2.length ≤ c2) (hr3 : Kd.C (Kd.int .i64) w A3 l3.length l3) (hc3 : l3.length ≤ c3) (h : handshakerlaw03_StripeAgain.f k l0 a1 l2 l3 = some r) :
 Calls Try.prog 14 #[.slice A0 l0.length c0, .int .i64 a1, .slice A2 l2.length c2, .slice A3 l3.length c3] w fun e w' => e = .returned (.bool r) ∧ Below w.heap.size w w' := by
 have HR0 := Aside0.mk hr0
 have HC0 := Aside0.mk hc0
 clear hr0 hc0
 have HR2 := Aside0.mk hr2
 have HC2 := Aside0.mk hc2
 clear hr2 hc2
 have HR3 := Aside0.mk hr3
 have HC3 := Aside0.mk hc3
 clear hr3 hc3
 have HB := Aside0.mk (Below.refl w.heap.size w)
 have H : (if (l0.length : Int) > 16 then (handshakerlaw03_StripeAgain.j0 k l0 a1 l2 l3 true) else (if (l2.length : Int) > 30 then (handshakerlaw03_StripeAgain.j0 k l0 a1 l2 l3 true) else (if (l3.length : Int) > 30 then (handshakerlaw03_StripeAgain.j0 k l0 a1 l2 l3 true) else ((stripe_Right.f l0).bind fun t509 => (handshakerlaw03_StripeAgain.j0 k l0 a1 l2 l3 (!t509)))))) = some r := h
 clear h
 have HC5 := Aside0.mk H
 clear H
 go_enter Try.func14, Try.ntmps14
 go_upto_region 1 with (fail)
 go_cut [35] (fun v35 wc => ∃ (kq : Nat) (x35_4 : Bool), v35 = .bool x35_4 ∧ Aside0 (handshakerlaw03_StripeAgain.j0 kq l0 a1 l2 l3 x35_4 = some r) ∧ Aside0 (kq ≤ k) ∧ Aside0 (Below w.heap.size w wc))
 case first =>
  have H := HC5.out
  clear HC5
  by_cases c6 : (l0.length : Int) > 16
  · rw [if_pos c6] at H
    have c6b0 : decide (16 < (l0.length : Int)) = true := decide_eq_true c6
    have c6b1 : decide (16 < l0.length) = true := decide_eq_true (by omega)
    clear c6
    (first | rw [c6b0] | (simp only [i64_w, i32_w]; rw [c6b0]) | skip)
    have H' := Aside0.mk H
    clear H
    go_wp2
    go_meet
    case rel => exact ⟨_, (true), (by first | rfl | (simp; done) | (simp [*]; done)), H', ⟨by first | omega | exact Nat.le_refl _⟩, ⟨by repeat (with_reducible first | exact HB.out | apply below_alloc | apply pw_below_drewN | apply below_drew1)⟩⟩
  · rw [if_neg c6] at H
    have c6b0 : decide (16 < (l0.length : Int)) = false := decide_eq_false c6
    have c6b1 : decide (16 < l0.length) = false := decide_eq_false (by omega)
    clear c6
    (first | rw [c6b0] | (simp only [i64_w, i32_w]; rw [c6b0]) | skip)
    by_cases c7 : (l2.length : Int) > 30
    · rw [if_pos c7] at H
      have c7b0 : decide (30 < (l2.length : Int)) = true := decide_eq_true c7
      have c7b1 : decide (30 < l2.length) = true := decide_eq_true (by omega)
      clear c7
      have H' := Aside0.mk H
      clear H
      go_wp2
      go_meet
      case rel => exact ⟨_, (true), (by first | rfl | (simp; done) | (simp [*]; done)), H', ⟨by first | omega | exact Nat.le_refl _⟩, ⟨by repeat (with_reducible first | exact HB.out | apply below_alloc | apply pw_below_drewN | apply below_drew1)⟩⟩
    · rw [if_neg c7] at H
      have c7b0 : decide (30 < (l2.length : Int)) = false := decide_eq_false c7
      have c7b1 : decide (30 < l2.length) = false := decide_eq_false (by omega)
      clear c7
      by_cases c8 : (l3.length : Int) > 30
      · rw [if_pos c8] at H
        have c8b0 : decide (30 < (l3.length : Int)) = true := decide_eq_true c8
        have c8b1 : decide (30 < l3.length) = true := decide_eq_true (by omega)
        clear c8
        have H' := Aside0.mk H
        clear H
        go_wp2
        go_meet
        case rel => exact ⟨_, (true), (by first | rfl | (simp; done) | (simp [*]; done)), H', ⟨by first | omega | exact Nat.le_refl _⟩, ⟨by repeat (with_reducible first | exact HB.out | apply below_alloc | apply pw_below_drewN | apply below_drew1)⟩⟩
      · rw [if_neg c8] at H
        have c8b0 : decide (30 < (l3.length : Int)) = false := decide_eq_false c8
        have c8b1 : decide (30 < l3.length) = false := decide_eq_false (by omega)
        clear c8
        replace H := Option.bind_eq_some_iff.mp H
        obtain ⟨t509, A90, H⟩ := H
        replace H : (handshakerlaw03_StripeAgain.j0 k l0 a1 l2 l3 (!t509)) = some r := H
        have A9 := Aside0.mk A90
        clear A90
        have H' := Aside0.mk H
        clear H
        go_wp2_with (first | (go_at_call 37; (with_reducible refine (stripe_Right.calls _ _ l0 t509 _ ?side1 ?side2 A9.out).mono ?_); (case side1 => repeat (first | exact (Kd.C_below HR0.out HB.out) | with_reducible first | refine Kd.C_alloc ?_ _ | refine Kd.C_drewN ?_ _ | refine Kd.C_drew ?_)); (case side2 => exact HC0.out); rintro e w10 ⟨rfl, hb⟩; have n0_ := Aside0.mk (bst_ hb); clear HB; have HB := n0_; clear n0_; (try clear hb); (try clear hb2); (try clear hk); (try clear hi)))
        go_meet
        case rel => exact ⟨_, (!t509), (by first | rfl | (simp; done) | (simp [*]; done)), H', ⟨by first | omega | exact Nat.le_refl _⟩, ⟨by repeat (with_reducible first | exact HB.out | apply below_alloc | apply pw_below_drewN | apply below_drew1)⟩⟩
 case rest =>
  clear HC5
  try clear c1
  try clear c2
  try clear p2
  try clear c3
  try clear c6
  try clear c6b0
  try clear c6b1
  try clear c7
  try clear c7b0
  try clear c7b1
  try clear c8
  try clear c8b0
  try clear c8b1
  obtain ⟨kq, x35_4, rfl, HA, HJ4, HB⟩ := hcut
  cases kq with
  | zero => exact absurd HA.out (by simp [handshakerlaw03_StripeAgain.j0])
  | succ kj4 =>
   have H := HA.out
   clear HA
   simp only [handshakerlaw03_StripeAgain.j0] at H
   by_cases c11 : x35_4 = true
   · subst c11
     have H1 : ((handshakerlaw03_awake.f kj4).bind fun t510 => (some t510)) = some r := by rw [if_pos rfl] at H; exact H
     clear H
     have H := H1
     clear H1
     replace H := Option.bind_eq_some_iff.mp H
     obtain ⟨t510, A120, H⟩ := H
     replace H : (some t510) = some r := H
     have A12 := Aside0.mk A120
     clear A120
     obtain rfl := Option.some.inj H
     go_wp2_with (first | ((with_reducible refine gate_callee (f := 33) rfl ?_); refine goesL_ (some 36) rfl rfl Try.func33 (by kernel_rfl) rfl #[] rfl (by (try simp only [List.map_toArray, List.map_cons, List.map_nil]); first | done | rfl) ?_; (with_reducible refine (handshakerlaw03_awake.calls kj4  t510 _ A12.out).mono ?_); rintro e w13 ⟨rfl, hb⟩; refine ⟨_, rfl, ?_⟩; have n0_ := Aside0.mk (bst_ hb); clear HB; have HB := n0_; clear n0_; (try clear hb); (try clear hb2); (try clear hk); (try clear hi)))
     go_ret
     exact ⟨by first | rfl | (simp [errW_none, errW_some] <;> rfl) | (simp [*, errW_none, errW_some] <;> rfl), by repeat (with_reducible first | exact HB.out | apply below_alloc | apply pw_below_drewN | apply below_drew1)⟩
   · replace c11 := Bool.eq_false_iff.mpr c11
     subst c11
     have H1 : ((stripe_Lock.f kj4 l0 a1 l2).bind fun bt511 => ((stripe_Lock.f kj4 bt511.1 a1 l3).bind fun bt515 => ((some (([] : List Int) : List Int)).bind fun y519 => (if y519.length + l2.length < 17592186044416 then ((some (y519 ++ l2 : List Int)).bind fun y522 => (if y522.length + l3.length < 17592186044416 then ((stripe_Lock.f kj4 l0 a1 (y522 ++ l3)).bind fun bt528 => (if bt511.2 = 0 then (if bt528.2 = 0 then (if bt515.2 = 0 then ((handshakerref03_Same.f kj4 bt515.1 bt528.1).bind fun t532 => (handshakerlaw03_StripeAgain.j1 kj4 a1 l2 bt511.1 bt511.2 (!t532))) else (handshakerlaw03_StripeAgain.j1 kj4 a1 l2 bt511.1 bt511.2 true)) else (if bt515.2 = 0 then (handshakerlaw03_StripeAgain.j1 kj4 a1 l2 bt511.1 bt511.2 true) else (handshakerlaw03_StripeAgain.j1 kj4 a1 l2 bt511.1 bt511.2 false))) else (if bt528.2 = 0 then (handshakerlaw03_StripeAgain.j1 kj4 a1 l2 bt511.1 bt511.2 true) else (handshakerlaw03_StripeAgain.j1 kj4 a1 l2 bt511.1 bt511.2 false)))) else (none))) else (none))))) = some r := by rw [if_neg (show ¬ (false = true) by decide)] at H; exact H
     clear H
     have H := H1
     clear H1
     replace H := Option.bind_eq_some_iff.mp H
     obtain ⟨⟨t511, t514⟩, A140, H⟩ := H
     replace H : ((stripe_Lock.f kj4 t511 a1 l3).bind fun bt515 => ((some (([] : List Int) : List Int)).bind fun y519 => (if y519.length + l2.length < 17592186044416 then ((some (y519 ++ l2 : List Int)).bind fun y522 => (if y522.length + l3.length < 17592186044416 then ((stripe_Lock.f kj4 l0 a1 (y522 ++ l3)).bind fun bt528 => (if t514 = 0 then (if bt528.2 = 0 then (if bt515.2 = 0 then ((handshakerref03_Same.f kj4 bt515.1 bt528.1).bind fun t532 => (handshakerlaw03_StripeAgain.j1 kj4 a1 l2 t511 t514 (!t532))) else (handshakerlaw03_StripeAgain.j1 kj4 a1 l2 t511 t514 true)) else (if bt515.2 = 0 then (handshakerlaw03_StripeAgain.j1 kj4 a1 l2 t511 t514 true) else (handshakerlaw03_StripeAgain.j1 kj4 a1 l2 t511 t514 false))) else (if bt528.2 = 0 then (handshakerlaw03_StripeAgain.j1 kj4 a1 l2 t511 t514 true) else (handshakerlaw03_StripeAgain.j1 kj4 a1 l2 t511 t514 false)))) else (none))) else (none)))) = some r := H
     have A14 := Aside0.mk A140
     clear A140
     replace H := Option.bind_eq_some_iff.mp H
     obtain ⟨⟨t515, t518⟩, A150, H⟩ := H
     replace H : ((some (([] : List Int) : List Int)).bind fun y519 => (if y519.length + l2.length < 17592186044416 then ((some (y519 ++ l2 : List Int)).bind fun y522 => (if y522.length + l3.length < 17592186044416 then ((stripe_Lock.f kj4 l0 a1 (y522 ++ l3)).bind fun bt528 => (if t514 = 0 then (if bt528.2 = 0 then (if t518 = 0 then ((handshakerref03_Same.f kj4 t515 bt528.1).bind fun t532 => (handshakerlaw03_StripeAgain.j1 kj4 a1 l2 t511 t514 (!t532))) else (handshakerlaw03_StripeAgain.j1 kj4 a1 l2 t511 t514 true)) else (if t518 = 0 then (handshakerlaw03_StripeAgain.j1 kj4 a1 l2 t511 t514 true) else (handshakerlaw03_StripeAgain.j1 kj4 a1 l2 t511 t514 false))) else (if bt528.2 = 0 then (handshakerlaw03_StripeAgain.j1 kj4 a1 l2 t511 t514 true) else (handshakerlaw03_StripeAgain.j1 kj4 a1 l2 t511 t514 false)))) else (none))) else (none))) = some r := H
     have A15 := Aside0.mk A150
     clear A150
     obtain ⟨y519, hy519⟩ : ∃ y_ : List Int, y_ = (([] : List Int)) := ⟨_, rfl⟩
     replace H : (if y519.length + l2.length < 17592186044416 then ((some (y519 ++ l2 : List Int)).bind fun y522 => (if y522.length + l3.length < 17592186044416 then ((stripe_Lock.f kj4 l0 a1 (y522 ++ l3)).bind fun bt528 => (if t514 = 0 then (if bt528.2 = 0 then (if t518 = 0 then ((handshakerref03_Same.f kj4 t515 bt528.1).bind fun t532 => (handshakerlaw03_StripeAgain.j1 kj4 a1 l2 t511 t514 (!t532))) else (handshakerlaw03_StripeAgain.j1 kj4 a1 l2 t511 t514 true)) else (if t518 = 0 then (handshakerlaw03_StripeAgain.j1 kj4 a1 l2 t511 t514 true) else (handshakerlaw03_StripeAgain.j1 kj4 a1 l2 t511 t514 false))) else (if bt528.2 = 0 then (handshakerlaw03_StripeAgain.j1 kj4 a1 l2 t511 t514 true) else (handshakerlaw03_StripeAgain.j1 kj4 a1 l2 t511 t514 false)))) else (none))) else (none)) = some r := by first | (rw [hy519]; with_reducible exact H) | (have H2_ := (Option.bind_some _ _).symm.trans H; rw [hy519]; with_reducible exact H2_) | (have H2_ := (Option.bind_some _ _).symm.trans H; with_reducible exact H2_) | with_reducible exact H | (rw [hy519]; exact H) | exact H
     have Ny519 := Aside0.mk hy519
     clear hy519
     by_cases c16 : y519.length + l2.length < 17592186044416
     · rw [if_pos c16] at H
       have LMc16 := Aside0.mk c16
       clear c16
       obtain ⟨y522, hy522⟩ : ∃ y_ : List Int, y_ = (y519 ++ l2) := ⟨_, rfl⟩
       replace H : (if y522.length + l3.length < 17592186044416 then ((stripe_Lock.f kj4 l0 a1 (y522 ++ l3)).bind fun bt528 => (if t514 = 0 then (if bt528.2 = 0 then (if t518 = 0 then ((handshakerref03_Same.f kj4 t515 bt528.1).bind fun t532 => (handshakerlaw03_StripeAgain.j1 kj4 a1 l2 t511 t514 (!t532))) else (handshakerlaw03_StripeAgain.j1 kj4 a1 l2 t511 t514 true)) else (if t518 = 0 then (handshakerlaw03_StripeAgain.j1 kj4 a1 l2 t511 t514 true) else (handshakerlaw03_StripeAgain.j1 kj4 a1 l2 t511 t514 false))) else (if bt528.2 = 0 then (handshakerlaw03_StripeAgain.j1 kj4 a1 l2 t511 t514 true) else (handshakerlaw03_StripeAgain.j1 kj4 a1 l2 t511 t514 false)))) else (none)) = some r := by first | (rw [hy522]; with_reducible exact H) | (have H2_ := (Option.bind_some _ _).symm.trans H; rw [hy522]; with_reducible exact H2_) | (have H2_ := (Option.bind_some _ _).symm.trans H; with_reducible exact H2_) | with_reducible exact H | (rw [hy522]; exact H) | exact H
       have Ny522 := Aside0.mk hy522
       clear hy522
       by_cases c17 : y522.length + l3.length < 17592186044416
       · rw [if_pos c17] at H
         have LMc17 := Aside0.mk c17
         clear c17
         obtain ⟨y525, hy525⟩ : ∃ y_ : List Int, y_ = (y522 ++ l3) := ⟨_, rfl⟩
         replace H : ((stripe_Lock.f kj4 l0 a1 y525).bind fun bt528 => (if t514 = 0 then (if bt528.2 = 0 then (if t518 = 0 then ((handshakerref03_Same.f kj4 t515 bt528.1).bind fun t532 => (handshakerlaw03_StripeAgain.j1 kj4 a1 l2 t511 t514 (!t532))) else (handshakerlaw03_StripeAgain.j1 kj4 a1 l2 t511 t514 true)) else (if t518 = 0 then (handshakerlaw03_StripeAgain.j1 kj4 a1 l2 t511 t514 true) else (handshakerlaw03_StripeAgain.j1 kj4 a1 l2 t511 t514 false))) else (if bt528.2 = 0 then (handshakerlaw03_StripeAgain.j1 kj4 a1 l2 t511 t514 true) else (handshakerlaw03_StripeAgain.j1 kj4 a1 l2 t511 t514 false)))) = some r := by first | (rw [hy525]; with_reducible exact H) | (have H2_ := (Option.bind_some _ _).symm.trans H; rw [hy525]; with_reducible exact H2_) | (have H2_ := (Option.bind_some _ _).symm.trans H; with_reducible exact H2_) | with_reducible exact H | (rw [hy525]; exact H) | exact H
         have Ny525 := Aside0.mk hy525
         clear hy525
         replace H := Option.bind_eq_some_iff.mp H
         obtain ⟨⟨t528, t531⟩, A180, H⟩ := H
         replace H : (if t514 = 0 then (if t531 = 0 then (if t518 = 0 then ((handshakerref03_Same.f kj4 t515 t528).bind fun t532 => (handshakerlaw03_StripeAgain.j1 kj4 a1 l2 t511 t514 (!t532))) else (handshakerlaw03_StripeAgain.j1 kj4 a1 l2 t511 t514 true)) else (if t518 = 0 then (handshakerlaw03_StripeAgain.j1 kj4 a1 l2 t511 t514 true) else (handshakerlaw03_StripeAgain.j1 kj4 a1 l2 t511 t514 false))) else (if t531 = 0 then (handshakerlaw03_StripeAgain.j1 kj4 a1 l2 t511 t514 true) else (handshakerlaw03_StripeAgain.j1 kj4 a1 l2 t511 t514 false))) = some r := H
         have A18 := Aside0.mk A180
         clear A180
         have HC19 := Aside0.mk H
         clear H
         go_upto_region 6 with (first | ((with_reducible refine gate_callee (f := 30) rfl ?_); refine goesL_ (some 41) rfl rfl Try.func30 (by kernel_rfl) rfl #[.slice A0 l0.length c0, .int .i64 a1, .slice A2 l2.length c2] rfl (by (try simp only [List.map_toArray, List.map_cons, List.map_nil]); first | done | rfl) ?_; (with_reducible refine (stripe_Lock.calls kj4 (fun k_ => k_ < w.heap.size) _ _ l0 a1 _ _ l2 t511 t514 _ ?side1 ?side2 ?side3 A14.out).mono ?_); (case side1 => exact Kd.V_mk HC0.out (Kd.F_below (Kd.C_F k67_heap HR0.out) (by repeat (with_reducible first | exact HB.out | apply below_alloc | apply pw_below_drewN | apply below_drew1)))); (case side2 => repeat (first | exact (Kd.C_below HR2.out HB.out) | with_reducible first | refine Kd.C_alloc ?_ _ | refine Kd.C_drewN ?_ _ | refine Kd.C_drew ?_)); (case side3 => exact HC2.out); rintro e w20 ⟨v512, rfl, ho0, hb⟩; refine ⟨_, rfl, ?_⟩; have n0_ := Aside0.mk (Kd.V_lower (Kd.V_mono (ok' := fun k_ => True) ho0 (fun k_ hk_ => trivial)) bsz_); have n1_ := Aside0.mk (bst_ hb); clear HB; have HO513 := n0_; have HB := n1_; clear n0_ n1_; (try clear hb); (try clear hb2); (try clear hk); (try clear hi); (try clear ho0); obtain ⟨Ao21, co21, eo21⟩ := Kd.V_slice HO513.out; subst eo21) | ((with_reducible refine gate_callee (f := 30) rfl ?_); refine goesL_ (some 48) rfl rfl Try.func30 (by kernel_rfl) rfl #[.slice Ao21 t511.length co21, .int .i64 a1, .slice A3 l3.length c3] rfl (by (try simp only [List.map_toArray, List.map_cons, List.map_nil]); first | done | rfl) ?_; (with_reducible refine (stripe_Lock.calls kj4 (fun k_ => True) _ _ t511 a1 _ _ l3 t515 t518 _ ?side1 ?side2 ?side3 A15.out).mono ?_); (case side1 => exact HO513.out); (case side2 => repeat (first | exact (Kd.C_below HR3.out HB.out) | with_reducible first | refine Kd.C_alloc ?_ _ | refine Kd.C_drewN ?_ _ | refine Kd.C_drew ?_)); (case side3 => exact HC3.out); rintro e w22 ⟨v516, rfl, ho0, hb⟩; refine ⟨_, rfl, ?_⟩; have n0_ := Aside0.mk (Kd.V_below (by (with_reducible repeat (first | apply Kd.V_alloc | apply Kd.V_drewN | apply Kd.V_drew)); exact HO513.out) hb); have n1_ := Aside0.mk (Kd.V_lower (Kd.V_mono (ok' := fun k_ => True) ho0 (fun k_ hk_ => trivial)) bsz_); have n2_ := Aside0.mk (bst_ hb); clear HO513; clear HB; have HO513 := n0_; have HO517 := n1_; have HB := n2_; clear n0_ n1_ n2_; (try clear hb); (try clear hb2); (try clear hk); (try clear hi); (try clear ho0)) | ((with_reducible refine gate_dst (N := 54) rfl ?_); (try (refine gate_guard (by rfl) ?_; dsimp only)); refine Kd.R_lit (Kd.int .i64) _ 3 ?hg (N := 54) ?hd (xs := ([] : List Int)) (inner := []) (ok := fun _ => True) (okp := fun _ => True) ?hr ?hp (fun _ hk => hk) trivial (Below.refl _ _) (Nat.le_refl _) (by simp) ?_; (case hd => rfl); (case hg => rfl); (case hr => first | (go_simp; done) | (go_simp; rfl)); (case hp => exact (Reps.none _ _)); intro v520 w23 ho24 hb hg_ hnew_; clear hg_ hnew_; (first | rw [← Ny519.out] at ho24 | (simp only [Int.reduceToNat] at ho24; rw [← Ny519.out] at ho24)); have n0_ := Aside0.mk (Kd.V_elder' (by (with_reducible repeat (first | apply Kd.V_alloc | apply Kd.V_drewN | apply Kd.V_drew)); exact HO513.out) (Kd.R_base ho24) hb); have n1_ := Aside0.mk (Kd.V_elder' (by (with_reducible repeat (first | apply Kd.V_alloc | apply Kd.V_drewN | apply Kd.V_drew)); exact HO517.out) (Kd.R_base ho24) hb); have n2_ := Aside0.mk (Kd.R_lower ho24 bsz_); have n3_ := Aside0.mk (bst_ hb); clear HO513; clear HO517; clear HB; have HO513 := n0_; have HO517 := n1_; have HO521 := n2_; have HB := n3_; clear n0_ n1_ n2_ n3_; clear hb ho24) | ((with_reducible refine gate_builtin (b := .append) (xs := #[.tmp 54, .tmp 55]) rfl ?_); (try (refine gate_guard (by rfl) ?_; dsimp only)); at_builtin; refine Kd.R_append_rows (Kd.int .i64) (w0 := w) w.heap.size rfl (.tmp 54) (.tmp 55) 35 3 (.int .i64 0) 8 rfl Try.underlying35 info3 rfl (by decide) (by omega) v520 y519 l2 _ _ _ (fun _ => True) (fun _ => False) rfl rfl ?aO ?aR (fun _ _ h => h) (fun _ h => h.elim) ?aF ?aB ?aS ?aL ?_; (case aR => repeat (first | exact (Kd.C_below HR2.out HB.out) | with_reducible first | refine Kd.C_alloc ?_ _ | refine Kd.C_drewN ?_ _ | refine Kd.C_drew ?_)); (case aB => exact (by repeat (with_reducible first | exact HB.out | apply below_alloc | apply pw_below_drewN | apply below_drew1))); (case aF => exact (fun _ _ => trivial)); (case aO => exact (by (with_reducible repeat (first | apply Kd.R_alloc | apply Kd.R_drewN | apply Kd.R_drew)); exact HO521.out)); (case aS => exact bsz_); (case aL => have := LMc16.out; omega); intro v523 w25 ho hb hg hat; rw [← Ny522.out] at ho; have n0_ := Aside0.mk (Kd.V_afterv (ok := (fun _ => True)) (by (with_reducible repeat (first | apply Kd.V_alloc | apply Kd.V_drewN | apply Kd.V_drew)); exact HO513.out) hg hat); have n1_ := Aside0.mk (Kd.V_afterv (ok := (fun _ => True)) (by (with_reducible repeat (first | apply Kd.V_alloc | apply Kd.V_drewN | apply Kd.V_drew)); exact HO517.out) hg hat); have n2_ := Aside0.mk (hb); have n3_ := Aside0.mk (ho); clear HO513; clear HO517; clear HB; clear HO521; have HO513 := n0_; have HO517 := n1_; have HB := n2_; have HO524 := n3_; clear n0_ n1_ n2_ n3_; clear ho hb hg hat) | ((with_reducible refine gate_builtin (b := .append) (xs := #[.tmp 56, .tmp 57]) rfl ?_); (try (refine gate_guard (by rfl) ?_; dsimp only)); at_builtin; refine Kd.R_append_rows (Kd.int .i64) (w0 := w) w.heap.size rfl (.tmp 56) (.tmp 57) 35 3 (.int .i64 0) 8 rfl Try.underlying35 info3 rfl (by decide) (by omega) v523 y522 l3 _ _ _ (fun _ => True) (fun _ => False) rfl rfl ?aO ?aR (fun _ _ h => h) (fun _ h => h.elim) ?aF ?aB ?aS ?aL ?_; (case aR => repeat (first | exact (Kd.C_below HR3.out HB.out) | with_reducible first | refine Kd.C_alloc ?_ _ | refine Kd.C_drewN ?_ _ | refine Kd.C_drew ?_)); (case aB => exact (by repeat (with_reducible first | exact HB.out | apply below_alloc | apply pw_below_drewN | apply below_drew1))); (case aF => exact (fun _ _ => trivial)); (case aO => exact (by (with_reducible repeat (first | apply Kd.R_alloc | apply Kd.R_drewN | apply Kd.R_drew)); exact HO524.out)); (case aS => exact bsz_); (case aL => have := LMc17.out; omega); intro v526 w26 ho hb hg hat; rw [← Ny525.out] at ho; have n0_ := Aside0.mk (Kd.V_afterv (ok := (fun _ => True)) (by (with_reducible repeat (first | apply Kd.V_alloc | apply Kd.V_drewN | apply Kd.V_drew)); exact HO513.out) hg hat); have n1_ := Aside0.mk (Kd.V_afterv (ok := (fun _ => True)) (by (with_reducible repeat (first | apply Kd.V_alloc | apply Kd.V_drewN | apply Kd.V_drew)); exact HO517.out) hg hat); have n2_ := Aside0.mk (hb); have n3_ := Aside0.mk (ho); clear HO513; clear HO517; clear HB; clear HO524; have HO513 := n0_; have HO517 := n1_; have HB := n2_; have HO527 := n3_; clear n0_ n1_ n2_ n3_; clear ho hb hg hat; obtain ⟨Ao27, co27, eo27⟩ := Kd.R_slice HO527.out; subst eo27) | ((with_reducible refine gate_callee (f := 30) rfl ?_); refine goesL_ (some 59) rfl rfl Try.func30 (by kernel_rfl) rfl #[.slice A0 l0.length c0, .int .i64 a1, .slice Ao27 y525.length co27] rfl (by (try simp only [List.map_toArray, List.map_cons, List.map_nil]); first | done | rfl) ?_; (with_reducible refine (stripe_Lock.calls kj4 (fun k_ => k_ < w.heap.size) _ _ l0 a1 _ _ y525 t528 t531 _ ?side1 ?side2 ?side3 A18.out).mono ?_); (case side1 => exact Kd.V_mk HC0.out (Kd.F_below (Kd.C_F k67_heap HR0.out) (by repeat (with_reducible first | exact HB.out | apply below_alloc | apply pw_below_drewN | apply below_drew1)))); (case side2 => repeat (first | exact (Kd.R_reads' HO527.out).2.2 | with_reducible first | refine Kd.C_alloc ?_ _ | refine Kd.C_drewN ?_ _ | refine Kd.C_drew ?_)); (case side3 => exact (Kd.R_reads' HO527.out).2.1); rintro e w28 ⟨v529, rfl, ho0, hb⟩; refine ⟨_, rfl, ?_⟩; have n0_ := Aside0.mk (Kd.V_below (by (with_reducible repeat (first | apply Kd.V_alloc | apply Kd.V_drewN | apply Kd.V_drew)); exact HO513.out) hb); have n1_ := Aside0.mk (Kd.V_below (by (with_reducible repeat (first | apply Kd.V_alloc | apply Kd.V_drewN | apply Kd.V_drew)); exact HO517.out) hb); have n2_ := Aside0.mk (Kd.R_below (by (with_reducible repeat (first | apply Kd.R_alloc | apply Kd.R_drewN | apply Kd.R_drew)); exact HO527.out) hb); have n3_ := Aside0.mk (Kd.V_lower (Kd.V_mono (ok' := fun k_ => some k_ ≠ (.slice Ao27 y525.length co27 : Value).ownBlock) ho0 (fun k_ hk_ => Or.elim hk_ (fun hs_ => fun e_ => Nat.not_le.2 hs_ (Kd.R_base HO527.out k_ e_.symm)) (fun hn_ => (Kd.fresh' (Kd.R_lt (by (with_reducible repeat (first | apply Kd.R_alloc | apply Kd.R_drewN | apply Kd.R_drew)); exact HO527.out)) k_ hn_)))) bsz_); have n4_ := Aside0.mk (bst_ hb); clear HO513; clear HO517; clear HO527; clear HB; have HO513 := n0_; have HO517 := n1_; have HO527 := n2_; have HO530 := n3_; have HB := n4_; clear n0_ n1_ n2_ n3_ n4_; (try clear hb); (try clear hb2); (try clear hk); (try clear hi); (try clear ho0)))
         (try simp only [Act.put, List.setIfInBounds_toArray, List.set_cons_zero, List.set_cons_succ])
         go_cut [80] (fun v80 wc => ∃ (kq : Nat) (x80_18 : Bool), v80 = .bool x80_18 ∧ Aside0 (handshakerlaw03_StripeAgain.j1 kq a1 l2 t511 t514 x80_18 = some r) ∧ Aside0 (kq ≤ kj4) ∧ Aside0 (Kd.V k67 67 wc w.heap.size (fun _ => True) (.slice Ao21 t511.length co21) t511) ∧ Aside0 (Below w.heap.size w wc))
         case first =>
          have H := HC19.out
          clear HC19
          by_cases c29 : t514 = 0
          · rw [if_pos c29] at H
            have c29b0 : (t514 == 0) = true := beq_iff_eq.mpr c29
            have c29b1 : (t514 != 0) = false := bne_eq_false_iff_eq.mpr c29
            clear c29
            (first | rw [c29b0] | (simp only [i64_w, i32_w]; rw [c29b0]) | skip)
            by_cases c30 : t531 = 0
            · rw [if_pos c30] at H
              have c30b0 : (t531 == 0) = true := beq_iff_eq.mpr c30
              have c30b1 : (t531 != 0) = false := bne_eq_false_iff_eq.mpr c30
              clear c30
              by_cases c31 : t518 = 0
              · rw [if_pos c31] at H
                have c31b0 : (t518 == 0) = true := beq_iff_eq.mpr c31
                have c31b1 : (t518 != 0) = false := bne_eq_false_iff_eq.mpr c31
                clear c31
                replace H := Option.bind_eq_some_iff.mp H
                obtain ⟨t532, A320, H⟩ := H
                replace H : (handshakerlaw03_StripeAgain.j1 kj4 a1 l2 t511 t514 (!t532)) = some r := H
                have A32 := Aside0.mk A320
                clear A320
                have H' := Aside0.mk H
                clear H
                obtain ⟨Ao33, co33, eo33⟩ := Kd.V_slice HO517.out
                subst eo33
                obtain ⟨Ao34, co34, eo34⟩ := Kd.V_slice HO530.out
                subst eo34
                go_wp2_with (first | (go_at_call 42; (with_reducible refine (handshakerref03_Same.calls kj4 _ _ t515 _ _ t528 t532 _ ?side1 ?side2 ?side3 ?side4 A32.out).mono ?_); (case side1 => repeat (first | exact (Kd.V_reads' HO517.out).2.2 | with_reducible first | refine Kd.C_alloc ?_ _ | refine Kd.C_drewN ?_ _ | refine Kd.C_drew ?_)); (case side2 => exact (Kd.V_reads' HO517.out).2.1); (case side3 => repeat (first | exact (Kd.V_reads' HO530.out).2.2 | with_reducible first | refine Kd.C_alloc ?_ _ | refine Kd.C_drewN ?_ _ | refine Kd.C_drew ?_)); (case side4 => exact (Kd.V_reads' HO530.out).2.1); rintro e w' ⟨rfl, ⟨nd, rfl⟩⟩))
                go_meet
                case rel => exact ⟨_, (!t532), (by first | rfl | (simp; done) | (simp [*]; done)), H', ⟨by have := HJ4.out; first | omega | exact Nat.le_refl _⟩, ⟨by (with_reducible repeat (first | apply Kd.V_alloc | apply Kd.V_drewN | apply Kd.V_drew)); exact Kd.V_mono HO513.out (fun _ hk => trivial)⟩, ⟨by repeat (with_reducible first | exact HB.out | apply below_alloc | apply pw_below_drewN | apply below_drew1)⟩⟩
              · rw [if_neg c31] at H
                have c31b0 : (t518 == 0) = false := beq_eq_false_iff_ne.mpr c31
                have c31b1 : (t518 != 0) = true := bne_iff_ne.mpr c31
                have H' := Aside0.mk H
                clear H
                go_wp2
                go_meet
                case rel => exact ⟨_, (true), (by first | rfl | (simp; done) | (simp [*]; done)), H', ⟨by have := HJ4.out; first | omega | exact Nat.le_refl _⟩, ⟨by (with_reducible repeat (first | apply Kd.V_alloc | apply Kd.V_drewN | apply Kd.V_drew)); exact Kd.V_mono HO513.out (fun _ hk => trivial)⟩, ⟨by repeat (with_reducible first | exact HB.out | apply below_alloc | apply pw_below_drewN | apply below_drew1)⟩⟩
            · rw [if_neg c30] at H
              have c30b0 : (t531 == 0) = false := beq_eq_false_iff_ne.mpr c30
              have c30b1 : (t531 != 0) = true := bne_iff_ne.mpr c30
              by_cases c35 : t518 = 0
              · rw [if_pos c35] at H
                have c35b0 : (t518 == 0) = true := beq_iff_eq.mpr c35
                have c35b1 : (t518 != 0) = false := bne_eq_false_iff_eq.mpr c35
                clear c35
                have H' := Aside0.mk H
                clear H
                go_wp2
                go_meet
                case rel => exact ⟨_, (true), (by first | rfl | (simp; done) | (simp [*]; done)), H', ⟨by have := HJ4.out; first | omega | exact Nat.le_refl _⟩, ⟨by (with_reducible repeat (first | apply Kd.V_alloc | apply Kd.V_drewN | apply Kd.V_drew)); exact Kd.V_mono HO513.out (fun _ hk => trivial)⟩, ⟨by repeat (with_reducible first | exact HB.out | apply below_alloc | apply pw_below_drewN | apply below_drew1)⟩⟩
              · rw [if_neg c35] at H
                have c35b0 : (t518 == 0) = false := beq_eq_false_iff_ne.mpr c35
                have c35b1 : (t518 != 0) = true := bne_iff_ne.mpr c35
                have H' := Aside0.mk H
                clear H
                go_wp2
                go_meet
                case rel => exact ⟨_, (false), (by first | rfl | (simp; done) | (simp [*]; done)), H', ⟨by have := HJ4.out; first | omega | exact Nat.le_refl _⟩, ⟨by (with_reducible repeat (first | apply Kd.V_alloc | apply Kd.V_drewN | apply Kd.V_drew)); exact Kd.V_mono HO513.out (fun _ hk => trivial)⟩, ⟨by repeat (with_reducible first | exact HB.out | apply below_alloc | apply pw_below_drewN | apply below_drew1)⟩⟩
          · rw [if_neg c29] at H
            have c29b0 : (t514 == 0) = false := beq_eq_false_iff_ne.mpr c29
            have c29b1 : (t514 != 0) = true := bne_iff_ne.mpr c29
            (first | rw [c29b0] | (simp only [i64_w, i32_w]; rw [c29b0]) | skip)
            by_cases c36 : t531 = 0
            · rw [if_pos c36] at H
              have c36b0 : (t531 == 0) = true := beq_iff_eq.mpr c36
              have c36b1 : (t531 != 0) = false := bne_eq_false_iff_eq.mpr c36
              clear c36
              have H' := Aside0.mk H
              clear H
              go_wp2
              go_meet
              case rel => exact ⟨_, (true), (by first | rfl | (simp; done) | (simp [*]; done)), H', ⟨by have := HJ4.out; first | omega | exact Nat.le_refl _⟩, ⟨by (with_reducible repeat (first | apply Kd.V_alloc | apply Kd.V_drewN | apply Kd.V_drew)); exact Kd.V_mono HO513.out (fun _ hk => trivial)⟩, ⟨by repeat (with_reducible first | exact HB.out | apply below_alloc | apply pw_below_drewN | apply below_drew1)⟩⟩
            · rw [if_neg c36] at H
              have c36b0 : (t531 == 0) = false := beq_eq_false_iff_ne.mpr c36
              have c36b1 : (t531 != 0) = true := bne_iff_ne.mpr c36
              have H' := Aside0.mk H
              clear H
              go_wp2
              go_meet
              case rel => exact ⟨_, (false), (by first | rfl | (simp; done) | (simp [*]; done)), H', ⟨by have := HJ4.out; first | omega | exact Nat.le_refl _⟩, ⟨by (with_reducible repeat (first | apply Kd.V_alloc | apply Kd.V_drewN | apply Kd.V_drew)); exact Kd.V_mono HO513.out (fun _ hk => trivial)⟩, ⟨by repeat (with_reducible first | exact HB.out | apply below_alloc | apply pw_below_drewN | apply below_drew1)⟩⟩
         case rest =>
          clear HC19
          try clear c1
          try clear c2
          try clear p2
          try clear c3
          try clear c6
          try clear c6b0
          try clear c6b1
          try clear c7
          try clear c7b0
          try clear c7b1
          try clear c8
          try clear c8b0
          try clear c8b1
          try clear c11
          try clear c14
          try clear c16
          try clear c17
          try clear c29
          try clear c29b0
          try clear c29b1
          try clear c30
          try clear c30b0
          try clear c30b1
          try clear c31
          try clear c31b0
          try clear c31b1
          try clear c33
          try clear c35
          try clear c35b0
          try clear c35b1
          try clear c36
          try clear c36b0
          try clear c36b1
          try clear p2
          obtain ⟨kq, x80_18, rfl, HA, HJ18, HO_9, HB⟩ := hcut
          cases kq with
          | zero => exact absurd HA.out (by simp [handshakerlaw03_StripeAgain.j1])
          | succ kj18 =>
           have H := HA.out
           clear HA
           simp only [handshakerlaw03_StripeAgain.j1] at H
           by_cases c37 : x80_18 = true
           · subst c37
             have H1 : (some false) = some r := by rw [if_pos rfl] at H; exact H
             clear H
             have H := H1
             clear H1
             exact absurd (Option.some.inj H) (by rw [HT.out]; decide)
           · replace c37 := Bool.eq_false_iff.mpr c37
             subst c37
             have H1 : ((stripe_Lock.f kj18 t511 a1 l2).bind fun bt533 => ((stripe_Let.f kj18 t511 a1).bind fun t537 => (if t514 = 0 then (if bt533.2 = 0 then ((handshakerref03_Same.f kj18 bt533.1 t511).bind fun t540 => (if t540 = true then ((stripe_Let.f kj18 t537 a1).bind fun t541 => ((handshakerref03_Same.f kj18 t541 t537).bind fun t544 => (if t544 = true then ((handshakerlaw03_awake.f kj18).bind fun t545 => (some t545)) else (some false)))) else (some false))) else (some false)) else ((stripe_Let.f kj18 t537 a1).bind fun t546 => ((handshakerref03_Same.f kj18 t546 t537).bind fun t549 => (if t549 = true then ((handshakerlaw03_awake.f kj18).bind fun t550 => (some t550)) else (some false))))))) = some r := by rw [if_neg (show ¬ (false = true) by decide)] at H; exact H
             clear H
             have H := H1
             clear H1
             replace H := Option.bind_eq_some_iff.mp H
             obtain ⟨⟨t533, t536⟩, A380, H⟩ := H
             replace H : ((stripe_Let.f kj18 t511 a1).bind fun t537 => (if t514 = 0 then (if t536 = 0 then ((handshakerref03_Same.f kj18 t533 t511).bind fun t540 => (if t540 = true then ((stripe_Let.f kj18 t537 a1).bind fun t541 => ((handshakerref03_Same.f kj18 t541 t537).bind fun t544 => (if t544 = true then ((handshakerlaw03_awake.f kj18).bind fun t545 => (some t545)) else (some false)))) else (some false))) else (some false)) else ((stripe_Let.f kj18 t537 a1).bind fun t546 => ((handshakerref03_Same.f kj18 t546 t537).bind fun t549 => (if t549 = true then ((handshakerlaw03_awake.f kj18).bind fun t550 => (some t550)) else (some false)))))) = some r := H
             have A38 := Aside0.mk A380
             clear A380
             replace H := Option.bind_eq_some_iff.mp H
             obtain ⟨t537, A390, H⟩ := H
             replace H : (if t514 = 0 then (if t536 = 0 then ((handshakerref03_Same.f kj18 t533 t511).bind fun t540 => (if t540 = true then ((stripe_Let.f kj18 t537 a1).bind fun t541 => ((handshakerref03_Same.f kj18 t541 t537).bind fun t544 => (if t544 = true then ((handshakerlaw03_awake.f kj18).bind fun t545 => (some t545)) else (some false)))) else (some false))) else (some false)) else ((stripe_Let.f kj18 t537 a1).bind fun t546 => ((handshakerref03_Same.f kj18 t546 t537).bind fun t549 => (if t549 = true then ((handshakerlaw03_awake.f kj18).bind fun t550 => (some t550)) else (some false))))) = some r := H
             have A39 := Aside0.mk A390
             clear A390
             by_cases c40 : t514 = 0
             · rw [if_pos c40] at H
               have c40b0 : (t514 == 0) = true := beq_iff_eq.mpr c40
               have c40b1 : (t514 != 0) = false := bne_eq_false_iff_eq.mpr c40
               clear c40
               by_cases c41 : t536 = 0
               · rw [if_pos c41] at H
                 have c41b0 : (t536 == 0) = true := beq_iff_eq.mpr c41
                 have c41b1 : (t536 != 0) = false := bne_eq_false_iff_eq.mpr c41
                 clear c41
                 replace H := Option.bind_eq_some_iff.mp H
                 obtain ⟨t540, A420, H⟩ := H
                 replace H : (if t540 = true then ((stripe_Let.f kj18 t537 a1).bind fun t541 => ((handshakerref03_Same.f kj18 t541 t537).bind fun t544 => (if t544 = true then ((handshakerlaw03_awake.f kj18).bind fun t545 => (some t545)) else (some false)))) else (some false)) = some r := H
                 have A42 := Aside0.mk A420
                 clear A420
                 by_cases c43 : t540 = true
                 · subst c43
                   have H1 : ((stripe_Let.f kj18 t537 a1).bind fun t541 => ((handshakerref03_Same.f kj18 t541 t537).bind fun t544 => (if t544 = true then ((handshakerlaw03_awake.f kj18).bind fun t545 => (some t545)) else (some false)))) = some r := by rw [if_pos rfl] at H; exact H
                   clear H
                   have H := H1
                   clear H1
                   replace H := Option.bind_eq_some_iff.mp H
                   obtain ⟨t541, A440, H⟩ := H
                   replace H : ((handshakerref03_Same.f kj18 t541 t537).bind fun t544 => (if t544 = true then ((handshakerlaw03_awake.f kj18).bind fun t545 => (some t545)) else (some false))) = some r := H
                   have A44 := Aside0.mk A440
                   clear A440
                   replace H := Option.bind_eq_some_iff.mp H
                   obtain ⟨t544, A450, H⟩ := H
                   replace H : (if t544 = true then ((handshakerlaw03_awake.f kj18).bind fun t545 => (some t545)) else (some false)) = some r := H
                   have A45 := Aside0.mk A450
                   clear A450
                   by_cases c46 : t544 = true
                   · subst c46
                     have H1 : ((handshakerlaw03_awake.f kj18).bind fun t545 => (some t545)) = some r := by rw [if_pos rfl] at H; exact H
                     clear H
                     have H := H1
                     clear H1
                     replace H := Option.bind_eq_some_iff.mp H
                     obtain ⟨t545, A470, H⟩ := H
                     replace H : (some t545) = some r := H
                     have A47 := Aside0.mk A470
                     clear A470
                     obtain rfl := Option.some.inj H
                     go_wp2_with (first | ((with_reducible refine gate_callee (f := 30) rfl ?_); refine goesL_ (some 85) rfl rfl Try.func30 (by kernel_rfl) rfl #[.slice Ao21 t511.length co21, .int .i64 a1, .slice A2 l2.length c2] rfl (by (try simp only [List.map_toArray, List.map_cons, List.map_nil]); first | done | rfl) ?_; (with_reducible refine (stripe_Lock.calls kj18 (fun k_ => True) _ _ t511 a1 _ _ l2 t533 t536 _ ?side1 ?side2 ?side3 A38.out).mono ?_); (case side1 => exact HO_9.out); (case side2 => repeat (first | exact (Kd.C_below HR2.out HB.out) | with_reducible first | refine Kd.C_alloc ?_ _ | refine Kd.C_drewN ?_ _ | refine Kd.C_drew ?_)); (case side3 => exact HC2.out); rintro e w48 ⟨v534, rfl, ho0, hb⟩; refine ⟨_, rfl, ?_⟩; have n0_ := Aside0.mk (Kd.V_below (by (with_reducible repeat (first | apply Kd.V_alloc | apply Kd.V_drewN | apply Kd.V_drew)); exact HO_9.out) hb); have n1_ := Aside0.mk (Kd.V_lower (Kd.V_mono (ok' := fun k_ => True) ho0 (fun k_ hk_ => trivial)) bsz_); have n2_ := Aside0.mk (bst_ hb); clear HO_9; clear HB; have HO_9 := n0_; have HO535 := n1_; have HB := n2_; clear n0_ n1_ n2_; (try clear hb); (try clear hb2); (try clear hk); (try clear hi); (try clear ho0)) | ((with_reducible refine gate_callee (f := 43) rfl ?_); refine goesL_ (some 90) rfl rfl Try.func43 (by kernel_rfl) rfl #[.slice Ao21 t511.length co21, .int .i64 a1] rfl (by (try simp only [List.map_toArray, List.map_cons, List.map_nil]); first | done | rfl) ?_; (with_reducible refine (stripe_Let.calls kj18 _ _ t511 a1 t537 _ ?side1 ?side2 A39.out).mono ?_); (case side1 => repeat (first | exact (Kd.V_reads' HO_9.out).2.2 | with_reducible first | refine Kd.C_alloc ?_ _ | refine Kd.C_drewN ?_ _ | refine Kd.C_drew ?_)); (case side2 => exact (Kd.V_reads' HO_9.out).2.1); rintro e w49 ⟨v538, rfl, ho0, hb⟩; refine ⟨_, rfl, ?_⟩; have n0_ := Aside0.mk (Kd.V_elder' (by (with_reducible repeat (first | apply Kd.V_alloc | apply Kd.V_drewN | apply Kd.V_drew)); exact HO_9.out) (Kd.R_base ho0) hb); have n1_ := Aside0.mk (Kd.V_elder' (by (with_reducible repeat (first | apply Kd.V_alloc | apply Kd.V_drewN | apply Kd.V_drew)); exact HO535.out) (Kd.R_base ho0) hb); have n2_ := Aside0.mk (Kd.R_lower ho0 bsz_); have n3_ := Aside0.mk (bst_ hb); clear HO_9; clear HO535; clear HB; have HO_9 := n0_; have HO535 := n1_; have HO539 := n2_; have HB := n3_; clear n0_ n1_ n2_ n3_; (try clear hb); (try clear hb2); (try clear hk); (try clear hi); (try clear ho0); obtain ⟨Ao50, co50, eo50⟩ := Kd.V_slice HO535.out; subst eo50) | (go_at_call 42; (with_reducible refine (handshakerref03_Same.calls kj18 _ _ t533 _ _ t511 true _ ?side1 ?side2 ?side3 ?side4 A42.out).mono ?_); (case side1 => repeat (first | exact (Kd.V_reads' HO535.out).2.2 | with_reducible first | refine Kd.C_alloc ?_ _ | refine Kd.C_drewN ?_ _ | refine Kd.C_drew ?_)); (case side2 => exact (Kd.V_reads' HO535.out).2.1); (case side3 => repeat (first | exact (Kd.V_reads' HO_9.out).2.2 | with_reducible first | refine Kd.C_alloc ?_ _ | refine Kd.C_drewN ?_ _ | refine Kd.C_drew ?_)); (case side4 => exact (Kd.V_reads' HO_9.out).2.1); rintro e w' ⟨rfl, ⟨nd, rfl⟩⟩; obtain ⟨Ao51, co51, eo51⟩ := Kd.R_slice HO539.out; subst eo51) | (go_at_call 43; (with_reducible refine (stripe_Let.calls kj18 _ _ t537 a1 t541 _ ?side1 ?side2 A44.out).mono ?_); (case side1 => repeat (first | exact (Kd.R_reads' HO539.out).2.2 | with_reducible first | refine Kd.C_alloc ?_ _ | refine Kd.C_drewN ?_ _ | refine Kd.C_drew ?_)); (case side2 => exact (Kd.R_reads' HO539.out).2.1); rintro e w52 ⟨v542, rfl, ho0, hb⟩; have n0_ := Aside0.mk (Kd.V_elder' (by (with_reducible repeat (first | apply Kd.V_alloc | apply Kd.V_drewN | apply Kd.V_drew)); exact HO_9.out) (Kd.R_base ho0) hb); have n1_ := Aside0.mk (Kd.V_elder' (by (with_reducible repeat (first | apply Kd.V_alloc | apply Kd.V_drewN | apply Kd.V_drew)); exact HO535.out) (Kd.R_base ho0) hb); have n2_ := Aside0.mk (Kd.R_elder' (by (with_reducible repeat (first | apply Kd.R_alloc | apply Kd.R_drewN | apply Kd.R_drew)); exact HO539.out) (Kd.R_base ho0) hb); have n3_ := Aside0.mk (Kd.R_lower (Kd.R_new' ho0 (Kd.R_lt (by (with_reducible repeat (first | apply Kd.R_alloc | apply Kd.R_drewN | apply Kd.R_drew)); exact HO539.out))) bsz_); have n4_ := Aside0.mk (bst_ hb); clear HO_9; clear HO535; clear HO539; clear HB; have HO_9 := n0_; have HO535 := n1_; have HO539 := n2_; have HO543 := n3_; have HB := n4_; clear n0_ n1_ n2_ n3_ n4_; (try clear hb); (try clear hb2); (try clear hk); (try clear hi); (try clear ho0); obtain ⟨Ao53, co53, eo53⟩ := Kd.R_slice HO543.out; subst eo53) | (go_at_call 42; (with_reducible refine (handshakerref03_Same.calls kj18 _ _ t541 _ _ t537 true _ ?side1 ?side2 ?side3 ?side4 A45.out).mono ?_); (case side1 => repeat (first | exact (Kd.R_reads' HO543.out).2.2 | with_reducible first | refine Kd.C_alloc ?_ _ | refine Kd.C_drewN ?_ _ | refine Kd.C_drew ?_)); (case side2 => exact (Kd.R_reads' HO543.out).2.1); (case side3 => repeat (first | exact (Kd.R_reads' HO539.out).2.2 | with_reducible first | refine Kd.C_alloc ?_ _ | refine Kd.C_drewN ?_ _ | refine Kd.C_drew ?_)); (case side4 => exact (Kd.R_reads' HO539.out).2.1); rintro e w' ⟨rfl, ⟨nd, rfl⟩⟩) | (go_at_call 33; (with_reducible refine (handshakerlaw03_awake.calls kj18  t545 _ A47.out).mono ?_); rintro e w54 ⟨rfl, hb⟩; have n0_ := Aside0.mk (Kd.V_below (by (with_reducible repeat (first | apply Kd.V_alloc | apply Kd.V_drewN | apply Kd.V_drew)); exact HO_9.out) hb); have n1_ := Aside0.mk (Kd.V_below (by (with_reducible repeat (first | apply Kd.V_alloc | apply Kd.V_drewN | apply Kd.V_drew)); exact HO535.out) hb); have n2_ := Aside0.mk (Kd.R_below (by (with_reducible repeat (first | apply Kd.R_alloc | apply Kd.R_drewN | apply Kd.R_drew)); exact HO539.out) hb); have n3_ := Aside0.mk (Kd.R_below (by (with_reducible repeat (first | apply Kd.R_alloc | apply Kd.R_drewN | apply Kd.R_drew)); exact HO543.out) hb); have n4_ := Aside0.mk (bst_ hb); clear HO_9; clear HO535; clear HO539; clear HO543; clear HB; have HO_9 := n0_; have HO535 := n1_; have HO539 := n2_; have HO543 := n3_; have HB := n4_; clear n0_ n1_ n2_ n3_ n4_; (try clear hb); (try clear hb2); (try clear hk); (try clear hi)))
                     go_ret
                     exact ⟨by first | rfl | (simp [errW_none, errW_some] <;> rfl) | (simp [*, errW_none, errW_some] <;> rfl), by repeat (with_reducible first | exact HB.out | apply below_alloc | apply pw_below_drewN | apply below_drew1)⟩
                   · replace c46 := Bool.eq_false_iff.mpr c46
                     subst c46
                     have H1 : (some false) = some r := by rw [if_neg (show ¬ (false = true) by decide)] at H; exact H
                     clear H
                     have H := H1
                     clear H1
                     exact absurd (Option.some.inj H) (by rw [HT.out]; decide)
                 · replace c43 := Bool.eq_false_iff.mpr c43
                   subst c43
                   have H1 : (some false) = some r := by rw [if_neg (show ¬ (false = true) by decide)] at H; exact H
                   clear H
                   have H := H1
                   clear H1
                   exact absurd (Option.some.inj H) (by rw [HT.out]; decide)
               · rw [if_neg c41] at H
                 have c41b0 : (t536 == 0) = false := beq_eq_false_iff_ne.mpr c41
                 have c41b1 : (t536 != 0) = true := bne_iff_ne.mpr c41
                 exact absurd (Option.some.inj H) (by rw [HT.out]; decide)
             · rw [if_neg c40] at H
               have c40b0 : (t514 == 0) = false := beq_eq_false_iff_ne.mpr c40
               have c40b1 : (t514 != 0) = true := bne_iff_ne.mpr c40
               replace H := Option.bind_eq_some_iff.mp H
               obtain ⟨t546, A550, H⟩ := H
               replace H : ((handshakerref03_Same.f kj18 t546 t537).bind fun t549 => (if t549 = true then ((handshakerlaw03_awake.f kj18).bind fun t550 => (some t550)) else (some false))) = some r := H
               have A55 := Aside0.mk A550
               clear A550
               replace H := Option.bind_eq_some_iff.mp H
               obtain ⟨t549, A560, H⟩ := H
               replace H : (if t549 = true then ((handshakerlaw03_awake.f kj18).bind fun t550 => (some t550)) else (some false)) = some r := H
               have A56 := Aside0.mk A560
               clear A560
               by_cases c57 : t549 = true
               · subst c57
                 have H1 : ((handshakerlaw03_awake.f kj18).bind fun t550 => (some t550)) = some r := by rw [if_pos rfl] at H; exact H
                 clear H
                 have H := H1
                 clear H1
                 replace H := Option.bind_eq_some_iff.mp H
                 obtain ⟨t550, A580, H⟩ := H
                 replace H : (some t550) = some r := H
                 have A58 := Aside0.mk A580
                 clear A580
                 obtain rfl := Option.some.inj H
                 go_wp2_with (first | ((with_reducible refine gate_callee (f := 30) rfl ?_); refine goesL_ (some 85) rfl rfl Try.func30 (by kernel_rfl) rfl #[.slice Ao21 t511.length co21, .int .i64 a1, .slice A2 l2.length c2] rfl (by (try simp only [List.map_toArray, List.map_cons, List.map_nil]); first | done | rfl) ?_; (with_reducible refine (stripe_Lock.calls kj18 (fun k_ => True) _ _ t511 a1 _ _ l2 t533 t536 _ ?side1 ?side2 ?side3 A38.out).mono ?_); (case side1 => exact HO_9.out); (case side2 => repeat (first | exact (Kd.C_below HR2.out HB.out) | with_reducible first | refine Kd.C_alloc ?_ _ | refine Kd.C_drewN ?_ _ | refine Kd.C_drew ?_)); (case side3 => exact HC2.out); rintro e w59 ⟨v534, rfl, ho0, hb⟩; refine ⟨_, rfl, ?_⟩; have n0_ := Aside0.mk (Kd.V_below (by (with_reducible repeat (first | apply Kd.V_alloc | apply Kd.V_drewN | apply Kd.V_drew)); exact HO_9.out) hb); have n1_ := Aside0.mk (Kd.V_lower (Kd.V_mono (ok' := fun k_ => True) ho0 (fun k_ hk_ => trivial)) bsz_); have n2_ := Aside0.mk (bst_ hb); clear HO_9; clear HB; have HO_9 := n0_; have HO535 := n1_; have HB := n2_; clear n0_ n1_ n2_; (try clear hb); (try clear hb2); (try clear hk); (try clear hi); (try clear ho0)) | ((with_reducible refine gate_callee (f := 43) rfl ?_); refine goesL_ (some 90) rfl rfl Try.func43 (by kernel_rfl) rfl #[.slice Ao21 t511.length co21, .int .i64 a1] rfl (by (try simp only [List.map_toArray, List.map_cons, List.map_nil]); first | done | rfl) ?_; (with_reducible refine (stripe_Let.calls kj18 _ _ t511 a1 t537 _ ?side1 ?side2 A39.out).mono ?_); (case side1 => repeat (first | exact (Kd.V_reads' HO_9.out).2.2 | with_reducible first | refine Kd.C_alloc ?_ _ | refine Kd.C_drewN ?_ _ | refine Kd.C_drew ?_)); (case side2 => exact (Kd.V_reads' HO_9.out).2.1); rintro e w60 ⟨v538, rfl, ho0, hb⟩; refine ⟨_, rfl, ?_⟩; have n0_ := Aside0.mk (Kd.V_elder' (by (with_reducible repeat (first | apply Kd.V_alloc | apply Kd.V_drewN | apply Kd.V_drew)); exact HO_9.out) (Kd.R_base ho0) hb); have n1_ := Aside0.mk (Kd.V_elder' (by (with_reducible repeat (first | apply Kd.V_alloc | apply Kd.V_drewN | apply Kd.V_drew)); exact HO535.out) (Kd.R_base ho0) hb); have n2_ := Aside0.mk (Kd.R_lower ho0 bsz_); have n3_ := Aside0.mk (bst_ hb); clear HO_9; clear HO535; clear HB; have HO_9 := n0_; have HO535 := n1_; have HO539 := n2_; have HB := n3_; clear n0_ n1_ n2_ n3_; (try clear hb); (try clear hb2); (try clear hk); (try clear hi); (try clear ho0); obtain ⟨Ao61, co61, eo61⟩ := Kd.R_slice HO539.out; subst eo61) | (go_at_call 43; (with_reducible refine (stripe_Let.calls kj18 _ _ t537 a1 t546 _ ?side1 ?side2 A55.out).mono ?_); (case side1 => repeat (first | exact (Kd.R_reads' HO539.out).2.2 | with_reducible first | refine Kd.C_alloc ?_ _ | refine Kd.C_drewN ?_ _ | refine Kd.C_drew ?_)); (case side2 => exact (Kd.R_reads' HO539.out).2.1); rintro e w62 ⟨v547, rfl, ho0, hb⟩; have n0_ := Aside0.mk (Kd.V_elder' (by (with_reducible repeat (first | apply Kd.V_alloc | apply Kd.V_drewN | apply Kd.V_drew)); exact HO_9.out) (Kd.R_base ho0) hb); have n1_ := Aside0.mk (Kd.V_elder' (by (with_reducible repeat (first | apply Kd.V_alloc | apply Kd.V_drewN | apply Kd.V_drew)); exact HO535.out) (Kd.R_base ho0) hb); have n2_ := Aside0.mk (Kd.R_elder' (by (with_reducible repeat (first | apply Kd.R_alloc | apply Kd.R_drewN | apply Kd.R_drew)); exact HO539.out) (Kd.R_base ho0) hb); have n3_ := Aside0.mk (Kd.R_lower (Kd.R_new' ho0 (Kd.R_lt (by (with_reducible repeat (first | apply Kd.R_alloc | apply Kd.R_drewN | apply Kd.R_drew)); exact HO539.out))) bsz_); have n4_ := Aside0.mk (bst_ hb); clear HO_9; clear HO535; clear HO539; clear HB; have HO_9 := n0_; have HO535 := n1_; have HO539 := n2_; have HO548 := n3_; have HB := n4_; clear n0_ n1_ n2_ n3_ n4_; (try clear hb); (try clear hb2); (try clear hk); (try clear hi); (try clear ho0); obtain ⟨Ao63, co63, eo63⟩ := Kd.R_slice HO548.out; subst eo63) | (go_at_call 42; (with_reducible refine (handshakerref03_Same.calls kj18 _ _ t546 _ _ t537 true _ ?side1 ?side2 ?side3 ?side4 A56.out).mono ?_); (case side1 => repeat (first | exact (Kd.R_reads' HO548.out).2.2 | with_reducible first | refine Kd.C_alloc ?_ _ | refine Kd.C_drewN ?_ _ | refine Kd.C_drew ?_)); (case side2 => exact (Kd.R_reads' HO548.out).2.1); (case side3 => repeat (first | exact (Kd.R_reads' HO539.out).2.2 | with_reducible first | refine Kd.C_alloc ?_ _ | refine Kd.C_drewN ?_ _ | refine Kd.C_drew ?_)); (case side4 => exact (Kd.R_reads' HO539.out).2.1); rintro e w' ⟨rfl, ⟨nd, rfl⟩⟩) | (go_at_call 33; (with_reducible refine (handshakerlaw03_awake.calls kj18  t550 _ A58.out).mono ?_); rintro e w64 ⟨rfl, hb⟩; have n0_ := Aside0.mk (Kd.V_below (by (with_reducible repeat (first | apply Kd.V_alloc | apply Kd.V_drewN | apply Kd.V_drew)); exact HO_9.out) hb); have n1_ := Aside0.mk (Kd.V_below (by (with_reducible repeat (first | apply Kd.V_alloc | apply Kd.V_drewN | apply Kd.V_drew)); exact HO535.out) hb); have n2_ := Aside0.mk (Kd.R_below (by (with_reducible repeat (first | apply Kd.R_alloc | apply Kd.R_drewN | apply Kd.R_drew)); exact HO539.out) hb); have n3_ := Aside0.mk (Kd.R_below (by (with_reducible repeat (first | apply Kd.R_alloc | apply Kd.R_drewN | apply Kd.R_drew)); exact HO548.out) hb); have n4_ := Aside0.mk (bst_ hb); clear HO_9; clear HO535; clear HO539; clear HO548; clear HB; have HO_9 := n0_; have HO535 := n1_; have HO539 := n2_; have HO548 := n3_; have HB := n4_; clear n0_ n1_ n2_ n3_ n4_; (try clear hb); (try clear hb2); (try clear hk); (try clear hi)))
                 go_ret
                 exact ⟨by first | rfl | (simp [errW_none, errW_some] <;> rfl) | (simp [*, errW_none, errW_some] <;> rfl), by repeat (with_reducible first | exact HB.out | apply below_alloc | apply pw_below_drewN | apply below_drew1)⟩
               · replace c57 := Bool.eq_false_iff.mpr c57
                 subst c57
                 have H1 : (some false) = some r := by rw [if_neg (show ¬ (false = true) by decide)] at H; exact H
                 clear H
                 have H := H1
                 clear H1
                 exact absurd (Option.some.inj H) (by rw [HT.out]; decide)
       · rw [if_neg c17] at H
         exact absurd H (by simp)
     · rw [if_neg c16] at H
       exact absurd H (by simp)

/-- THE ONE PURE STATEMENT of handshakerlaw03_StripeAgain. -/
def handshakerlaw03_StripeAgain.Pure : Prop := ∀ (l0 : List (S67)) (a1 : Int) (l2 : List Int) (l3 : List Int), l0.length ≤ maxLen → l0.length * 16 ≤ 140737488351232 → (∀ y ∈ l0, wfS67 y) → (Lit.int .i64 a1).wf = true → l2.length ≤ maxLen → l2.length * 8 ≤ 140737488351232 → (∀ y ∈ l2, (Lit.int .i64 y).wf = true) → l3.length ≤ maxLen → l3.length * 8 ≤ 140737488351232 → (∀ y ∈ l3, (Lit.int .i64 y).wf = true) → ∃ k, handshakerlaw03_StripeAgain.f k l0 a1 l2 l3 = some true

end Go.Proofs.Ytlfmobnmohnjmaa.T
