-- PRINTED by print.py (a twelfth state) out of the translation. Not trusted: Lean checks it.
import Derived.Test.YtlfmobnmohnjmaaRsx0
import Derived.Test.YtlfmobnmohnjmaaRsx4
import Derived.Test.YtlfmobnmohnjmaaRsx5
import Derived.Test.YtlfmobnmohnjmaaRsx6
import Derived.Test.YtlfmobnmohnjmaaRsx7
namespace Go.Proofs.Ytlfmobnmohnjmaa.Rs
open Go.Proofs.Ytlfmobnmohnjmaa.Ho
open Go.RowKit Go.Proofs.YtlfmobnmohnjmaaW.PrintWords Go.Proofs.YtlfmobnmohnjmaaW.PrintLast Go.Proofs.YtlfmobnmohnjmaaW.PrintMore
attribute [local go_sem] max2_int min2_int max_two min_two max_three min_three max_four min_four   -- for this text's walks alone
set_option linter.unusedVariables false
set_option linter.unusedSimpArgs false

/-! ### handshakerlaw05_ReadsStay: function 8 -/
mutual
def handshakerlaw05_ReadsStay.j0 : Nat → List (S24) → List (S67) → Int → Int → Int → List Int → Bool → Option (Bool)
 | 0, _, _, _, _, _, _, _ => none
 | k + 1, x0, x1, x2, x3, x4, x5, x48 => if x48 = true then ((handshakerlaw05_awake.f k).bind fun t258 => (some t258)) else ((stripe_Lock.f k x1 x2 x5).bind fun bt259 => (if bt259.2 = 0 then ((reads_Valid.f k x0 bt259.1 x2).bind fun t263 => (handshakerlaw05_ReadsStay.j1 k x0 x1 x2 x3 x4 x5 (t263 != 0))) else (handshakerlaw05_ReadsStay.j1 k x0 x1 x2 x3 x4 x5 false)))
def handshakerlaw05_ReadsStay.j1 : Nat → List (S24) → List (S67) → Int → Int → Int → List Int → Bool → Option (Bool)
 | 0, _, _, _, _, _, _, _ => none
 | k + 1, x0, x1, x2, x3, x4, x5, x65 => if x65 = true then (some false) else ((stripe_Lock.f k x1 x3 x5).bind fun bt264 => (if bt264.2 = 0 then ((stripe_Of.f k x1 x5).bind fun t269 => (handshakerlaw05_ReadsStay.l0 k x0 x1 x2 x3 x4 bt264.1 false t269 (t269.length : Int) 0)) else ((handshakerlaw05_awake.f k).bind fun t268 => (some t268))))
def handshakerlaw05_ReadsStay.l0 : Nat → List (S24) → List (S67) → Int → Int → Int → List (S67) → Bool → List Int → Int → Int → Option (Bool)
 | 0, _, _, _, _, _, _, _, _, _, _ => none
 | k + 1, x0, x1, x2, x3, x4, x15, x17, x78, x79, x80 => if x80 < x79 then (if 0 ≤ x80 then (if x80 < (x78.length : Int) then (handshakerlaw05_ReadsStay.l1 k x0 x1 x2 x3 x4 x15 x17 (rd x78 x80) x78 x79 x80 x0 (x0.length : Int) 0) else (none)) else (none)) else ((reads_Valid.f k x0 x15 x2).bind fun t275 => (if t275 = 0 then (if x17 = true then (some false) else ((stripe_Stamp.f k x15 x3 x4).bind fun bt276 => (if bt276.2 = 0 then ((reads_Valid.f k x0 bt276.1 x2).bind fun t280 => (if t280 = 0 then ((handshakerlaw05_awake.f k).bind fun t281 => (some t281)) else (some false))) else ((handshakerlaw05_awake.f k).bind fun t282 => (some t282))))) else (if x17 = true then ((stripe_Stamp.f k x15 x3 x4).bind fun bt283 => (if bt283.2 = 0 then ((reads_Valid.f k x0 bt283.1 x2).bind fun t287 => (if t287 = 0 then (some false) else ((handshakerlaw05_awake.f k).bind fun t288 => (some t288)))) else ((handshakerlaw05_awake.f k).bind fun t289 => (some t289)))) else (some false))))
def handshakerlaw05_ReadsStay.l1 : Nat → List (S24) → List (S67) → Int → Int → Int → List (S67) → Bool → Int → List Int → Int → Int → List (S24) → Int → Int → Option (Bool)
 | 0, _, _, _, _, _, _, _, _, _, _, _, _, _, _ => none
 | k + 1, x0, x1, x2, x3, x4, x15, x17, x19, x78, x79, x80, x84, x85, x86 => if x86 < x85 then (if 0 ≤ x86 then (if x86 < (x84.length : Int) then (if x17 = true then (handshakerlaw05_ReadsStay.l1 k x0 x1 x2 x3 x4 x15 true x19 x78 x79 x80 x84 x85 (wrap64 (x86 + 1))) else (if (x1.length : Int) = 0 then (none) else (handshakerlaw05_ReadsStay.l1 k x0 x1 x2 x3 x4 x15 ((Int.tmod ((rd_T24 x84 x86).f0) (x1.length : Int)) == x19) x19 x78 x79 x80 x84 x85 (wrap64 (x86 + 1))))) else (none)) else (none)) else (handshakerlaw05_ReadsStay.l0 k x0 x1 x2 x3 x4 x15 x17 x78 x79 (wrap64 (x80 + 1)))
end
def handshakerlaw05_ReadsStay.f (k : Nat) (l0 : List (S24)) (l1 : List (S67)) (a2 : Int) (a3 : Int) (a4 : Int) (l5 : List Int) : Option (Bool) := if (l0.length : Int) > 24 then (handshakerlaw05_ReadsStay.j0 k l0 l1 a2 a3 a4 l5 true) else (if (l1.length : Int) > 16 then (handshakerlaw05_ReadsStay.j0 k l0 l1 a2 a3 a4 l5 true) else (if (l5.length : Int) > 30 then (handshakerlaw05_ReadsStay.j0 k l0 l1 a2 a3 a4 l5 true) else (if a2 = a3 then (handshakerlaw05_ReadsStay.j0 k l0 l1 a2 a3 a4 l5 true) else ((reads_Valid.f k l0 l1 a2).bind fun t257 => (handshakerlaw05_ReadsStay.j0 k l0 l1 a2 a3 a4 l5 (t257 != 0))))))
theorem handshakerlaw05_ReadsStay.mono_l : ∀ k, (∀ y0 y1 y2 y3 y4 y5 y6, LeO (handshakerlaw05_ReadsStay.j0 k y0 y1 y2 y3 y4 y5 y6) (handshakerlaw05_ReadsStay.j0 (k + 1) y0 y1 y2 y3 y4 y5 y6)) ∧ (∀ y0 y1 y2 y3 y4 y5 y6, LeO (handshakerlaw05_ReadsStay.j1 k y0 y1 y2 y3 y4 y5 y6) (handshakerlaw05_ReadsStay.j1 (k + 1) y0 y1 y2 y3 y4 y5 y6)) ∧ (∀ y0 y1 y2 y3 y4 y5 y6 y7 y8 y9, LeO (handshakerlaw05_ReadsStay.l0 k y0 y1 y2 y3 y4 y5 y6 y7 y8 y9) (handshakerlaw05_ReadsStay.l0 (k + 1) y0 y1 y2 y3 y4 y5 y6 y7 y8 y9)) ∧ (∀ y0 y1 y2 y3 y4 y5 y6 y7 y8 y9 y10 y11 y12 y13, LeO (handshakerlaw05_ReadsStay.l1 k y0 y1 y2 y3 y4 y5 y6 y7 y8 y9 y10 y11 y12 y13) (handshakerlaw05_ReadsStay.l1 (k + 1) y0 y1 y2 y3 y4 y5 y6 y7 y8 y9 y10 y11 y12 y13))
 | 0 => ⟨fun _ _ _ _ _ _ _ r h => by simp [handshakerlaw05_ReadsStay.j0] at h, fun _ _ _ _ _ _ _ r h => by simp [handshakerlaw05_ReadsStay.j1] at h, fun _ _ _ _ _ _ _ _ _ _ r h => by simp [handshakerlaw05_ReadsStay.l0] at h, fun _ _ _ _ _ _ _ _ _ _ _ _ _ _ r h => by simp [handshakerlaw05_ReadsStay.l1] at h⟩
 | k + 1 => by
  obtain ⟨ih0, ih1, ih2, ih3⟩ := handshakerlaw05_ReadsStay.mono_l k
  refine ⟨?_, ?_, ?_, ?_⟩
  · intro y0 y1 y2 y3 y4 y5 y6
    unfold handshakerlaw05_ReadsStay.j0
    repeat' first
    | (with_reducible exact ih0 _ _ _ _ _ _ _)
    | (with_reducible exact ih1 _ _ _ _ _ _ _)
    | (with_reducible exact ih2 _ _ _ _ _ _ _ _ _ _)
    | (with_reducible exact ih3 _ _ _ _ _ _ _ _ _ _ _ _ _ _)
    | (with_reducible exact handshakerlaw05_awake.mono _)
    | (with_reducible exact reads_Valid.mono _ _ _ _)
    | (with_reducible exact stripe_Lock.mono _ _ _ _)
    | (with_reducible exact stripe_Of.mono _ _ _)
    | (with_reducible exact stripe_Stamp.mono _ _ _ _)
    | (with_reducible exact LeO.refl _)
    | (with_reducible exact LeO.none _)
    | (with_reducible refine LeO.ite ?_ ?_)
    | (with_reducible refine LeO.bind ?_ (fun _ => ?_))
    | exact ih0 _ _ _ _ _ _ _
    | exact ih1 _ _ _ _ _ _ _
    | exact ih2 _ _ _ _ _ _ _ _ _ _
    | exact ih3 _ _ _ _ _ _ _ _ _ _ _ _ _ _
    | exact handshakerlaw05_awake.mono _
    | exact reads_Valid.mono _ _ _ _
    | exact stripe_Lock.mono _ _ _ _
    | exact stripe_Of.mono _ _ _
    | exact stripe_Stamp.mono _ _ _ _
    | exact LeO.none _
    | refine LeO.ite ?_ ?_
    | refine LeO.bind ?_ (fun _ => ?_)
  · intro y0 y1 y2 y3 y4 y5 y6
    unfold handshakerlaw05_ReadsStay.j1
    repeat' first
    | (with_reducible exact ih0 _ _ _ _ _ _ _)
    | (with_reducible exact ih1 _ _ _ _ _ _ _)
    | (with_reducible exact ih2 _ _ _ _ _ _ _ _ _ _)
    | (with_reducible exact ih3 _ _ _ _ _ _ _ _ _ _ _ _ _ _)
    | (with_reducible exact handshakerlaw05_awake.mono _)
    | (with_reducible exact reads_Valid.mono _ _ _ _)
    | (with_reducible exact stripe_Lock.mono _ _ _ _)
    | (with_reducible exact stripe_Of.mono _ _ _)
    | (with_reducible exact stripe_Stamp.mono _ _ _ _)
    | (with_reducible exact LeO.refl _)
    | (with_reducible exact LeO.none _)
    | (with_reducible refine LeO.ite ?_ ?_)
    | (with_reducible refine LeO.bind ?_ (fun _ => ?_))
    | exact ih0 _ _ _ _ _ _ _
    | exact ih1 _ _ _ _ _ _ _
    | exact ih2 _ _ _ _ _ _ _ _ _ _
    | exact ih3 _ _ _ _ _ _ _ _ _ _ _ _ _ _
    | exact handshakerlaw05_awake.mono _
    | exact reads_Valid.mono _ _ _ _
    | exact stripe_Lock.mono _ _ _ _
    | exact stripe_Of.mono _ _ _
    | exact stripe_Stamp.mono _ _ _ _
    | exact LeO.none _
    | refine LeO.ite ?_ ?_
    | refine LeO.bind ?_ (fun _ => ?_)
  · intro y0 y1 y2 y3 y4 y5 y6 y7 y8 y9
    unfold handshakerlaw05_ReadsStay.l0
    repeat' first
    | (with_reducible exact ih0 _ _ _ _ _ _ _)
    | (with_reducible exact ih1 _ _ _ _ _ _ _)
    | (with_reducible exact ih2 _ _ _ _ _ _ _ _ _ _)
    | (with_reducible exact ih3 _ _ _ _ _ _ _ _ _ _ _ _ _ _)
    | (with_reducible exact handshakerlaw05_awake.mono _)
    | (with_reducible exact reads_Valid.mono _ _ _ _)
    | (with_reducible exact stripe_Lock.mono _ _ _ _)
    | (with_reducible exact stripe_Of.mono _ _ _)
    | (with_reducible exact stripe_Stamp.mono _ _ _ _)
    | (with_reducible exact LeO.refl _)
    | (with_reducible exact LeO.none _)
    | (with_reducible refine LeO.ite ?_ ?_)
    | (with_reducible refine LeO.bind ?_ (fun _ => ?_))
    | exact ih0 _ _ _ _ _ _ _
    | exact ih1 _ _ _ _ _ _ _
    | exact ih2 _ _ _ _ _ _ _ _ _ _
    | exact ih3 _ _ _ _ _ _ _ _ _ _ _ _ _ _
    | exact handshakerlaw05_awake.mono _
    | exact reads_Valid.mono _ _ _ _
    | exact stripe_Lock.mono _ _ _ _
    | exact stripe_Of.mono _ _ _
    | exact stripe_Stamp.mono _ _ _ _
    | exact LeO.none _
    | refine LeO.ite ?_ ?_
    | refine LeO.bind ?_ (fun _ => ?_)
  · intro y0 y1 y2 y3 y4 y5 y6 y7 y8 y9 y10 y11 y12 y13
    unfold handshakerlaw05_ReadsStay.l1
    repeat' first
    | (with_reducible exact ih0 _ _ _ _ _ _ _)
    | (with_reducible exact ih1 _ _ _ _ _ _ _)
    | (with_reducible exact ih2 _ _ _ _ _ _ _ _ _ _)
    | (with_reducible exact ih3 _ _ _ _ _ _ _ _ _ _ _ _ _ _)
    | (with_reducible exact handshakerlaw05_awake.mono _)
    | (with_reducible exact reads_Valid.mono _ _ _ _)
    | (with_reducible exact stripe_Lock.mono _ _ _ _)
    | (with_reducible exact stripe_Of.mono _ _ _)
    | (with_reducible exact stripe_Stamp.mono _ _ _ _)
    | (with_reducible exact LeO.refl _)
    | (with_reducible exact LeO.none _)
    | (with_reducible refine LeO.ite ?_ ?_)
    | (with_reducible refine LeO.bind ?_ (fun _ => ?_))
    | exact ih0 _ _ _ _ _ _ _
    | exact ih1 _ _ _ _ _ _ _
    | exact ih2 _ _ _ _ _ _ _ _ _ _
    | exact ih3 _ _ _ _ _ _ _ _ _ _ _ _ _ _
    | exact handshakerlaw05_awake.mono _
    | exact reads_Valid.mono _ _ _ _
    | exact stripe_Lock.mono _ _ _ _
    | exact stripe_Of.mono _ _ _
    | exact stripe_Stamp.mono _ _ _ _
    | exact LeO.none _
    | refine LeO.ite ?_ ?_
    | refine LeO.bind ?_ (fun _ => ?_)
theorem handshakerlaw05_ReadsStay.mono : ∀ a0 a1 a2 a3 a4 a5 k, LeO (handshakerlaw05_ReadsStay.f k a0 a1 a2 a3 a4 a5) (handshakerlaw05_ReadsStay.f (k + 1) a0 a1 a2 a3 a4 a5) := by
 intro a0 a1 a2 a3 a4 a5 k
 obtain ⟨ih0, ih1, ih2, ih3⟩ := handshakerlaw05_ReadsStay.mono_l k
 unfold handshakerlaw05_ReadsStay.f
 repeat' first
  | (with_reducible exact ih0 _ _ _ _ _ _ _)
  | (with_reducible exact ih1 _ _ _ _ _ _ _)
  | (with_reducible exact ih2 _ _ _ _ _ _ _ _ _ _)
  | (with_reducible exact ih3 _ _ _ _ _ _ _ _ _ _ _ _ _ _)
  | (with_reducible exact handshakerlaw05_awake.mono _)
  | (with_reducible exact reads_Valid.mono _ _ _ _)
  | (with_reducible exact stripe_Lock.mono _ _ _ _)
  | (with_reducible exact stripe_Of.mono _ _ _)
  | (with_reducible exact stripe_Stamp.mono _ _ _ _)
  | (with_reducible exact LeO.refl _)
  | (with_reducible exact LeO.none _)
  | (with_reducible refine LeO.ite ?_ ?_)
  | (with_reducible refine LeO.bind ?_ (fun _ => ?_))
  | exact ih0 _ _ _ _ _ _ _
  | exact ih1 _ _ _ _ _ _ _
  | exact ih2 _ _ _ _ _ _ _ _ _ _
  | exact ih3 _ _ _ _ _ _ _ _ _ _ _ _ _ _
  | exact handshakerlaw05_awake.mono _
  | exact reads_Valid.mono _ _ _ _
  | exact stripe_Lock.mono _ _ _ _
  | exact stripe_Of.mono _ _ _
  | exact stripe_Stamp.mono _ _ _ _
  | exact LeO.none _
  | refine LeO.ite ?_ ?_
  | refine LeO.bind ?_ (fun _ => ?_)
set_option maxHeartbeats 8000000 in
set_option maxRecDepth 100000 in
theorem handshakerlaw05_ReadsStay.calls (k : Nat) (A0 : Option Addr) (c0 : Nat) (l0 : List (S24)) (A1 : Option Addr) (c1 : Nat) (l1 : List (S67)) (a2 : Int) (a3 : Int) (a4 : Int) (A5 : Option Addr) (c5 : Nat) (l5 : List Int) (r : Bool) (w : World) (HT : Aside0 (r = true)) (hr0 : Kd.C k24 w A0 l0.length l0) (hc0 : l0.length ≤ c0) (hr1 : Kd.C k67 w A1 l1.length l1) (hc1 : l1.length ≤ c1) (hr5 : Kd.C (Kd.int .i64) w A5 l5.length l5) (hc5 : l5.length ≤ c5) (h : handshakerlaw05_ReadsStay.f k l0 l1 a2 a3 a4 l5 = some r) :
 Calls Try.prog 8 #[.slice A0 l0.length c0, .slice A1 l1.length c1, .int .i64 a2, .int .i64 a3, .int .i64 a4, .slice A5 l5.length c5] w fun e w' => e = .returned (.bool r) ∧ Below w.heap.size w w' := by
 have hu24 := Try.underlying24
 have HR0 := Aside0.mk hr0
 have HC0 := Aside0.mk hc0
 clear hr0 hc0
 have HR1 := Aside0.mk hr1
 have HC1 := Aside0.mk hc1
 clear hr1 hc1
 have HR5 := Aside0.mk hr5
 have HC5 := Aside0.mk hc5
 clear hr5 hc5
 have HB := Aside0.mk (Below.refl w.heap.size w)
 have H : (if (l0.length : Int) > 24 then (handshakerlaw05_ReadsStay.j0 k l0 l1 a2 a3 a4 l5 true) else (if (l1.length : Int) > 16 then (handshakerlaw05_ReadsStay.j0 k l0 l1 a2 a3 a4 l5 true) else (if (l5.length : Int) > 30 then (handshakerlaw05_ReadsStay.j0 k l0 l1 a2 a3 a4 l5 true) else (if a2 = a3 then (handshakerlaw05_ReadsStay.j0 k l0 l1 a2 a3 a4 l5 true) else ((reads_Valid.f k l0 l1 a2).bind fun t257 => (handshakerlaw05_ReadsStay.j0 k l0 l1 a2 a3 a4 l5 (t257 != 0))))))) = some r := h
 clear h
 have HC7 := Aside0.mk H
 clear H
 go_enter Try.func8, Try.ntmps8
 go_upto_region 1 with (fail)
 go_cut [48] (fun v48 wc => ∃ (kq : Nat) (x48_6 : Bool), v48 = .bool x48_6 ∧ Aside0 (handshakerlaw05_ReadsStay.j0 kq l0 l1 a2 a3 a4 l5 x48_6 = some r) ∧ Aside0 (kq ≤ k) ∧ Aside0 (Below w.heap.size w wc))
 case first =>
  have H := HC7.out
  clear HC7
  by_cases c8 : (l0.length : Int) > 24
  · rw [if_pos c8] at H
    have c8b0 : decide (24 < (l0.length : Int)) = true := decide_eq_true c8
    have c8b1 : decide (24 < l0.length) = true := decide_eq_true (by omega)
    clear c8
    (first | rw [c8b0] | (simp only [i64_w, i32_w]; rw [c8b0]) | skip)
    have H' := Aside0.mk H
    clear H
    go_wp2
    go_meet
    case rel => exact ⟨_, (true), (by first | rfl | (simp; done) | (simp [*]; done)), H', ⟨by first | omega | exact Nat.le_refl _⟩, ⟨by repeat (with_reducible first | exact HB.out | apply below_alloc | apply pw_below_drewN | apply below_drew1)⟩⟩
  · rw [if_neg c8] at H
    have c8b0 : decide (24 < (l0.length : Int)) = false := decide_eq_false c8
    have c8b1 : decide (24 < l0.length) = false := decide_eq_false (by omega)
    clear c8
    (first | rw [c8b0] | (simp only [i64_w, i32_w]; rw [c8b0]) | skip)
    by_cases c9 : (l1.length : Int) > 16
    · rw [if_pos c9] at H
      have c9b0 : decide (16 < (l1.length : Int)) = true := decide_eq_true c9
      have c9b1 : decide (16 < l1.length) = true := decide_eq_true (by omega)
      clear c9
      have H' := Aside0.mk H
      clear H
      go_wp2
      go_meet
      case rel => exact ⟨_, (true), (by first | rfl | (simp; done) | (simp [*]; done)), H', ⟨by first | omega | exact Nat.le_refl _⟩, ⟨by repeat (with_reducible first | exact HB.out | apply below_alloc | apply pw_below_drewN | apply below_drew1)⟩⟩
    · rw [if_neg c9] at H
      have c9b0 : decide (16 < (l1.length : Int)) = false := decide_eq_false c9
      have c9b1 : decide (16 < l1.length) = false := decide_eq_false (by omega)
      clear c9
      by_cases c10 : (l5.length : Int) > 30
      · rw [if_pos c10] at H
        have c10b0 : decide (30 < (l5.length : Int)) = true := decide_eq_true c10
        have c10b1 : decide (30 < l5.length) = true := decide_eq_true (by omega)
        clear c10
        have H' := Aside0.mk H
        clear H
        go_wp2
        go_meet
        case rel => exact ⟨_, (true), (by first | rfl | (simp; done) | (simp [*]; done)), H', ⟨by first | omega | exact Nat.le_refl _⟩, ⟨by repeat (with_reducible first | exact HB.out | apply below_alloc | apply pw_below_drewN | apply below_drew1)⟩⟩
      · rw [if_neg c10] at H
        have c10b0 : decide (30 < (l5.length : Int)) = false := decide_eq_false c10
        have c10b1 : decide (30 < l5.length) = false := decide_eq_false (by omega)
        clear c10
        by_cases c11 : a2 = a3
        · rw [if_pos c11] at H
          have c11b0 : (a2 == a3) = true := beq_iff_eq.mpr c11
          have c11b1 : (a2 != a3) = false := bne_eq_false_iff_eq.mpr c11
          clear c11
          have H' := Aside0.mk H
          clear H
          go_wp2
          go_meet
          case rel => exact ⟨_, (true), (by first | rfl | (simp; done) | (simp [*]; done)), H', ⟨by first | omega | exact Nat.le_refl _⟩, ⟨by repeat (with_reducible first | exact HB.out | apply below_alloc | apply pw_below_drewN | apply below_drew1)⟩⟩
        · rw [if_neg c11] at H
          have c11b0 : (a2 == a3) = false := beq_eq_false_iff_ne.mpr c11
          have c11b1 : (a2 != a3) = true := bne_iff_ne.mpr c11
          replace H := Option.bind_eq_some_iff.mp H
          obtain ⟨t257, A120, H⟩ := H
          replace H : (handshakerlaw05_ReadsStay.j0 k l0 l1 a2 a3 a4 l5 (t257 != 0)) = some r := H
          have A12 := Aside0.mk A120
          clear A120
          have H' := Aside0.mk H
          clear H
          go_wp2_with (first | (go_at_call 26; (with_reducible refine (reads_Valid.calls k _ _ l0 _ _ l1 a2 t257 _ ?side1 ?side2 ?side3 ?side4 A12.out).mono ?_); (case side1 => repeat (first | exact (Kd.C_below HR0.out HB.out) | with_reducible first | refine Kd.C_alloc ?_ _ | refine Kd.C_drewN ?_ _ | refine Kd.C_drew ?_)); (case side2 => exact HC0.out); (case side3 => repeat (first | exact (Kd.C_below HR1.out HB.out) | with_reducible first | refine Kd.C_alloc ?_ _ | refine Kd.C_drewN ?_ _ | refine Kd.C_drew ?_)); (case side4 => exact HC1.out); rintro e w13 ⟨rfl, hb⟩; have n0_ := Aside0.mk (bst_ hb); clear HB; have HB := n0_; clear n0_; (try clear hb); (try clear hb2); (try clear hk); (try clear hi)))
          go_meet
          case rel => exact ⟨_, ((t257 != 0)), (by first | rfl | (simp; done) | (simp [*]; done)), H', ⟨by first | omega | exact Nat.le_refl _⟩, ⟨by repeat (with_reducible first | exact HB.out | apply below_alloc | apply pw_below_drewN | apply below_drew1)⟩⟩
 case rest =>
  clear HC7
  try clear c1
  try clear p2
  try clear c5
  try clear c8
  try clear c8b0
  try clear c8b1
  try clear c9
  try clear c9b0
  try clear c9b1
  try clear c10
  try clear c10b0
  try clear c10b1
  try clear c11
  try clear c11b0
  try clear c11b1
  obtain ⟨kq, x48_6, rfl, HA, HJ6, HB⟩ := hcut
  cases kq with
  | zero => exact absurd HA.out (by simp [handshakerlaw05_ReadsStay.j0])
  | succ kj6 =>
   have H := HA.out
   clear HA
   simp only [handshakerlaw05_ReadsStay.j0] at H
   by_cases c14 : x48_6 = true
   · subst c14
     have H1 : ((handshakerlaw05_awake.f kj6).bind fun t258 => (some t258)) = some r := by rw [if_pos rfl] at H; exact H
     clear H
     have H := H1
     clear H1
     replace H := Option.bind_eq_some_iff.mp H
     obtain ⟨t258, A150, H⟩ := H
     replace H : (some t258) = some r := H
     have A15 := Aside0.mk A150
     clear A150
     obtain rfl := Option.some.inj H
     go_wp2_with (first | ((with_reducible refine gate_callee (f := 15) rfl ?_); refine goesL_ (some 49) rfl rfl Try.func15 (by kernel_rfl) rfl #[] rfl (by (try simp only [List.map_toArray, List.map_cons, List.map_nil]); first | done | rfl) ?_; (with_reducible refine (handshakerlaw05_awake.calls kj6  t258 _ A15.out).mono ?_); rintro e w16 ⟨rfl, hb⟩; refine ⟨_, rfl, ?_⟩; have n0_ := Aside0.mk (bst_ hb); clear HB; have HB := n0_; clear n0_; (try clear hb); (try clear hb2); (try clear hk); (try clear hi)))
     go_ret
     exact ⟨by first | rfl | (simp [errW_none, errW_some] <;> rfl) | (simp [*, errW_none, errW_some] <;> rfl), by repeat (with_reducible first | exact HB.out | apply below_alloc | apply pw_below_drewN | apply below_drew1)⟩
   · replace c14 := Bool.eq_false_iff.mpr c14
     subst c14
     have H1 : ((stripe_Lock.f kj6 l1 a2 l5).bind fun bt259 => (if bt259.2 = 0 then ((reads_Valid.f kj6 l0 bt259.1 a2).bind fun t263 => (handshakerlaw05_ReadsStay.j1 kj6 l0 l1 a2 a3 a4 l5 (t263 != 0))) else (handshakerlaw05_ReadsStay.j1 kj6 l0 l1 a2 a3 a4 l5 false))) = some r := by rw [if_neg (show ¬ (false = true) by decide)] at H; exact H
     clear H
     have H := H1
     clear H1
     replace H := Option.bind_eq_some_iff.mp H
     obtain ⟨⟨t259, t262⟩, A170, H⟩ := H
     replace H : (if t262 = 0 then ((reads_Valid.f kj6 l0 t259 a2).bind fun t263 => (handshakerlaw05_ReadsStay.j1 kj6 l0 l1 a2 a3 a4 l5 (t263 != 0))) else (handshakerlaw05_ReadsStay.j1 kj6 l0 l1 a2 a3 a4 l5 false)) = some r := H
     have A17 := Aside0.mk A170
     clear A170
     have HC18 := Aside0.mk H
     clear H
     go_upto_region 4 with (first | ((with_reducible refine gate_callee (f := 30) rfl ?_); refine goesL_ (some 54) rfl rfl Try.func30 (by kernel_rfl) rfl #[.slice A1 l1.length c1, .int .i64 a2, .slice A5 l5.length c5] rfl (by (try simp only [List.map_toArray, List.map_cons, List.map_nil]); first | done | rfl) ?_; (with_reducible refine (stripe_Lock.calls kj6 (fun k_ => k_ < w.heap.size) _ _ l1 a2 _ _ l5 t259 t262 _ ?side1 ?side2 ?side3 A17.out).mono ?_); (case side1 => exact Kd.V_mk HC1.out (Kd.F_below (Kd.C_F k67_heap HR1.out) (by repeat (with_reducible first | exact HB.out | apply below_alloc | apply pw_below_drewN | apply below_drew1)))); (case side2 => repeat (first | exact (Kd.C_below HR5.out HB.out) | with_reducible first | refine Kd.C_alloc ?_ _ | refine Kd.C_drewN ?_ _ | refine Kd.C_drew ?_)); (case side3 => exact HC5.out); rintro e w19 ⟨v260, rfl, ho0, hb⟩; refine ⟨_, rfl, ?_⟩; have n0_ := Aside0.mk (Kd.V_lower (Kd.V_mono (ok' := fun k_ => True) ho0 (fun k_ hk_ => trivial)) bsz_); have n1_ := Aside0.mk (bst_ hb); clear HB; have HO261 := n0_; have HB := n1_; clear n0_ n1_; (try clear hb); (try clear hb2); (try clear hk); (try clear hi); (try clear ho0)))
     (try simp only [Act.put, List.setIfInBounds_toArray, List.set_cons_zero, List.set_cons_succ])
     go_cut [65] (fun v65 wc => ∃ (kq : Nat) (x65_17 : Bool), v65 = .bool x65_17 ∧ Aside0 (handshakerlaw05_ReadsStay.j1 kq l0 l1 a2 a3 a4 l5 x65_17 = some r) ∧ Aside0 (kq ≤ kj6) ∧ Aside0 (Below w.heap.size w wc))
     case first =>
      have H := HC18.out
      clear HC18
      by_cases c20 : t262 = 0
      · rw [if_pos c20] at H
        have c20b0 : (t262 == 0) = true := beq_iff_eq.mpr c20
        have c20b1 : (t262 != 0) = false := bne_eq_false_iff_eq.mpr c20
        clear c20
        (first | rw [c20b0] | (simp only [i64_w, i32_w]; rw [c20b0]) | skip)
        replace H := Option.bind_eq_some_iff.mp H
        obtain ⟨t263, A210, H⟩ := H
        replace H : (handshakerlaw05_ReadsStay.j1 kj6 l0 l1 a2 a3 a4 l5 (t263 != 0)) = some r := H
        have A21 := Aside0.mk A210
        clear A210
        have H' := Aside0.mk H
        clear H
        obtain ⟨Ao22, co22, eo22⟩ := Kd.V_slice HO261.out
        subst eo22
        go_wp2_with (first | (go_at_call 26; (with_reducible refine (reads_Valid.calls kj6 _ _ l0 _ _ t259 a2 t263 _ ?side1 ?side2 ?side3 ?side4 A21.out).mono ?_); (case side1 => repeat (first | exact (Kd.C_below HR0.out HB.out) | with_reducible first | refine Kd.C_alloc ?_ _ | refine Kd.C_drewN ?_ _ | refine Kd.C_drew ?_)); (case side2 => exact HC0.out); (case side3 => repeat (first | exact (Kd.V_reads' HO261.out).2.2 | with_reducible first | refine Kd.C_alloc ?_ _ | refine Kd.C_drewN ?_ _ | refine Kd.C_drew ?_)); (case side4 => exact (Kd.V_reads' HO261.out).2.1); rintro e w23 ⟨rfl, hb⟩; have n0_ := Aside0.mk (Kd.V_below (by (with_reducible repeat (first | apply Kd.V_alloc | apply Kd.V_drewN | apply Kd.V_drew)); exact HO261.out) hb); have n1_ := Aside0.mk (bst_ hb); clear HO261; clear HB; have HO261 := n0_; have HB := n1_; clear n0_ n1_; (try clear hb); (try clear hb2); (try clear hk); (try clear hi)))
        go_meet
        case rel => exact ⟨_, ((t263 != 0)), (by first | rfl | (simp; done) | (simp [*]; done)), H', ⟨by have := HJ6.out; first | omega | exact Nat.le_refl _⟩, ⟨by repeat (with_reducible first | exact HB.out | apply below_alloc | apply pw_below_drewN | apply below_drew1)⟩⟩
      · rw [if_neg c20] at H
        have c20b0 : (t262 == 0) = false := beq_eq_false_iff_ne.mpr c20
        have c20b1 : (t262 != 0) = true := bne_iff_ne.mpr c20
        (first | rw [c20b0] | (simp only [i64_w, i32_w]; rw [c20b0]) | skip)
        have H' := Aside0.mk H
        clear H
        go_wp2
        go_meet
        case rel => exact ⟨_, (false), (by first | rfl | (simp; done) | (simp [*]; done)), H', ⟨by have := HJ6.out; first | omega | exact Nat.le_refl _⟩, ⟨by repeat (with_reducible first | exact HB.out | apply below_alloc | apply pw_below_drewN | apply below_drew1)⟩⟩
     case rest =>
      clear HC18
      try clear c1
      try clear c2
      try clear p2
      try clear c3
      try clear c5
      try clear c8
      try clear c8b0
      try clear c8b1
      try clear c9
      try clear c9b0
      try clear c9b1
      try clear c10
      try clear c10b0
      try clear c10b1
      try clear c11
      try clear c11b0
      try clear c11b1
      try clear c14
      try clear c15
      try clear c20
      try clear c20b0
      try clear c20b1
      try clear p2
      obtain ⟨kq, x65_17, rfl, HA, HJ17, HB⟩ := hcut
      cases kq with
      | zero => exact absurd HA.out (by simp [handshakerlaw05_ReadsStay.j1])
      | succ kj17 =>
       have H := HA.out
       clear HA
       simp only [handshakerlaw05_ReadsStay.j1] at H
       by_cases c24 : x65_17 = true
       · subst c24
         have H1 : (some false) = some r := by rw [if_pos rfl] at H; exact H
         clear H
         have H := H1
         clear H1
         exact absurd (Option.some.inj H) (by rw [HT.out]; decide)
       · replace c24 := Bool.eq_false_iff.mpr c24
         subst c24
         have H1 : ((stripe_Lock.f kj17 l1 a3 l5).bind fun bt264 => (if bt264.2 = 0 then ((stripe_Of.f kj17 l1 l5).bind fun t269 => (handshakerlaw05_ReadsStay.l0 kj17 l0 l1 a2 a3 a4 bt264.1 false t269 (t269.length : Int) 0)) else ((handshakerlaw05_awake.f kj17).bind fun t268 => (some t268)))) = some r := by rw [if_neg (show ¬ (false = true) by decide)] at H; exact H
         clear H
         have H := H1
         clear H1
         replace H := Option.bind_eq_some_iff.mp H
         obtain ⟨⟨t264, t267⟩, A250, H⟩ := H
         replace H : (if t267 = 0 then ((stripe_Of.f kj17 l1 l5).bind fun t269 => (handshakerlaw05_ReadsStay.l0 kj17 l0 l1 a2 a3 a4 t264 false t269 (t269.length : Int) 0)) else ((handshakerlaw05_awake.f kj17).bind fun t268 => (some t268))) = some r := H
         have A25 := Aside0.mk A250
         clear A250
         by_cases c26 : t267 = 0
         · rw [if_pos c26] at H
           have c26b0 : (t267 == 0) = true := beq_iff_eq.mpr c26
           have c26b1 : (t267 != 0) = false := bne_eq_false_iff_eq.mpr c26
           clear c26
           replace H := Option.bind_eq_some_iff.mp H
           obtain ⟨t269, A270, H⟩ := H
           replace H : (handshakerlaw05_ReadsStay.l0 kj17 l0 l1 a2 a3 a4 t264 false t269 (t269.length : Int) 0) = some r := H
           have A27 := Aside0.mk A270
           clear A270
           have H' := Aside0.mk H
           clear H
           go_wp2_with (first | ((with_reducible refine gate_callee (f := 30) rfl ?_); refine goesL_ (some 70) rfl rfl Try.func30 (by kernel_rfl) rfl #[.slice A1 l1.length c1, .int .i64 a3, .slice A5 l5.length c5] rfl (by (try simp only [List.map_toArray, List.map_cons, List.map_nil]); first | done | rfl) ?_; (with_reducible refine (stripe_Lock.calls kj17 (fun k_ => k_ < w.heap.size) _ _ l1 a3 _ _ l5 t264 t267 _ ?side1 ?side2 ?side3 A25.out).mono ?_); (case side1 => exact Kd.V_mk HC1.out (Kd.F_below (Kd.C_F k67_heap HR1.out) (by repeat (with_reducible first | exact HB.out | apply below_alloc | apply pw_below_drewN | apply below_drew1)))); (case side2 => repeat (first | exact (Kd.C_below HR5.out HB.out) | with_reducible first | refine Kd.C_alloc ?_ _ | refine Kd.C_drewN ?_ _ | refine Kd.C_drew ?_)); (case side3 => exact HC5.out); rintro e w28 ⟨v265, rfl, ho0, hb⟩; refine ⟨_, rfl, ?_⟩; have n0_ := Aside0.mk (Kd.V_lower (Kd.V_mono (ok' := fun k_ => True) ho0 (fun k_ hk_ => trivial)) bsz_); have n1_ := Aside0.mk (bst_ hb); clear HB; have HO266 := n0_; have HB := n1_; clear n0_ n1_; (try clear hb); (try clear hb2); (try clear hk); (try clear hi); (try clear ho0)) | ((with_reducible refine gate_callee (f := 31) rfl ?_); refine goesL_ (some 78) rfl rfl Try.func31 (by kernel_rfl) rfl #[.slice A1 l1.length c1, .slice A5 l5.length c5] rfl (by (try simp only [List.map_toArray, List.map_cons, List.map_nil]); first | done | rfl) ?_; (with_reducible refine (stripe_Of.calls kj17 _ _ l1 _ _ l5 t269 _ ?side1 ?side2 ?side3 ?side4 A27.out).mono ?_); (case side1 => repeat (first | exact (Kd.C_below HR1.out HB.out) | with_reducible first | refine Kd.C_alloc ?_ _ | refine Kd.C_drewN ?_ _ | refine Kd.C_drew ?_)); (case side2 => exact HC1.out); (case side3 => repeat (first | exact (Kd.C_below HR5.out HB.out) | with_reducible first | refine Kd.C_alloc ?_ _ | refine Kd.C_drewN ?_ _ | refine Kd.C_drew ?_)); (case side4 => exact HC5.out); rintro e w29 ⟨v270, rfl, ho0, hb⟩; refine ⟨_, rfl, ?_⟩; have n0_ := Aside0.mk (Kd.V_elder' (by (with_reducible repeat (first | apply Kd.V_alloc | apply Kd.V_drewN | apply Kd.V_drew)); exact HO266.out) (Kd.R_base ho0) hb); have n1_ := Aside0.mk (Kd.R_lower ho0 bsz_); have n2_ := Aside0.mk (bst_ hb); clear HO266; clear HB; have HO266 := n0_; have HO271 := n1_; have HB := n2_; clear n0_ n1_ n2_; (try clear hb); (try clear hb2); (try clear hk); (try clear hi); (try clear ho0); obtain ⟨Ao30, co30, eo30⟩ := Kd.R_slice HO271.out; subst eo30))
           go_loopg [17, 80] kj17 (fun kq v17 v80 w' => ∃ (x17_3 : Bool) (x80_3 : Int), v17 = .bool x17_3 ∧ v80 = .int .i64 x80_3 ∧ Aside0 (handshakerlaw05_ReadsStay.l0 kq l0 l1 a2 a3 a4 t264 x17_3 t269 (t269.length : Int) x80_3 = some r) ∧ Aside0 (kq ≤ kj17) ∧ Aside0 (Kd.V k67 67 w' w.heap.size (fun k_ => some k_ ≠ ((.slice Ao30 t269.length co30) : Value).ownBlock) v265 t264) ∧ Aside0 (Kd.R (Kd.int .i64) 3 w' w.heap.size (fun _ => True) (.slice Ao30 t269.length co30) t269) ∧ Aside0 (Below w.heap.size w w'))
           case atStart => exact ⟨(false), (0), (by first | rfl | (simp; done) | (simp [*]; done)), (by first | rfl | (simp; done) | (simp [*]; done)), H', ⟨Nat.le_refl _⟩, ⟨by (with_reducible repeat (first | apply Kd.V_alloc | apply Kd.V_drewN | apply Kd.V_drew)); exact Kd.V_mono HO266.out (fun _ hk => hk.2)⟩, ⟨by (with_reducible repeat (first | apply Kd.R_alloc | apply Kd.R_drewN | apply Kd.R_drew)); exact HO271.out⟩, ⟨by repeat (with_reducible first | exact HB.out | apply below_alloc | apply pw_below_drewN | apply below_drew1)⟩⟩
           case round =>
            clear H'
            try clear c1
            try clear c2
            try clear p2
            try clear c3
            try clear c5
            try clear c8
            try clear c8b0
            try clear c8b1
            try clear c9
            try clear c9b0
            try clear c9b1
            try clear c10
            try clear c10b0
            try clear c10b1
            try clear c11
            try clear c11b0
            try clear c11b1
            try clear c14
            try clear c15
            try clear c20
            try clear c20b0
            try clear c20b1
            try clear c24
            try clear c26
            try clear c26b0
            try clear c26b1
            try clear c30
            try clear p2
            obtain ⟨x17_3, x80_3, rfl, rfl, HA, HK3, HO_15, HO_78, HB⟩ := hrel
            cases gk with
            | zero => exact absurd HA.out (by simp [handshakerlaw05_ReadsStay.l0])
            | succ k3 =>
             have H := HA.out
             clear HA
             simp only [handshakerlaw05_ReadsStay.l0] at H
             by_cases c31 : x80_3 < (t269.length : Int)
             · rw [if_pos c31] at H
               have c31b0 : decide (x80_3 < (t269.length : Int)) = true := decide_eq_true c31
               clear c31
               by_cases c32 : 0 ≤ x80_3
               · rw [if_pos c32] at H
                 have c32b0 : decide (0 ≤ x80_3) = true := decide_eq_true c32
                 clear c32
                 by_cases c33 : x80_3 < (t269.length : Int)
                 · rw [if_pos c33] at H
                   have c33b0 : decide (x80_3 < (t269.length : Int)) = true := decide_eq_true c33
                   clear c33
                   have H' := Aside0.mk H
                   clear H
                   have p272 : 0 ≤ (x80_3 : Int) := of_decide_eq_true (by first | (with_reducible assumption) | assumption)
                   have q272 : x80_3 < (t269.length : Int) := of_decide_eq_true (by first | (with_reducible assumption) | assumption)
                   obtain ⟨ad272, e272, hx272_0⟩ := Kd.at_int (Kd.R_reads' HO_78.out).2.2 x80_3 p272 q272
                   cases e272
                   replace p272 := eq_true p272
                   replace q272 := eq_true q272
                   go_wp2
                   go_loopg [17, 86] k3 (fun kq v17 v86 w' => ∃ (x17_4 : Bool) (x86_4 : Int), v17 = .bool x17_4 ∧ v86 = .int .i64 x86_4 ∧ Aside0 (handshakerlaw05_ReadsStay.l1 kq l0 l1 a2 a3 a4 t264 x17_4 (rd t269 x80_3) t269 (t269.length : Int) x80_3 l0 (l0.length : Int) x86_4 = some r) ∧ Aside0 (kq ≤ k3) ∧ Aside0 (Kd.V k67 67 w' w.heap.size (fun k_ => some k_ ≠ ((.slice (some ad272) t269.length co30) : Value).ownBlock) v265 t264) ∧ Aside0 (Kd.R (Kd.int .i64) 3 w' w.heap.size (fun _ => True) (.slice (some ad272) t269.length co30) t269) ∧ Aside0 (Below w.heap.size w w'))
                   case atStart => exact ⟨(x17_3), (0), (by first | rfl | (simp; done) | (simp [*]; done)), (by first | rfl | (simp; done) | (simp [*]; done)), H', ⟨Nat.le_refl _⟩, ⟨by (with_reducible repeat (first | apply Kd.V_alloc | apply Kd.V_drewN | apply Kd.V_drew)); exact HO_15.out⟩, ⟨by (with_reducible repeat (first | apply Kd.R_alloc | apply Kd.R_drewN | apply Kd.R_drew)); exact HO_78.out⟩, ⟨by repeat (with_reducible first | exact HB.out | apply below_alloc | apply pw_below_drewN | apply below_drew1)⟩⟩
                   case round =>
                    clear H'
                    try clear c1
                    try clear c2
                    try clear p2
                    try clear q2
                    try clear hx2
                    try clear c3
                    try clear c5
                    try clear c8
                    try clear c8b0
                    try clear c8b1
                    try clear c9
                    try clear c9b0
                    try clear c9b1
                    try clear c10
                    try clear c10b0
                    try clear c10b1
                    try clear c11
                    try clear c11b0
                    try clear c11b1
                    try clear c14
                    try clear c15
                    try clear c20
                    try clear c20b0
                    try clear c20b1
                    try clear c24
                    try clear c26
                    try clear c26b0
                    try clear c26b1
                    try clear p27
                    try clear q27
                    try clear hx27
                    try clear c30
                    try clear c31
                    try clear c31b0
                    try clear c32
                    try clear c32b0
                    try clear c33
                    try clear c33b0
                    try clear hx272_0
                    try clear p2
                    try clear p272
                    try clear q272
                    obtain ⟨x17_4, x86_4, rfl, rfl, HA, HK4, HO_15, HO_78, HB⟩ := hrel
                    cases gk with
                    | zero => exact absurd HA.out (by simp [handshakerlaw05_ReadsStay.l1])
                    | succ k4 =>
                     have H := HA.out
                     clear HA
                     simp only [handshakerlaw05_ReadsStay.l1] at H
                     by_cases c34 : x86_4 < (l0.length : Int)
                     · rw [if_pos c34] at H
                       have c34b0 : decide (x86_4 < (l0.length : Int)) = true := decide_eq_true c34
                       clear c34
                       by_cases c35 : 0 ≤ x86_4
                       · rw [if_pos c35] at H
                         have c35b0 : decide (0 ≤ x86_4) = true := decide_eq_true c35
                         clear c35
                         by_cases c36 : x86_4 < (l0.length : Int)
                         · rw [if_pos c36] at H
                           have c36b0 : decide (x86_4 < (l0.length : Int)) = true := decide_eq_true c36
                           clear c36
                           by_cases c37 : x17_4 = true
                           · subst c37
                             have H1 : (handshakerlaw05_ReadsStay.l1 k4 l0 l1 a2 a3 a4 t264 true (rd t269 x80_3) t269 (t269.length : Int) x80_3 l0 (l0.length : Int) (wrap64 (x86_4 + 1))) = some r := by rw [if_pos rfl] at H; exact H
                             clear H
                             have H := H1
                             clear H1
                             have H' := Aside0.mk H
                             clear H
                             have p273 : 0 ≤ (x86_4 : Int) := of_decide_eq_true (by first | (with_reducible assumption) | assumption)
                             have q273 : x86_4 < (l0.length : Int) := of_decide_eq_true (by first | (with_reducible assumption) | assumption)
                             obtain ⟨ad273, e273, hx273_0, hx273_1, hx273_2⟩ := at_T24 HR0.out x86_4 p273 q273
                             cases e273
                             replace hx273_0 := (HB.out.cell (World.block_lt_of_cell? w _ hx273_0)).trans hx273_0
                             replace hx273_1 := (HB.out.cell (World.block_lt_of_cell? w _ hx273_1)).trans hx273_1
                             replace hx273_2 := (HB.out.cell (World.block_lt_of_cell? w _ hx273_2)).trans hx273_2
                             replace p273 := eq_true p273
                             replace q273 := eq_true q273
                             go_wp2_with (first | ((with_reducible refine gate_dst (N := 21) rfl ?_); (try (refine gate_guard (by rfl) ?_; dsimp only)); refine box_event ?hg (N := 21) ?hd (cs := #[.int .i64 0, .int .i64 0, .int .i64 0]) (t := 24) ?hr ?_; (case hd => rfl); (case hg => rfl); (case hr => first | (go_simp; done) | (go_simp; rfl)); intro gb274 hg w38 hbox hb; have n0_ := Aside0.mk (Kd.V_below (Kd.V_elderB (by (with_reducible repeat (first | apply Kd.V_alloc | apply Kd.V_drewN | apply Kd.V_drew)); exact HO_15.out) gb274 (Nat.le_of_eq hg.symm)) hb); have n1_ := Aside0.mk (Kd.R_below (by (with_reducible repeat (first | apply Kd.R_alloc | apply Kd.R_drewN | apply Kd.R_drew)); exact HO_78.out) hb); have n2_ := Aside0.mk (bst_ hb); have n3_ := Aside0.mk (hbox); have n4_ := Aside0.mk ((by rw [hg]; exact bsz_ : w.heap.size ≤ gb274)); have n5_ := n4_; clear HO_15; clear HO_78; clear HB; have HO_15 := n0_; have HO_78 := n1_; have HB := n2_; have BK274 := n3_; have GW274 := n4_; have GE274 := n5_; clear n0_ n1_ n2_ n3_ n4_ n5_; clear hb hbox hg; have hcz39_0 : w38.cell? ⟨gb274, 0, none⟩ = some (.int .i64 0) := (blk_cell BK274.out 0).trans rfl; have hcz39_1 : w38.cell? ⟨gb274, 1, none⟩ = some (.int .i64 0) := (blk_cell BK274.out 1).trans rfl; have hcz39_2 : w38.cell? ⟨gb274, 2, none⟩ = some (.int .i64 0) := (blk_cell BK274.out 2).trans rfl; have hfz39_0 := blk_frozen BK274.out 0; have hfz39_1 := blk_frozen BK274.out 1; have hfz39_2 := blk_frozen BK274.out 2))
                             go_roundg k4
                             case measure => have := HJ6.out; have := HJ17.out; have := HK3.out; have := HK4.out; omega
                             case rel => exact ⟨(true), (wrap64 (x86_4 + 1)), (by first | rfl | (simp; done) | (simp [*]; done)), (by first | rfl | (simp; done) | (simp [*]; done)), H', ⟨by have := HJ6.out; have := HJ17.out; have := HK3.out; have := HK4.out; omega⟩, ⟨by (with_reducible repeat (first | apply Kd.V_alloc | apply Kd.V_drewN | apply Kd.V_drew)); exact Kd.V_mono (Kd.V_far (p := ⟨gb274, 2, none⟩) (Kd.V_far (p := ⟨gb274, 1, none⟩) (Kd.V_far (p := ⟨gb274, 0, none⟩) (Kd.V_mono HO_15.out (fun k_ hk => (⟨hk, hk.2⟩ : _ ∧ k_ ≠ gb274))) (fun _ hk => hk.2) (.int .i64 ((rd_T24 l0 x86_4).f0))) (fun _ hk => hk.2) (.int .i64 ((rd_T24 l0 x86_4).f1))) (fun _ hk => hk.2) (.int .i64 ((rd_T24 l0 x86_4).f2))) (fun _ hk => hk.1.1)⟩, ⟨by (with_reducible repeat (first | apply Kd.R_alloc | apply Kd.R_drewN | apply Kd.R_drew)); exact Kd.R_mono (Kd.R_far (p := ⟨gb274, 2, none⟩) (Kd.R_far (p := ⟨gb274, 1, none⟩) (Kd.R_far (p := ⟨gb274, 0, none⟩) (Kd.R_types HO_78.out BK274.out (by decide)) (fun _ hk => hk.2) (.int .i64 ((rd_T24 l0 x86_4).f0))) (fun _ hk => hk.2) (.int .i64 ((rd_T24 l0 x86_4).f1))) (fun _ hk => hk.2) (.int .i64 ((rd_T24 l0 x86_4).f2))) (fun _ hk => trivial)⟩, ⟨by repeat (with_reducible first | exact HB.out | apply below_alloc | apply pw_below_drewN | apply below_drew1 | refine below_set ?_ GE274.out)⟩⟩
                           · replace c37 := Bool.eq_false_iff.mpr c37
                             subst c37
                             have H1 : (if (l1.length : Int) = 0 then (none) else (handshakerlaw05_ReadsStay.l1 k4 l0 l1 a2 a3 a4 t264 ((Int.tmod ((rd_T24 l0 x86_4).f0) (l1.length : Int)) == (rd t269 x80_3)) (rd t269 x80_3) t269 (t269.length : Int) x80_3 l0 (l0.length : Int) (wrap64 (x86_4 + 1)))) = some r := by rw [if_neg (show ¬ (false = true) by decide)] at H; exact H
                             clear H
                             have H := H1
                             clear H1
                             by_cases c40 : (l1.length : Int) = 0
                             · rw [if_pos c40] at H
                               exact absurd H (by simp)
                             · rw [if_neg c40] at H
                               have c40b0 : ((l1.length : Int) == 0) = false := beq_eq_false_iff_ne.mpr c40
                               have c40b1 : ((l1.length : Int) != 0) = true := bne_iff_ne.mpr c40
                               have c40b2 : ¬ (l1 = []) := fun h_ => c40 (by rw [h_]; rfl)
                               have H' := Aside0.mk H
                               clear H
                               have p273 : 0 ≤ (x86_4 : Int) := of_decide_eq_true (by first | (with_reducible assumption) | assumption)
                               have q273 : x86_4 < (l0.length : Int) := of_decide_eq_true (by first | (with_reducible assumption) | assumption)
                               obtain ⟨ad273, e273, hx273_0, hx273_1, hx273_2⟩ := at_T24 HR0.out x86_4 p273 q273
                               cases e273
                               replace hx273_0 := (HB.out.cell (World.block_lt_of_cell? w _ hx273_0)).trans hx273_0
                               replace hx273_1 := (HB.out.cell (World.block_lt_of_cell? w _ hx273_1)).trans hx273_1
                               replace hx273_2 := (HB.out.cell (World.block_lt_of_cell? w _ hx273_2)).trans hx273_2
                               replace p273 := eq_true p273
                               replace q273 := eq_true q273
                               go_wp2_with (first | ((with_reducible refine gate_dst (N := 21) rfl ?_); (try (refine gate_guard (by rfl) ?_; dsimp only)); refine box_event ?hg (N := 21) ?hd (cs := #[.int .i64 0, .int .i64 0, .int .i64 0]) (t := 24) ?hr ?_; (case hd => rfl); (case hg => rfl); (case hr => first | (go_simp; done) | (go_simp; rfl)); intro gb274 hg w41 hbox hb; have n0_ := Aside0.mk (Kd.V_below (Kd.V_elderB (by (with_reducible repeat (first | apply Kd.V_alloc | apply Kd.V_drewN | apply Kd.V_drew)); exact HO_15.out) gb274 (Nat.le_of_eq hg.symm)) hb); have n1_ := Aside0.mk (Kd.R_below (by (with_reducible repeat (first | apply Kd.R_alloc | apply Kd.R_drewN | apply Kd.R_drew)); exact HO_78.out) hb); have n2_ := Aside0.mk (bst_ hb); have n3_ := Aside0.mk (hbox); have n4_ := Aside0.mk ((by rw [hg]; exact bsz_ : w.heap.size ≤ gb274)); have n5_ := n4_; clear HO_15; clear HO_78; clear HB; have HO_15 := n0_; have HO_78 := n1_; have HB := n2_; have BK274 := n3_; have GW274 := n4_; have GE274 := n5_; clear n0_ n1_ n2_ n3_ n4_ n5_; clear hb hbox hg; have hcz42_0 : w41.cell? ⟨gb274, 0, none⟩ = some (.int .i64 0) := (blk_cell BK274.out 0).trans rfl; have hcz42_1 : w41.cell? ⟨gb274, 1, none⟩ = some (.int .i64 0) := (blk_cell BK274.out 1).trans rfl; have hcz42_2 : w41.cell? ⟨gb274, 2, none⟩ = some (.int .i64 0) := (blk_cell BK274.out 2).trans rfl; have hfz42_0 := blk_frozen BK274.out 0; have hfz42_1 := blk_frozen BK274.out 1; have hfz42_2 := blk_frozen BK274.out 2))
                               go_roundg k4
                               case measure => have := HJ6.out; have := HJ17.out; have := HK3.out; have := HK4.out; omega
                               case rel => exact ⟨(((Int.tmod ((rd_T24 l0 x86_4).f0) (l1.length : Int)) == (rd t269 x80_3))), (wrap64 (x86_4 + 1)), (by first | rfl | (simp; done) | (simp [*]; done)), (by first | rfl | (simp; done) | (simp [*]; done)), H', ⟨by have := HJ6.out; have := HJ17.out; have := HK3.out; have := HK4.out; omega⟩, ⟨by (with_reducible repeat (first | apply Kd.V_alloc | apply Kd.V_drewN | apply Kd.V_drew)); exact Kd.V_mono (Kd.V_far (p := ⟨gb274, 2, none⟩) (Kd.V_far (p := ⟨gb274, 1, none⟩) (Kd.V_far (p := ⟨gb274, 0, none⟩) (Kd.V_mono HO_15.out (fun k_ hk => (⟨hk, hk.2⟩ : _ ∧ k_ ≠ gb274))) (fun _ hk => hk.2) (.int .i64 ((rd_T24 l0 x86_4).f0))) (fun _ hk => hk.2) (.int .i64 ((rd_T24 l0 x86_4).f1))) (fun _ hk => hk.2) (.int .i64 ((rd_T24 l0 x86_4).f2))) (fun _ hk => hk.1.1)⟩, ⟨by (with_reducible repeat (first | apply Kd.R_alloc | apply Kd.R_drewN | apply Kd.R_drew)); exact Kd.R_mono (Kd.R_far (p := ⟨gb274, 2, none⟩) (Kd.R_far (p := ⟨gb274, 1, none⟩) (Kd.R_far (p := ⟨gb274, 0, none⟩) (Kd.R_types HO_78.out BK274.out (by decide)) (fun _ hk => hk.2) (.int .i64 ((rd_T24 l0 x86_4).f0))) (fun _ hk => hk.2) (.int .i64 ((rd_T24 l0 x86_4).f1))) (fun _ hk => hk.2) (.int .i64 ((rd_T24 l0 x86_4).f2))) (fun _ hk => trivial)⟩, ⟨by repeat (with_reducible first | exact HB.out | apply below_alloc | apply pw_below_drewN | apply below_drew1 | refine below_set ?_ GE274.out)⟩⟩
                         · rw [if_neg c36] at H
                           exact absurd H (by simp)
                       · rw [if_neg c35] at H
                         exact absurd H (by simp)
                     · rw [if_neg c34] at H
                       have c34b0 : decide (x86_4 < (l0.length : Int)) = false := decide_eq_false c34
                       clear c34
                       have H' := Aside0.mk H
                       clear H
                       go_wp2
                       go_roundg k4
                       case measure => have := HJ6.out; have := HJ17.out; have := HK3.out; have := HK4.out; omega
                       case rel => exact ⟨(x17_4), (wrap64 (x80_3 + 1)), (by first | rfl | (simp; done) | (simp [*]; done)), (by first | rfl | (simp; done) | (simp [*]; done)), H', ⟨by have := HJ6.out; have := HJ17.out; have := HK3.out; have := HK4.out; omega⟩, ⟨by (with_reducible repeat (first | apply Kd.V_alloc | apply Kd.V_drewN | apply Kd.V_drew)); exact HO_15.out⟩, ⟨by (with_reducible repeat (first | apply Kd.R_alloc | apply Kd.R_drewN | apply Kd.R_drew)); exact HO_78.out⟩, ⟨by repeat (with_reducible first | exact HB.out | apply below_alloc | apply pw_below_drewN | apply below_drew1)⟩⟩
                 · rw [if_neg c33] at H
                   exact absurd H (by simp)
               · rw [if_neg c32] at H
                 exact absurd H (by simp)
             · rw [if_neg c31] at H
               have c31b0 : decide (x80_3 < (t269.length : Int)) = false := decide_eq_false c31
               clear c31
               replace H := Option.bind_eq_some_iff.mp H
               obtain ⟨t275, A430, H⟩ := H
               replace H : (if t275 = 0 then (if x17_3 = true then (some false) else ((stripe_Stamp.f k3 t264 a3 a4).bind fun bt276 => (if bt276.2 = 0 then ((reads_Valid.f k3 l0 bt276.1 a2).bind fun t280 => (if t280 = 0 then ((handshakerlaw05_awake.f k3).bind fun t281 => (some t281)) else (some false))) else ((handshakerlaw05_awake.f k3).bind fun t282 => (some t282))))) else (if x17_3 = true then ((stripe_Stamp.f k3 t264 a3 a4).bind fun bt283 => (if bt283.2 = 0 then ((reads_Valid.f k3 l0 bt283.1 a2).bind fun t287 => (if t287 = 0 then (some false) else ((handshakerlaw05_awake.f k3).bind fun t288 => (some t288)))) else ((handshakerlaw05_awake.f k3).bind fun t289 => (some t289)))) else (some false))) = some r := H
               have A43 := Aside0.mk A430
               clear A430
               by_cases c44 : t275 = 0
               · rw [if_pos c44] at H
                 have c44b0 : (t275 == 0) = true := beq_iff_eq.mpr c44
                 have c44b1 : (t275 != 0) = false := bne_eq_false_iff_eq.mpr c44
                 clear c44
                 by_cases c45 : x17_3 = true
                 · subst c45
                   have H1 : (some false) = some r := by rw [if_pos rfl] at H; exact H
                   clear H
                   have H := H1
                   clear H1
                   exact absurd (Option.some.inj H) (by rw [HT.out]; decide)
                 · replace c45 := Bool.eq_false_iff.mpr c45
                   subst c45
                   have H1 : ((stripe_Stamp.f k3 t264 a3 a4).bind fun bt276 => (if bt276.2 = 0 then ((reads_Valid.f k3 l0 bt276.1 a2).bind fun t280 => (if t280 = 0 then ((handshakerlaw05_awake.f k3).bind fun t281 => (some t281)) else (some false))) else ((handshakerlaw05_awake.f k3).bind fun t282 => (some t282)))) = some r := by rw [if_neg (show ¬ (false = true) by decide)] at H; exact H
                   clear H
                   have H := H1
                   clear H1
                   replace H := Option.bind_eq_some_iff.mp H
                   obtain ⟨⟨t276, t279⟩, A460, H⟩ := H
                   replace H : (if t279 = 0 then ((reads_Valid.f k3 l0 t276 a2).bind fun t280 => (if t280 = 0 then ((handshakerlaw05_awake.f k3).bind fun t281 => (some t281)) else (some false))) else ((handshakerlaw05_awake.f k3).bind fun t282 => (some t282))) = some r := H
                   have A46 := Aside0.mk A460
                   clear A460
                   by_cases c47 : t279 = 0
                   · rw [if_pos c47] at H
                     have c47b0 : (t279 == 0) = true := beq_iff_eq.mpr c47
                     have c47b1 : (t279 != 0) = false := bne_eq_false_iff_eq.mpr c47
                     clear c47
                     replace H := Option.bind_eq_some_iff.mp H
                     obtain ⟨t280, A480, H⟩ := H
                     replace H : (if t280 = 0 then ((handshakerlaw05_awake.f k3).bind fun t281 => (some t281)) else (some false)) = some r := H
                     have A48 := Aside0.mk A480
                     clear A480
                     by_cases c49 : t280 = 0
                     · rw [if_pos c49] at H
                       have c49b0 : (t280 == 0) = true := beq_iff_eq.mpr c49
                       have c49b1 : (t280 != 0) = false := bne_eq_false_iff_eq.mpr c49
                       clear c49
                       replace H := Option.bind_eq_some_iff.mp H
                       obtain ⟨t281, A500, H⟩ := H
                       replace H : (some t281) = some r := H
                       have A50 := Aside0.mk A500
                       clear A500
                       obtain rfl := Option.some.inj H
                       obtain ⟨Ao51, co51, eo51⟩ := Kd.V_slice HO_15.out
                       subst eo51
                       go_wp2_with (first | ((with_reducible refine gate_callee (f := 26) rfl ?_); refine goesL_ (some 105) rfl rfl Try.func26 (by kernel_rfl) rfl #[.slice A0 l0.length c0, .slice Ao51 t264.length co51, .int .i64 a2] rfl (by (try simp only [List.map_toArray, List.map_cons, List.map_nil]); first | done | rfl) ?_; (with_reducible refine (reads_Valid.calls k3 _ _ l0 _ _ t264 a2 t275 _ ?side1 ?side2 ?side3 ?side4 A43.out).mono ?_); (case side1 => repeat (first | exact (Kd.C_below HR0.out HB.out) | with_reducible first | refine Kd.C_alloc ?_ _ | refine Kd.C_drewN ?_ _ | refine Kd.C_drew ?_)); (case side2 => exact HC0.out); (case side3 => repeat (first | exact (Kd.V_reads' HO_15.out).2.2 | with_reducible first | refine Kd.C_alloc ?_ _ | refine Kd.C_drewN ?_ _ | refine Kd.C_drew ?_)); (case side4 => exact (Kd.V_reads' HO_15.out).2.1); rintro e w52 ⟨rfl, hb⟩; refine ⟨_, rfl, ?_⟩; have n0_ := Aside0.mk (Kd.V_below (by (with_reducible repeat (first | apply Kd.V_alloc | apply Kd.V_drewN | apply Kd.V_drew)); exact HO_15.out) hb); have n1_ := Aside0.mk (Kd.R_below (by (with_reducible repeat (first | apply Kd.R_alloc | apply Kd.R_drewN | apply Kd.R_drew)); exact HO_78.out) hb); have n2_ := Aside0.mk (bst_ hb); clear HO_15; clear HO_78; clear HB; have HO_15 := n0_; have HO_78 := n1_; have HB := n2_; clear n0_ n1_ n2_; (try clear hb); (try clear hb2); (try clear hk); (try clear hi)) | ((with_reducible refine gate_callee (f := 32) rfl ?_); refine goesL_ (some 113) rfl rfl Try.func32 (by kernel_rfl) rfl #[.slice Ao51 t264.length co51, .int .i64 a3, .int .i64 a4] rfl (by (try simp only [List.map_toArray, List.map_cons, List.map_nil]); first | done | rfl) ?_; (with_reducible refine (stripe_Stamp.calls k3 (fun k_ => some k_ ≠ (.slice Ao30 t269.length co30 : Value).ownBlock) _ _ t264 a3 a4 t276 t279 _ ?side1 A46.out).mono ?_); (case side1 => exact HO_15.out); rintro e w53 ⟨v277, rfl, ho0, hb⟩; refine ⟨_, rfl, ?_⟩; have n0_ := Aside0.mk (Kd.V_below (by (with_reducible repeat (first | apply Kd.V_alloc | apply Kd.V_drewN | apply Kd.V_drew)); exact HO_15.out) hb); have n1_ := Aside0.mk (Kd.R_below (by (with_reducible repeat (first | apply Kd.R_alloc | apply Kd.R_drewN | apply Kd.R_drew)); exact HO_78.out) hb); have n2_ := Aside0.mk (Kd.V_lower (Kd.V_mono (ok' := fun k_ => some k_ ≠ (.slice Ao30 t269.length co30 : Value).ownBlock) ho0 (fun k_ hk_ => Or.elim hk_ (fun hs_ => hs_) (fun hn_ => (Kd.fresh' (Kd.R_lt (by (with_reducible repeat (first | apply Kd.R_alloc | apply Kd.R_drewN | apply Kd.R_drew)); exact HO_78.out)) k_ hn_)))) bsz_); have n3_ := Aside0.mk (bst_ hb); clear HO_15; clear HO_78; clear HB; have HO_15 := n0_; have HO_78 := n1_; have HO278 := n2_; have HB := n3_; clear n0_ n1_ n2_ n3_; (try clear hb); (try clear hb2); (try clear hk); (try clear hi); (try clear ho0); obtain ⟨Ao54, co54, eo54⟩ := Kd.V_slice HO278.out; subst eo54) | (go_at_call 26; (with_reducible refine (reads_Valid.calls k3 _ _ l0 _ _ t276 a2 t280 _ ?side1 ?side2 ?side3 ?side4 A48.out).mono ?_); (case side1 => repeat (first | exact (Kd.C_below HR0.out HB.out) | with_reducible first | refine Kd.C_alloc ?_ _ | refine Kd.C_drewN ?_ _ | refine Kd.C_drew ?_)); (case side2 => exact HC0.out); (case side3 => repeat (first | exact (Kd.V_reads' HO278.out).2.2 | with_reducible first | refine Kd.C_alloc ?_ _ | refine Kd.C_drewN ?_ _ | refine Kd.C_drew ?_)); (case side4 => exact (Kd.V_reads' HO278.out).2.1); rintro e w55 ⟨rfl, hb⟩; have n0_ := Aside0.mk (Kd.V_below (by (with_reducible repeat (first | apply Kd.V_alloc | apply Kd.V_drewN | apply Kd.V_drew)); exact HO_15.out) hb); have n1_ := Aside0.mk (Kd.R_below (by (with_reducible repeat (first | apply Kd.R_alloc | apply Kd.R_drewN | apply Kd.R_drew)); exact HO_78.out) hb); have n2_ := Aside0.mk (Kd.V_below (by (with_reducible repeat (first | apply Kd.V_alloc | apply Kd.V_drewN | apply Kd.V_drew)); exact HO278.out) hb); have n3_ := Aside0.mk (bst_ hb); clear HO_15; clear HO_78; clear HO278; clear HB; have HO_15 := n0_; have HO_78 := n1_; have HO278 := n2_; have HB := n3_; clear n0_ n1_ n2_ n3_; (try clear hb); (try clear hb2); (try clear hk); (try clear hi)) | (go_at_call 15; (with_reducible refine (handshakerlaw05_awake.calls k3  t281 _ A50.out).mono ?_); rintro e w56 ⟨rfl, hb⟩; have n0_ := Aside0.mk (Kd.V_below (by (with_reducible repeat (first | apply Kd.V_alloc | apply Kd.V_drewN | apply Kd.V_drew)); exact HO_15.out) hb); have n1_ := Aside0.mk (Kd.R_below (by (with_reducible repeat (first | apply Kd.R_alloc | apply Kd.R_drewN | apply Kd.R_drew)); exact HO_78.out) hb); have n2_ := Aside0.mk (Kd.V_below (by (with_reducible repeat (first | apply Kd.V_alloc | apply Kd.V_drewN | apply Kd.V_drew)); exact HO278.out) hb); have n3_ := Aside0.mk (bst_ hb); clear HO_15; clear HO_78; clear HO278; clear HB; have HO_15 := n0_; have HO_78 := n1_; have HO278 := n2_; have HB := n3_; clear n0_ n1_ n2_ n3_; (try clear hb); (try clear hb2); (try clear hk); (try clear hi)))
                       go_ret
                       exact ⟨by first | rfl | (simp [errW_none, errW_some] <;> rfl) | (simp [*, errW_none, errW_some] <;> rfl), by repeat (with_reducible first | exact HB.out | apply below_alloc | apply pw_below_drewN | apply below_drew1)⟩
                     · rw [if_neg c49] at H
                       have c49b0 : (t280 == 0) = false := beq_eq_false_iff_ne.mpr c49
                       have c49b1 : (t280 != 0) = true := bne_iff_ne.mpr c49
                       exact absurd (Option.some.inj H) (by rw [HT.out]; decide)
                   · rw [if_neg c47] at H
                     have c47b0 : (t279 == 0) = false := beq_eq_false_iff_ne.mpr c47
                     have c47b1 : (t279 != 0) = true := bne_iff_ne.mpr c47
                     replace H := Option.bind_eq_some_iff.mp H
                     obtain ⟨t282, A570, H⟩ := H
                     replace H : (some t282) = some r := H
                     have A57 := Aside0.mk A570
                     clear A570
                     obtain rfl := Option.some.inj H
                     obtain ⟨Ao58, co58, eo58⟩ := Kd.V_slice HO_15.out
                     subst eo58
                     go_wp2_with (first | ((with_reducible refine gate_callee (f := 26) rfl ?_); refine goesL_ (some 105) rfl rfl Try.func26 (by kernel_rfl) rfl #[.slice A0 l0.length c0, .slice Ao58 t264.length co58, .int .i64 a2] rfl (by (try simp only [List.map_toArray, List.map_cons, List.map_nil]); first | done | rfl) ?_; (with_reducible refine (reads_Valid.calls k3 _ _ l0 _ _ t264 a2 t275 _ ?side1 ?side2 ?side3 ?side4 A43.out).mono ?_); (case side1 => repeat (first | exact (Kd.C_below HR0.out HB.out) | with_reducible first | refine Kd.C_alloc ?_ _ | refine Kd.C_drewN ?_ _ | refine Kd.C_drew ?_)); (case side2 => exact HC0.out); (case side3 => repeat (first | exact (Kd.V_reads' HO_15.out).2.2 | with_reducible first | refine Kd.C_alloc ?_ _ | refine Kd.C_drewN ?_ _ | refine Kd.C_drew ?_)); (case side4 => exact (Kd.V_reads' HO_15.out).2.1); rintro e w59 ⟨rfl, hb⟩; refine ⟨_, rfl, ?_⟩; have n0_ := Aside0.mk (Kd.V_below (by (with_reducible repeat (first | apply Kd.V_alloc | apply Kd.V_drewN | apply Kd.V_drew)); exact HO_15.out) hb); have n1_ := Aside0.mk (Kd.R_below (by (with_reducible repeat (first | apply Kd.R_alloc | apply Kd.R_drewN | apply Kd.R_drew)); exact HO_78.out) hb); have n2_ := Aside0.mk (bst_ hb); clear HO_15; clear HO_78; clear HB; have HO_15 := n0_; have HO_78 := n1_; have HB := n2_; clear n0_ n1_ n2_; (try clear hb); (try clear hb2); (try clear hk); (try clear hi)) | ((with_reducible refine gate_callee (f := 32) rfl ?_); refine goesL_ (some 113) rfl rfl Try.func32 (by kernel_rfl) rfl #[.slice Ao58 t264.length co58, .int .i64 a3, .int .i64 a4] rfl (by (try simp only [List.map_toArray, List.map_cons, List.map_nil]); first | done | rfl) ?_; (with_reducible refine (stripe_Stamp.calls k3 (fun k_ => some k_ ≠ (.slice Ao30 t269.length co30 : Value).ownBlock) _ _ t264 a3 a4 t276 t279 _ ?side1 A46.out).mono ?_); (case side1 => exact HO_15.out); rintro e w60 ⟨v277, rfl, ho0, hb⟩; refine ⟨_, rfl, ?_⟩; have n0_ := Aside0.mk (Kd.V_below (by (with_reducible repeat (first | apply Kd.V_alloc | apply Kd.V_drewN | apply Kd.V_drew)); exact HO_15.out) hb); have n1_ := Aside0.mk (Kd.R_below (by (with_reducible repeat (first | apply Kd.R_alloc | apply Kd.R_drewN | apply Kd.R_drew)); exact HO_78.out) hb); have n2_ := Aside0.mk (Kd.V_lower (Kd.V_mono (ok' := fun k_ => some k_ ≠ (.slice Ao30 t269.length co30 : Value).ownBlock) ho0 (fun k_ hk_ => Or.elim hk_ (fun hs_ => hs_) (fun hn_ => (Kd.fresh' (Kd.R_lt (by (with_reducible repeat (first | apply Kd.R_alloc | apply Kd.R_drewN | apply Kd.R_drew)); exact HO_78.out)) k_ hn_)))) bsz_); have n3_ := Aside0.mk (bst_ hb); clear HO_15; clear HO_78; clear HB; have HO_15 := n0_; have HO_78 := n1_; have HO278 := n2_; have HB := n3_; clear n0_ n1_ n2_ n3_; (try clear hb); (try clear hb2); (try clear hk); (try clear hi); (try clear ho0)) | (go_at_call 15; (with_reducible refine (handshakerlaw05_awake.calls k3  t282 _ A57.out).mono ?_); rintro e w61 ⟨rfl, hb⟩; have n0_ := Aside0.mk (Kd.V_below (by (with_reducible repeat (first | apply Kd.V_alloc | apply Kd.V_drewN | apply Kd.V_drew)); exact HO_15.out) hb); have n1_ := Aside0.mk (Kd.R_below (by (with_reducible repeat (first | apply Kd.R_alloc | apply Kd.R_drewN | apply Kd.R_drew)); exact HO_78.out) hb); have n2_ := Aside0.mk (Kd.V_below (by (with_reducible repeat (first | apply Kd.V_alloc | apply Kd.V_drewN | apply Kd.V_drew)); exact HO278.out) hb); have n3_ := Aside0.mk (bst_ hb); clear HO_15; clear HO_78; clear HO278; clear HB; have HO_15 := n0_; have HO_78 := n1_; have HO278 := n2_; have HB := n3_; clear n0_ n1_ n2_ n3_; (try clear hb); (try clear hb2); (try clear hk); (try clear hi)))
                     go_ret
                     exact ⟨by first | rfl | (simp [errW_none, errW_some] <;> rfl) | (simp [*, errW_none, errW_some] <;> rfl), by repeat (with_reducible first | exact HB.out | apply below_alloc | apply pw_below_drewN | apply below_drew1)⟩
               · rw [if_neg c44] at H
                 have c44b0 : (t275 == 0) = false := beq_eq_false_iff_ne.mpr c44
                 have c44b1 : (t275 != 0) = true := bne_iff_ne.mpr c44
                 by_cases c62 : x17_3 = true
                 · subst c62
                   have H1 : ((stripe_Stamp.f k3 t264 a3 a4).bind fun bt283 => (if bt283.2 = 0 then ((reads_Valid.f k3 l0 bt283.1 a2).bind fun t287 => (if t287 = 0 then (some false) else ((handshakerlaw05_awake.f k3).bind fun t288 => (some t288)))) else ((handshakerlaw05_awake.f k3).bind fun t289 => (some t289)))) = some r := by rw [if_pos rfl] at H; exact H
                   clear H
                   have H := H1
                   clear H1
                   replace H := Option.bind_eq_some_iff.mp H
                   obtain ⟨⟨t283, t286⟩, A630, H⟩ := H
                   replace H : (if t286 = 0 then ((reads_Valid.f k3 l0 t283 a2).bind fun t287 => (if t287 = 0 then (some false) else ((handshakerlaw05_awake.f k3).bind fun t288 => (some t288)))) else ((handshakerlaw05_awake.f k3).bind fun t289 => (some t289))) = some r := H
                   have A63 := Aside0.mk A630
                   clear A630
                   by_cases c64 : t286 = 0
                   · rw [if_pos c64] at H
                     have c64b0 : (t286 == 0) = true := beq_iff_eq.mpr c64
                     have c64b1 : (t286 != 0) = false := bne_eq_false_iff_eq.mpr c64
                     clear c64
                     replace H := Option.bind_eq_some_iff.mp H
                     obtain ⟨t287, A650, H⟩ := H
                     replace H : (if t287 = 0 then (some false) else ((handshakerlaw05_awake.f k3).bind fun t288 => (some t288))) = some r := H
                     have A65 := Aside0.mk A650
                     clear A650
                     by_cases c66 : t287 = 0
                     · rw [if_pos c66] at H
                       have c66b0 : (t287 == 0) = true := beq_iff_eq.mpr c66
                       have c66b1 : (t287 != 0) = false := bne_eq_false_iff_eq.mpr c66
                       clear c66
                       exact absurd (Option.some.inj H) (by rw [HT.out]; decide)
                     · rw [if_neg c66] at H
                       have c66b0 : (t287 == 0) = false := beq_eq_false_iff_ne.mpr c66
                       have c66b1 : (t287 != 0) = true := bne_iff_ne.mpr c66
                       replace H := Option.bind_eq_some_iff.mp H
                       obtain ⟨t288, A670, H⟩ := H
                       replace H : (some t288) = some r := H
                       have A67 := Aside0.mk A670
                       clear A670
                       obtain rfl := Option.some.inj H
                       obtain ⟨Ao68, co68, eo68⟩ := Kd.V_slice HO_15.out
                       subst eo68
                       go_wp2_with (first | ((with_reducible refine gate_callee (f := 26) rfl ?_); refine goesL_ (some 105) rfl rfl Try.func26 (by kernel_rfl) rfl #[.slice A0 l0.length c0, .slice Ao68 t264.length co68, .int .i64 a2] rfl (by (try simp only [List.map_toArray, List.map_cons, List.map_nil]); first | done | rfl) ?_; (with_reducible refine (reads_Valid.calls k3 _ _ l0 _ _ t264 a2 t275 _ ?side1 ?side2 ?side3 ?side4 A43.out).mono ?_); (case side1 => repeat (first | exact (Kd.C_below HR0.out HB.out) | with_reducible first | refine Kd.C_alloc ?_ _ | refine Kd.C_drewN ?_ _ | refine Kd.C_drew ?_)); (case side2 => exact HC0.out); (case side3 => repeat (first | exact (Kd.V_reads' HO_15.out).2.2 | with_reducible first | refine Kd.C_alloc ?_ _ | refine Kd.C_drewN ?_ _ | refine Kd.C_drew ?_)); (case side4 => exact (Kd.V_reads' HO_15.out).2.1); rintro e w69 ⟨rfl, hb⟩; refine ⟨_, rfl, ?_⟩; have n0_ := Aside0.mk (Kd.V_below (by (with_reducible repeat (first | apply Kd.V_alloc | apply Kd.V_drewN | apply Kd.V_drew)); exact HO_15.out) hb); have n1_ := Aside0.mk (Kd.R_below (by (with_reducible repeat (first | apply Kd.R_alloc | apply Kd.R_drewN | apply Kd.R_drew)); exact HO_78.out) hb); have n2_ := Aside0.mk (bst_ hb); clear HO_15; clear HO_78; clear HB; have HO_15 := n0_; have HO_78 := n1_; have HB := n2_; clear n0_ n1_ n2_; (try clear hb); (try clear hb2); (try clear hk); (try clear hi)) | ((with_reducible refine gate_callee (f := 32) rfl ?_); refine goesL_ (some 113) rfl rfl Try.func32 (by kernel_rfl) rfl #[.slice Ao68 t264.length co68, .int .i64 a3, .int .i64 a4] rfl (by (try simp only [List.map_toArray, List.map_cons, List.map_nil]); first | done | rfl) ?_; (with_reducible refine (stripe_Stamp.calls k3 (fun k_ => some k_ ≠ (.slice Ao30 t269.length co30 : Value).ownBlock) _ _ t264 a3 a4 t283 t286 _ ?side1 A63.out).mono ?_); (case side1 => exact HO_15.out); rintro e w70 ⟨v284, rfl, ho0, hb⟩; refine ⟨_, rfl, ?_⟩; have n0_ := Aside0.mk (Kd.V_below (by (with_reducible repeat (first | apply Kd.V_alloc | apply Kd.V_drewN | apply Kd.V_drew)); exact HO_15.out) hb); have n1_ := Aside0.mk (Kd.R_below (by (with_reducible repeat (first | apply Kd.R_alloc | apply Kd.R_drewN | apply Kd.R_drew)); exact HO_78.out) hb); have n2_ := Aside0.mk (Kd.V_lower (Kd.V_mono (ok' := fun k_ => some k_ ≠ (.slice Ao30 t269.length co30 : Value).ownBlock) ho0 (fun k_ hk_ => Or.elim hk_ (fun hs_ => hs_) (fun hn_ => (Kd.fresh' (Kd.R_lt (by (with_reducible repeat (first | apply Kd.R_alloc | apply Kd.R_drewN | apply Kd.R_drew)); exact HO_78.out)) k_ hn_)))) bsz_); have n3_ := Aside0.mk (bst_ hb); clear HO_15; clear HO_78; clear HB; have HO_15 := n0_; have HO_78 := n1_; have HO285 := n2_; have HB := n3_; clear n0_ n1_ n2_ n3_; (try clear hb); (try clear hb2); (try clear hk); (try clear hi); (try clear ho0); obtain ⟨Ao71, co71, eo71⟩ := Kd.V_slice HO285.out; subst eo71) | (go_at_call 26; (with_reducible refine (reads_Valid.calls k3 _ _ l0 _ _ t283 a2 t287 _ ?side1 ?side2 ?side3 ?side4 A65.out).mono ?_); (case side1 => repeat (first | exact (Kd.C_below HR0.out HB.out) | with_reducible first | refine Kd.C_alloc ?_ _ | refine Kd.C_drewN ?_ _ | refine Kd.C_drew ?_)); (case side2 => exact HC0.out); (case side3 => repeat (first | exact (Kd.V_reads' HO285.out).2.2 | with_reducible first | refine Kd.C_alloc ?_ _ | refine Kd.C_drewN ?_ _ | refine Kd.C_drew ?_)); (case side4 => exact (Kd.V_reads' HO285.out).2.1); rintro e w72 ⟨rfl, hb⟩; have n0_ := Aside0.mk (Kd.V_below (by (with_reducible repeat (first | apply Kd.V_alloc | apply Kd.V_drewN | apply Kd.V_drew)); exact HO_15.out) hb); have n1_ := Aside0.mk (Kd.R_below (by (with_reducible repeat (first | apply Kd.R_alloc | apply Kd.R_drewN | apply Kd.R_drew)); exact HO_78.out) hb); have n2_ := Aside0.mk (Kd.V_below (by (with_reducible repeat (first | apply Kd.V_alloc | apply Kd.V_drewN | apply Kd.V_drew)); exact HO285.out) hb); have n3_ := Aside0.mk (bst_ hb); clear HO_15; clear HO_78; clear HO285; clear HB; have HO_15 := n0_; have HO_78 := n1_; have HO285 := n2_; have HB := n3_; clear n0_ n1_ n2_ n3_; (try clear hb); (try clear hb2); (try clear hk); (try clear hi)) | (go_at_call 15; (with_reducible refine (handshakerlaw05_awake.calls k3  t288 _ A67.out).mono ?_); rintro e w73 ⟨rfl, hb⟩; have n0_ := Aside0.mk (Kd.V_below (by (with_reducible repeat (first | apply Kd.V_alloc | apply Kd.V_drewN | apply Kd.V_drew)); exact HO_15.out) hb); have n1_ := Aside0.mk (Kd.R_below (by (with_reducible repeat (first | apply Kd.R_alloc | apply Kd.R_drewN | apply Kd.R_drew)); exact HO_78.out) hb); have n2_ := Aside0.mk (Kd.V_below (by (with_reducible repeat (first | apply Kd.V_alloc | apply Kd.V_drewN | apply Kd.V_drew)); exact HO285.out) hb); have n3_ := Aside0.mk (bst_ hb); clear HO_15; clear HO_78; clear HO285; clear HB; have HO_15 := n0_; have HO_78 := n1_; have HO285 := n2_; have HB := n3_; clear n0_ n1_ n2_ n3_; (try clear hb); (try clear hb2); (try clear hk); (try clear hi)))
                       go_ret
                       exact ⟨by first | rfl | (simp [errW_none, errW_some] <;> rfl) | (simp [*, errW_none, errW_some] <;> rfl), by repeat (with_reducible first | exact HB.out | apply below_alloc | apply pw_below_drewN | apply below_drew1)⟩
                   · rw [if_neg c64] at H
                     have c64b0 : (t286 == 0) = false := beq_eq_false_iff_ne.mpr c64
                     have c64b1 : (t286 != 0) = true := bne_iff_ne.mpr c64
                     replace H := Option.bind_eq_some_iff.mp H
                     obtain ⟨t289, A740, H⟩ := H
                     replace H : (some t289) = some r := H
                     have A74 := Aside0.mk A740
                     clear A740
                     obtain rfl := Option.some.inj H
                     obtain ⟨Ao75, co75, eo75⟩ := Kd.V_slice HO_15.out
                     subst eo75
                     go_wp2_with (first | ((with_reducible refine gate_callee (f := 26) rfl ?_); refine goesL_ (some 105) rfl rfl Try.func26 (by kernel_rfl) rfl #[.slice A0 l0.length c0, .slice Ao75 t264.length co75, .int .i64 a2] rfl (by (try simp only [List.map_toArray, List.map_cons, List.map_nil]); first | done | rfl) ?_; (with_reducible refine (reads_Valid.calls k3 _ _ l0 _ _ t264 a2 t275 _ ?side1 ?side2 ?side3 ?side4 A43.out).mono ?_); (case side1 => repeat (first | exact (Kd.C_below HR0.out HB.out) | with_reducible first | refine Kd.C_alloc ?_ _ | refine Kd.C_drewN ?_ _ | refine Kd.C_drew ?_)); (case side2 => exact HC0.out); (case side3 => repeat (first | exact (Kd.V_reads' HO_15.out).2.2 | with_reducible first | refine Kd.C_alloc ?_ _ | refine Kd.C_drewN ?_ _ | refine Kd.C_drew ?_)); (case side4 => exact (Kd.V_reads' HO_15.out).2.1); rintro e w76 ⟨rfl, hb⟩; refine ⟨_, rfl, ?_⟩; have n0_ := Aside0.mk (Kd.V_below (by (with_reducible repeat (first | apply Kd.V_alloc | apply Kd.V_drewN | apply Kd.V_drew)); exact HO_15.out) hb); have n1_ := Aside0.mk (Kd.R_below (by (with_reducible repeat (first | apply Kd.R_alloc | apply Kd.R_drewN | apply Kd.R_drew)); exact HO_78.out) hb); have n2_ := Aside0.mk (bst_ hb); clear HO_15; clear HO_78; clear HB; have HO_15 := n0_; have HO_78 := n1_; have HB := n2_; clear n0_ n1_ n2_; (try clear hb); (try clear hb2); (try clear hk); (try clear hi)) | ((with_reducible refine gate_callee (f := 32) rfl ?_); refine goesL_ (some 113) rfl rfl Try.func32 (by kernel_rfl) rfl #[.slice Ao75 t264.length co75, .int .i64 a3, .int .i64 a4] rfl (by (try simp only [List.map_toArray, List.map_cons, List.map_nil]); first | done | rfl) ?_; (with_reducible refine (stripe_Stamp.calls k3 (fun k_ => some k_ ≠ (.slice Ao30 t269.length co30 : Value).ownBlock) _ _ t264 a3 a4 t283 t286 _ ?side1 A63.out).mono ?_); (case side1 => exact HO_15.out); rintro e w77 ⟨v284, rfl, ho0, hb⟩; refine ⟨_, rfl, ?_⟩; have n0_ := Aside0.mk (Kd.V_below (by (with_reducible repeat (first | apply Kd.V_alloc | apply Kd.V_drewN | apply Kd.V_drew)); exact HO_15.out) hb); have n1_ := Aside0.mk (Kd.R_below (by (with_reducible repeat (first | apply Kd.R_alloc | apply Kd.R_drewN | apply Kd.R_drew)); exact HO_78.out) hb); have n2_ := Aside0.mk (Kd.V_lower (Kd.V_mono (ok' := fun k_ => some k_ ≠ (.slice Ao30 t269.length co30 : Value).ownBlock) ho0 (fun k_ hk_ => Or.elim hk_ (fun hs_ => hs_) (fun hn_ => (Kd.fresh' (Kd.R_lt (by (with_reducible repeat (first | apply Kd.R_alloc | apply Kd.R_drewN | apply Kd.R_drew)); exact HO_78.out)) k_ hn_)))) bsz_); have n3_ := Aside0.mk (bst_ hb); clear HO_15; clear HO_78; clear HB; have HO_15 := n0_; have HO_78 := n1_; have HO285 := n2_; have HB := n3_; clear n0_ n1_ n2_ n3_; (try clear hb); (try clear hb2); (try clear hk); (try clear hi); (try clear ho0)) | (go_at_call 15; (with_reducible refine (handshakerlaw05_awake.calls k3  t289 _ A74.out).mono ?_); rintro e w78 ⟨rfl, hb⟩; have n0_ := Aside0.mk (Kd.V_below (by (with_reducible repeat (first | apply Kd.V_alloc | apply Kd.V_drewN | apply Kd.V_drew)); exact HO_15.out) hb); have n1_ := Aside0.mk (Kd.R_below (by (with_reducible repeat (first | apply Kd.R_alloc | apply Kd.R_drewN | apply Kd.R_drew)); exact HO_78.out) hb); have n2_ := Aside0.mk (Kd.V_below (by (with_reducible repeat (first | apply Kd.V_alloc | apply Kd.V_drewN | apply Kd.V_drew)); exact HO285.out) hb); have n3_ := Aside0.mk (bst_ hb); clear HO_15; clear HO_78; clear HO285; clear HB; have HO_15 := n0_; have HO_78 := n1_; have HO285 := n2_; have HB := n3_; clear n0_ n1_ n2_ n3_; (try clear hb); (try clear hb2); (try clear hk); (try clear hi)))
                     go_ret
                     exact ⟨by first | rfl | (simp [errW_none, errW_some] <;> rfl) | (simp [*, errW_none, errW_some] <;> rfl), by repeat (with_reducible first | exact HB.out | apply below_alloc | apply pw_below_drewN | apply below_drew1)⟩
                 · replace c62 := Bool.eq_false_iff.mpr c62
                   subst c62
                   have H1 : (some false) = some r := by rw [if_neg (show ¬ (false = true) by decide)] at H; exact H
                   clear H
                   have H := H1
                   clear H1
                   exact absurd (Option.some.inj H) (by rw [HT.out]; decide)
         · rw [if_neg c26] at H
           have c26b0 : (t267 == 0) = false := beq_eq_false_iff_ne.mpr c26
           have c26b1 : (t267 != 0) = true := bne_iff_ne.mpr c26
           replace H := Option.bind_eq_some_iff.mp H
           obtain ⟨t268, A790, H⟩ := H
           replace H : (some t268) = some r := H
           have A79 := Aside0.mk A790
           clear A790
           obtain rfl := Option.some.inj H
           go_wp2_with (first | ((with_reducible refine gate_callee (f := 30) rfl ?_); refine goesL_ (some 70) rfl rfl Try.func30 (by kernel_rfl) rfl #[.slice A1 l1.length c1, .int .i64 a3, .slice A5 l5.length c5] rfl (by (try simp only [List.map_toArray, List.map_cons, List.map_nil]); first | done | rfl) ?_; (with_reducible refine (stripe_Lock.calls kj17 (fun k_ => k_ < w.heap.size) _ _ l1 a3 _ _ l5 t264 t267 _ ?side1 ?side2 ?side3 A25.out).mono ?_); (case side1 => exact Kd.V_mk HC1.out (Kd.F_below (Kd.C_F k67_heap HR1.out) (by repeat (with_reducible first | exact HB.out | apply below_alloc | apply pw_below_drewN | apply below_drew1)))); (case side2 => repeat (first | exact (Kd.C_below HR5.out HB.out) | with_reducible first | refine Kd.C_alloc ?_ _ | refine Kd.C_drewN ?_ _ | refine Kd.C_drew ?_)); (case side3 => exact HC5.out); rintro e w80 ⟨v265, rfl, ho0, hb⟩; refine ⟨_, rfl, ?_⟩; have n0_ := Aside0.mk (Kd.V_lower (Kd.V_mono (ok' := fun k_ => True) ho0 (fun k_ hk_ => trivial)) bsz_); have n1_ := Aside0.mk (bst_ hb); clear HB; have HO266 := n0_; have HB := n1_; clear n0_ n1_; (try clear hb); (try clear hb2); (try clear hk); (try clear hi); (try clear ho0)) | ((with_reducible refine gate_callee (f := 15) rfl ?_); refine goesL_ (some 75) rfl rfl Try.func15 (by kernel_rfl) rfl #[] rfl (by (try simp only [List.map_toArray, List.map_cons, List.map_nil]); first | done | rfl) ?_; (with_reducible refine (handshakerlaw05_awake.calls kj17  t268 _ A79.out).mono ?_); rintro e w81 ⟨rfl, hb⟩; refine ⟨_, rfl, ?_⟩; have n0_ := Aside0.mk (Kd.V_below (by (with_reducible repeat (first | apply Kd.V_alloc | apply Kd.V_drewN | apply Kd.V_drew)); exact HO266.out) hb); have n1_ := Aside0.mk (bst_ hb); clear HO266; clear HB; have HO266 := n0_; have HB := n1_; clear n0_ n1_; (try clear hb); (try clear hb2); (try clear hk); (try clear hi)))
           go_ret
           exact ⟨by first | rfl | (simp [errW_none, errW_some] <;> rfl) | (simp [*, errW_none, errW_some] <;> rfl), by repeat (with_reducible first | exact HB.out | apply below_alloc | apply pw_below_drewN | apply below_drew1)⟩

/-- THE ONE PURE STATEMENT of handshakerlaw05_ReadsStay. -/
def handshakerlaw05_ReadsStay.Pure : Prop := ∀ (l0 : List (S24)) (l1 : List (S67)) (a2 : Int) (a3 : Int) (a4 : Int) (l5 : List Int), l0.length ≤ maxLen → l0.length * 24 ≤ 140737488351232 → (∀ y ∈ l0, wfS24 y) → l1.length ≤ maxLen → l1.length * 16 ≤ 140737488351232 → (∀ y ∈ l1, wfS67 y) → (Lit.int .i64 a2).wf = true → (Lit.int .i64 a3).wf = true → (Lit.int .i64 a4).wf = true → l5.length ≤ maxLen → l5.length * 8 ≤ 140737488351232 → (∀ y ∈ l5, (Lit.int .i64 y).wf = true) → ∃ k, handshakerlaw05_ReadsStay.f k l0 l1 a2 a3 a4 l5 = some true

end Go.Proofs.Ytlfmobnmohnjmaa.Rs
