-- PRINTED by print.py (a twelfth state) out of the translation. Not trusted: Lean checks it.
import Derived.Test.YtlfmobnmohnjmaaRx0
import Derived.Test.YtlfmobnmohnjmaaRx4
import Derived.Test.YtlfmobnmohnjmaaRx5
import Derived.Test.YtlfmobnmohnjmaaRx8
import Derived.Test.YtlfmobnmohnjmaaRx10
import Derived.Test.YtlfmobnmohnjmaaRx11
namespace Go.Proofs.Ytlfmobnmohnjmaa.R
open Go.Proofs.Ytlfmobnmohnjmaa.Ho
open Go.RowKit Go.Proofs.YtlfmobnmohnjmaaW.PrintWords Go.Proofs.YtlfmobnmohnjmaaW.PrintLast Go.Proofs.YtlfmobnmohnjmaaW.PrintMore
attribute [local go_sem] max2_int min2_int max_two min_two max_three min_three max_four min_four   -- for this text's walks alone
set_option linter.unusedVariables false
set_option linter.unusedSimpArgs false

/-! ### handshakerlaw05_ReadsValid: function 4 -/
def handshakerlaw05_ReadsValid.j0 : Nat → List (S24) → List (S67) → Int → List (S73) → Bool → Option (Bool)
 | 0, _, _, _, _, _ => none
 | k + 1, x0, x1, x2, x3, x21 => if x21 = true then ((handshakerlaw05_awake.f k).bind fun t298 => (some t298)) else ((reads_Valid.f k x0 x1 x2).bind fun t299 => ((handshakerref05_Valid.f k x0 x1 x2).bind fun t300 => (if t299 = t300 then ((reads_Same.f k x0 x3).bind fun t301 => ((handshakerref05_Still.f k x0 x3).bind fun t302 => (if t301 = true then (if t302 = true then ((handshakerlaw05_awake.f k).bind fun t303 => (some t303)) else (some false)) else (if t302 = true then (some false) else ((handshakerlaw05_awake.f k).bind fun t304 => (some t304)))))) else (some false))))
def handshakerlaw05_ReadsValid.f (k : Nat) (l0 : List (S24)) (l1 : List (S67)) (a2 : Int) (l3 : List (S73)) : Option (Bool) := if (l0.length : Int) > 40 then (handshakerlaw05_ReadsValid.j0 k l0 l1 a2 l3 true) else (if (l1.length : Int) > 30 then (handshakerlaw05_ReadsValid.j0 k l0 l1 a2 l3 true) else (handshakerlaw05_ReadsValid.j0 k l0 l1 a2 l3 (decide ((l3.length : Int) > 100))))
theorem handshakerlaw05_ReadsValid.mono_l : ∀ k, (∀ y0 y1 y2 y3 y4, LeO (handshakerlaw05_ReadsValid.j0 k y0 y1 y2 y3 y4) (handshakerlaw05_ReadsValid.j0 (k + 1) y0 y1 y2 y3 y4))
 | 0 => fun _ _ _ _ _ r h => by simp [handshakerlaw05_ReadsValid.j0] at h
 | k + 1 => by
  have ih0 := handshakerlaw05_ReadsValid.mono_l k
  · intro y0 y1 y2 y3 y4
    unfold handshakerlaw05_ReadsValid.j0
    repeat' first
    | (with_reducible exact ih0 _ _ _ _ _)
    | (with_reducible exact handshakerlaw05_awake.mono _)
    | (with_reducible exact handshakerref05_Still.mono _ _ _)
    | (with_reducible exact handshakerref05_Valid.mono _ _ _ _)
    | (with_reducible exact reads_Same.mono _ _ _)
    | (with_reducible exact reads_Valid.mono _ _ _ _)
    | (with_reducible exact LeO.refl _)
    | (with_reducible exact LeO.none _)
    | (with_reducible refine LeO.ite ?_ ?_)
    | (with_reducible refine LeO.bind ?_ (fun _ => ?_))
    | exact ih0 _ _ _ _ _
    | exact handshakerlaw05_awake.mono _
    | exact handshakerref05_Still.mono _ _ _
    | exact handshakerref05_Valid.mono _ _ _ _
    | exact reads_Same.mono _ _ _
    | exact reads_Valid.mono _ _ _ _
    | exact LeO.none _
    | refine LeO.ite ?_ ?_
    | refine LeO.bind ?_ (fun _ => ?_)
theorem handshakerlaw05_ReadsValid.mono : ∀ a0 a1 a2 a3 k, LeO (handshakerlaw05_ReadsValid.f k a0 a1 a2 a3) (handshakerlaw05_ReadsValid.f (k + 1) a0 a1 a2 a3) := by
 intro a0 a1 a2 a3 k
 have ih0 := handshakerlaw05_ReadsValid.mono_l k
 unfold handshakerlaw05_ReadsValid.f
 repeat' first
  | (with_reducible exact ih0 _ _ _ _ _)
  | (with_reducible exact handshakerlaw05_awake.mono _)
  | (with_reducible exact handshakerref05_Still.mono _ _ _)
  | (with_reducible exact handshakerref05_Valid.mono _ _ _ _)
  | (with_reducible exact reads_Same.mono _ _ _)
  | (with_reducible exact reads_Valid.mono _ _ _ _)
  | (with_reducible exact LeO.refl _)
  | (with_reducible exact LeO.none _)
  | (with_reducible refine LeO.ite ?_ ?_)
  | (with_reducible refine LeO.bind ?_ (fun _ => ?_))
  | exact ih0 _ _ _ _ _
  | exact handshakerlaw05_awake.mono _
  | exact handshakerref05_Still.mono _ _ _
  | exact handshakerref05_Valid.mono _ _ _ _
  | exact reads_Same.mono _ _ _
  | exact reads_Valid.mono _ _ _ _
  | exact LeO.none _
  | refine LeO.ite ?_ ?_
  | refine LeO.bind ?_ (fun _ => ?_)
set_option maxHeartbeats 8000000 in
set_option maxRecDepth 100000 in
theorem handshakerlaw05_ReadsValid.calls (k : Nat) (A0 : Option Addr) (c0 : Nat) (l0 : List (S24)) (A1 : Option Addr) (c1 : Nat) (l1 : List (S67)) (a2 : Int) (A3 : Option Addr) (c3 : Nat) (l3 : List (S73)) (r : Bool) (w : World) (HT : Aside0 (r = true)) (hr0 : Kd.C k24 w A0 l0.length l0) (hc0 : l0.length ≤ c0) (hr1 : Kd.C k67 w A1 l1.length l1) (hc1 : l1.length ≤ c1) (hr3 : Kd.C k73 w A3 l3.length l3) (hc3 : l3.length ≤ c3) (h : handshakerlaw05_ReadsValid.f k l0 l1 a2 l3 = some r) :
 Calls Try.prog 4 #[.slice A0 l0.length c0, .slice A1 l1.length c1, .int .i64 a2, .slice A3 l3.length c3] w fun e w' => e = .returned (.bool r) ∧ Below w.heap.size w w' := by
 have HR0 := Aside0.mk hr0
 have HC0 := Aside0.mk hc0
 clear hr0 hc0
 have HR1 := Aside0.mk hr1
 have HC1 := Aside0.mk hc1
 clear hr1 hc1
 have HR3 := Aside0.mk hr3
 have HC3 := Aside0.mk hc3
 clear hr3 hc3
 have HB := Aside0.mk (Below.refl w.heap.size w)
 have H : (if (l0.length : Int) > 40 then (handshakerlaw05_ReadsValid.j0 k l0 l1 a2 l3 true) else (if (l1.length : Int) > 30 then (handshakerlaw05_ReadsValid.j0 k l0 l1 a2 l3 true) else (handshakerlaw05_ReadsValid.j0 k l0 l1 a2 l3 (decide ((l3.length : Int) > 100))))) = some r := h
 clear h
 have HC5 := Aside0.mk H
 clear H
 go_enter Try.func4, Try.ntmps4
 go_upto_region 1 with (fail)
 go_cut [21] (fun v21 wc => ∃ (kq : Nat) (x21_4 : Bool), v21 = .bool x21_4 ∧ Aside0 (handshakerlaw05_ReadsValid.j0 kq l0 l1 a2 l3 x21_4 = some r) ∧ Aside0 (kq ≤ k) ∧ Aside0 (Below w.heap.size w wc))
 case first =>
  have H := HC5.out
  clear HC5
  by_cases c6 : (l0.length : Int) > 40
  · rw [if_pos c6] at H
    have c6b0 : decide (40 < (l0.length : Int)) = true := decide_eq_true c6
    have c6b1 : decide (40 < l0.length) = true := decide_eq_true (by omega)
    clear c6
    (first | rw [c6b0] | (simp only [i64_w, i32_w]; rw [c6b0]) | skip)
    have H' := Aside0.mk H
    clear H
    go_wp2
    go_meet
    case rel => exact ⟨_, (true), (by first | rfl | (simp; done) | (simp [*]; done)), H', ⟨by first | omega | exact Nat.le_refl _⟩, ⟨by repeat (with_reducible first | exact HB.out | apply below_alloc | apply pw_below_drewN | apply below_drew1)⟩⟩
  · rw [if_neg c6] at H
    have c6b0 : decide (40 < (l0.length : Int)) = false := decide_eq_false c6
    have c6b1 : decide (40 < l0.length) = false := decide_eq_false (by omega)
    clear c6
    (first | rw [c6b0] | (simp only [i64_w, i32_w]; rw [c6b0]) | skip)
    by_cases c7 : (l1.length : Int) > 30
    · rw [if_pos c7] at H
      have c7b0 : decide (30 < (l1.length : Int)) = true := decide_eq_true c7
      have c7b1 : decide (30 < l1.length) = true := decide_eq_true (by omega)
      clear c7
      have H' := Aside0.mk H
      clear H
      go_wp2
      go_meet
      case rel => exact ⟨_, (true), (by first | rfl | (simp; done) | (simp [*]; done)), H', ⟨by first | omega | exact Nat.le_refl _⟩, ⟨by repeat (with_reducible first | exact HB.out | apply below_alloc | apply pw_below_drewN | apply below_drew1)⟩⟩
    · rw [if_neg c7] at H
      have c7b0 : decide (30 < (l1.length : Int)) = false := decide_eq_false c7
      have c7b1 : decide (30 < l1.length) = false := decide_eq_false (by omega)
      clear c7
      have H' := Aside0.mk H
      clear H
      go_wp2
      go_meet
      case rel => exact ⟨_, (decide ((l3.length : Int) > 100)), (by first | rfl | (simp; done) | (simp [*]; done)), H', ⟨by first | omega | exact Nat.le_refl _⟩, ⟨by repeat (with_reducible first | exact HB.out | apply below_alloc | apply pw_below_drewN | apply below_drew1)⟩⟩
 case rest =>
  clear HC5
  try clear c1
  try clear p2
  try clear c3
  try clear c4
  try clear c6
  try clear c6b0
  try clear c6b1
  try clear c7
  try clear c7b0
  try clear c7b1
  obtain ⟨kq, x21_4, rfl, HA, HJ4, HB⟩ := hcut
  cases kq with
  | zero => exact absurd HA.out (by simp [handshakerlaw05_ReadsValid.j0])
  | succ kj4 =>
   have H := HA.out
   clear HA
   simp only [handshakerlaw05_ReadsValid.j0] at H
   by_cases c8 : x21_4 = true
   · subst c8
     have H1 : ((handshakerlaw05_awake.f kj4).bind fun t298 => (some t298)) = some r := by rw [if_pos rfl] at H; exact H
     clear H
     have H := H1
     clear H1
     replace H := Option.bind_eq_some_iff.mp H
     obtain ⟨t298, A90, H⟩ := H
     replace H : (some t298) = some r := H
     have A9 := Aside0.mk A90
     clear A90
     obtain rfl := Option.some.inj H
     go_wp2_with (first | ((with_reducible refine gate_callee (f := 15) rfl ?_); refine goesL_ (some 22) rfl rfl Try.func15 (by kernel_rfl) rfl #[] rfl (by (try simp only [List.map_toArray, List.map_cons, List.map_nil]); first | done | rfl) ?_; (with_reducible refine (handshakerlaw05_awake.calls kj4  t298 _ A9.out).mono ?_); rintro e w10 ⟨rfl, hb⟩; refine ⟨_, rfl, ?_⟩; have n0_ := Aside0.mk (bst_ hb); clear HB; have HB := n0_; clear n0_; (try clear hb); (try clear hb2); (try clear hk); (try clear hi)))
     go_ret
     exact ⟨by first | rfl | (simp [errW_none, errW_some] <;> rfl) | (simp [*, errW_none, errW_some] <;> rfl), by repeat (with_reducible first | exact HB.out | apply below_alloc | apply pw_below_drewN | apply below_drew1)⟩
   · replace c8 := Bool.eq_false_iff.mpr c8
     subst c8
     have H1 : ((reads_Valid.f kj4 l0 l1 a2).bind fun t299 => ((handshakerref05_Valid.f kj4 l0 l1 a2).bind fun t300 => (if t299 = t300 then ((reads_Same.f kj4 l0 l3).bind fun t301 => ((handshakerref05_Still.f kj4 l0 l3).bind fun t302 => (if t301 = true then (if t302 = true then ((handshakerlaw05_awake.f kj4).bind fun t303 => (some t303)) else (some false)) else (if t302 = true then (some false) else ((handshakerlaw05_awake.f kj4).bind fun t304 => (some t304)))))) else (some false)))) = some r := by rw [if_neg (show ¬ (false = true) by decide)] at H; exact H
     clear H
     have H := H1
     clear H1
     replace H := Option.bind_eq_some_iff.mp H
     obtain ⟨t299, A110, H⟩ := H
     replace H : ((handshakerref05_Valid.f kj4 l0 l1 a2).bind fun t300 => (if t299 = t300 then ((reads_Same.f kj4 l0 l3).bind fun t301 => ((handshakerref05_Still.f kj4 l0 l3).bind fun t302 => (if t301 = true then (if t302 = true then ((handshakerlaw05_awake.f kj4).bind fun t303 => (some t303)) else (some false)) else (if t302 = true then (some false) else ((handshakerlaw05_awake.f kj4).bind fun t304 => (some t304)))))) else (some false))) = some r := H
     have A11 := Aside0.mk A110
     clear A110
     replace H := Option.bind_eq_some_iff.mp H
     obtain ⟨t300, A120, H⟩ := H
     replace H : (if t299 = t300 then ((reads_Same.f kj4 l0 l3).bind fun t301 => ((handshakerref05_Still.f kj4 l0 l3).bind fun t302 => (if t301 = true then (if t302 = true then ((handshakerlaw05_awake.f kj4).bind fun t303 => (some t303)) else (some false)) else (if t302 = true then (some false) else ((handshakerlaw05_awake.f kj4).bind fun t304 => (some t304)))))) else (some false)) = some r := H
     have A12 := Aside0.mk A120
     clear A120
     by_cases c13 : t299 = t300
     · rw [if_pos c13] at H
       have c13b0 : (t299 == t300) = true := beq_iff_eq.mpr c13
       have c13b1 : (t299 != t300) = false := bne_eq_false_iff_eq.mpr c13
       clear c13
       replace H := Option.bind_eq_some_iff.mp H
       obtain ⟨t301, A140, H⟩ := H
       replace H : ((handshakerref05_Still.f kj4 l0 l3).bind fun t302 => (if t301 = true then (if t302 = true then ((handshakerlaw05_awake.f kj4).bind fun t303 => (some t303)) else (some false)) else (if t302 = true then (some false) else ((handshakerlaw05_awake.f kj4).bind fun t304 => (some t304))))) = some r := H
       have A14 := Aside0.mk A140
       clear A140
       replace H := Option.bind_eq_some_iff.mp H
       obtain ⟨t302, A150, H⟩ := H
       replace H : (if t301 = true then (if t302 = true then ((handshakerlaw05_awake.f kj4).bind fun t303 => (some t303)) else (some false)) else (if t302 = true then (some false) else ((handshakerlaw05_awake.f kj4).bind fun t304 => (some t304)))) = some r := H
       have A15 := Aside0.mk A150
       clear A150
       by_cases c16 : t301 = true
       · subst c16
         have H1 : (if t302 = true then ((handshakerlaw05_awake.f kj4).bind fun t303 => (some t303)) else (some false)) = some r := by rw [if_pos rfl] at H; exact H
         clear H
         have H := H1
         clear H1
         by_cases c17 : t302 = true
         · subst c17
           have H1 : ((handshakerlaw05_awake.f kj4).bind fun t303 => (some t303)) = some r := by rw [if_pos rfl] at H; exact H
           clear H
           have H := H1
           clear H1
           replace H := Option.bind_eq_some_iff.mp H
           obtain ⟨t303, A180, H⟩ := H
           replace H : (some t303) = some r := H
           have A18 := Aside0.mk A180
           clear A180
           obtain rfl := Option.some.inj H
           go_wp2_with (first | ((with_reducible refine gate_callee (f := 26) rfl ?_); refine goesL_ (some 26) rfl rfl Try.func26 (by kernel_rfl) rfl #[.slice A0 l0.length c0, .slice A1 l1.length c1, .int .i64 a2] rfl (by (try simp only [List.map_toArray, List.map_cons, List.map_nil]); first | done | rfl) ?_; (with_reducible refine (reads_Valid.calls kj4 _ _ l0 _ _ l1 a2 t299 _ ?side1 ?side2 ?side3 ?side4 A11.out).mono ?_); (case side1 => repeat (first | exact (Kd.C_below HR0.out HB.out) | with_reducible first | refine Kd.C_alloc ?_ _ | refine Kd.C_drewN ?_ _ | refine Kd.C_drew ?_)); (case side2 => exact HC0.out); (case side3 => repeat (first | exact (Kd.C_below HR1.out HB.out) | with_reducible first | refine Kd.C_alloc ?_ _ | refine Kd.C_drewN ?_ _ | refine Kd.C_drew ?_)); (case side4 => exact HC1.out); rintro e w19 ⟨rfl, hb⟩; refine ⟨_, rfl, ?_⟩; have n0_ := Aside0.mk (bst_ hb); clear HB; have HB := n0_; clear n0_; (try clear hb); (try clear hb2); (try clear hk); (try clear hi)) | ((with_reducible refine gate_callee (f := 27) rfl ?_); refine goesL_ (some 30) rfl rfl Try.func27 (by kernel_rfl) rfl #[.slice A0 l0.length c0, .slice A1 l1.length c1, .int .i64 a2] rfl (by (try simp only [List.map_toArray, List.map_cons, List.map_nil]); first | done | rfl) ?_; (with_reducible refine (handshakerref05_Valid.calls kj4 _ _ l0 _ _ l1 a2 t300 _ ?side1 ?side2 ?side3 ?side4 A12.out).mono ?_); (case side1 => repeat (first | exact (Kd.C_below HR0.out HB.out) | with_reducible first | refine Kd.C_alloc ?_ _ | refine Kd.C_drewN ?_ _ | refine Kd.C_drew ?_)); (case side2 => exact HC0.out); (case side3 => repeat (first | exact (Kd.C_below HR1.out HB.out) | with_reducible first | refine Kd.C_alloc ?_ _ | refine Kd.C_drewN ?_ _ | refine Kd.C_drew ?_)); (case side4 => exact HC1.out); rintro e w20 ⟨rfl, hb⟩; refine ⟨_, rfl, ?_⟩; have n0_ := Aside0.mk (bst_ hb); clear HB; have HB := n0_; clear n0_; (try clear hb); (try clear hb2); (try clear hk); (try clear hi)) | (go_at_call 28; (with_reducible refine (reads_Same.calls kj4 _ _ l0 _ _ l3 true _ ?side1 ?side2 ?side3 ?side4 A14.out).mono ?_); (case side1 => repeat (first | exact (Kd.C_below HR0.out HB.out) | with_reducible first | refine Kd.C_alloc ?_ _ | refine Kd.C_drewN ?_ _ | refine Kd.C_drew ?_)); (case side2 => exact HC0.out); (case side3 => repeat (first | exact (Kd.C_below HR3.out HB.out) | with_reducible first | refine Kd.C_alloc ?_ _ | refine Kd.C_drewN ?_ _ | refine Kd.C_drew ?_)); (case side4 => exact HC3.out); rintro e w21 ⟨rfl, hb⟩; have n0_ := Aside0.mk (bst_ hb); clear HB; have HB := n0_; clear n0_; (try clear hb); (try clear hb2); (try clear hk); (try clear hi)) | (go_at_call 29; (with_reducible refine (handshakerref05_Still.calls kj4 _ _ l0 _ _ l3 true _ ?side1 ?side2 ?side3 ?side4 A15.out).mono ?_); (case side1 => repeat (first | exact (Kd.C_below HR0.out HB.out) | with_reducible first | refine Kd.C_alloc ?_ _ | refine Kd.C_drewN ?_ _ | refine Kd.C_drew ?_)); (case side2 => exact HC0.out); (case side3 => repeat (first | exact (Kd.C_below HR3.out HB.out) | with_reducible first | refine Kd.C_alloc ?_ _ | refine Kd.C_drewN ?_ _ | refine Kd.C_drew ?_)); (case side4 => exact HC3.out); rintro e w22 ⟨rfl, hb⟩; have n0_ := Aside0.mk (bst_ hb); clear HB; have HB := n0_; clear n0_; (try clear hb); (try clear hb2); (try clear hk); (try clear hi)) | (go_at_call 15; (with_reducible refine (handshakerlaw05_awake.calls kj4  t303 _ A18.out).mono ?_); rintro e w23 ⟨rfl, hb⟩; have n0_ := Aside0.mk (bst_ hb); clear HB; have HB := n0_; clear n0_; (try clear hb); (try clear hb2); (try clear hk); (try clear hi)))
           go_ret
           exact ⟨by first | rfl | (simp [errW_none, errW_some] <;> rfl) | (simp [*, errW_none, errW_some] <;> rfl), by repeat (with_reducible first | exact HB.out | apply below_alloc | apply pw_below_drewN | apply below_drew1)⟩
         · replace c17 := Bool.eq_false_iff.mpr c17
           subst c17
           have H1 : (some false) = some r := by rw [if_neg (show ¬ (false = true) by decide)] at H; exact H
           clear H
           have H := H1
           clear H1
           exact absurd (Option.some.inj H) (by rw [HT.out]; decide)
       · replace c16 := Bool.eq_false_iff.mpr c16
         subst c16
         have H1 : (if t302 = true then (some false) else ((handshakerlaw05_awake.f kj4).bind fun t304 => (some t304))) = some r := by rw [if_neg (show ¬ (false = true) by decide)] at H; exact H
         clear H
         have H := H1
         clear H1
         by_cases c24 : t302 = true
         · subst c24
           have H1 : (some false) = some r := by rw [if_pos rfl] at H; exact H
           clear H
           have H := H1
           clear H1
           exact absurd (Option.some.inj H) (by rw [HT.out]; decide)
         · replace c24 := Bool.eq_false_iff.mpr c24
           subst c24
           have H1 : ((handshakerlaw05_awake.f kj4).bind fun t304 => (some t304)) = some r := by rw [if_neg (show ¬ (false = true) by decide)] at H; exact H
           clear H
           have H := H1
           clear H1
           replace H := Option.bind_eq_some_iff.mp H
           obtain ⟨t304, A250, H⟩ := H
           replace H : (some t304) = some r := H
           have A25 := Aside0.mk A250
           clear A250
           obtain rfl := Option.some.inj H
           go_wp2_with (first | ((with_reducible refine gate_callee (f := 26) rfl ?_); refine goesL_ (some 26) rfl rfl Try.func26 (by kernel_rfl) rfl #[.slice A0 l0.length c0, .slice A1 l1.length c1, .int .i64 a2] rfl (by (try simp only [List.map_toArray, List.map_cons, List.map_nil]); first | done | rfl) ?_; (with_reducible refine (reads_Valid.calls kj4 _ _ l0 _ _ l1 a2 t299 _ ?side1 ?side2 ?side3 ?side4 A11.out).mono ?_); (case side1 => repeat (first | exact (Kd.C_below HR0.out HB.out) | with_reducible first | refine Kd.C_alloc ?_ _ | refine Kd.C_drewN ?_ _ | refine Kd.C_drew ?_)); (case side2 => exact HC0.out); (case side3 => repeat (first | exact (Kd.C_below HR1.out HB.out) | with_reducible first | refine Kd.C_alloc ?_ _ | refine Kd.C_drewN ?_ _ | refine Kd.C_drew ?_)); (case side4 => exact HC1.out); rintro e w26 ⟨rfl, hb⟩; refine ⟨_, rfl, ?_⟩; have n0_ := Aside0.mk (bst_ hb); clear HB; have HB := n0_; clear n0_; (try clear hb); (try clear hb2); (try clear hk); (try clear hi)) | ((with_reducible refine gate_callee (f := 27) rfl ?_); refine goesL_ (some 30) rfl rfl Try.func27 (by kernel_rfl) rfl #[.slice A0 l0.length c0, .slice A1 l1.length c1, .int .i64 a2] rfl (by (try simp only [List.map_toArray, List.map_cons, List.map_nil]); first | done | rfl) ?_; (with_reducible refine (handshakerref05_Valid.calls kj4 _ _ l0 _ _ l1 a2 t300 _ ?side1 ?side2 ?side3 ?side4 A12.out).mono ?_); (case side1 => repeat (first | exact (Kd.C_below HR0.out HB.out) | with_reducible first | refine Kd.C_alloc ?_ _ | refine Kd.C_drewN ?_ _ | refine Kd.C_drew ?_)); (case side2 => exact HC0.out); (case side3 => repeat (first | exact (Kd.C_below HR1.out HB.out) | with_reducible first | refine Kd.C_alloc ?_ _ | refine Kd.C_drewN ?_ _ | refine Kd.C_drew ?_)); (case side4 => exact HC1.out); rintro e w27 ⟨rfl, hb⟩; refine ⟨_, rfl, ?_⟩; have n0_ := Aside0.mk (bst_ hb); clear HB; have HB := n0_; clear n0_; (try clear hb); (try clear hb2); (try clear hk); (try clear hi)) | (go_at_call 28; (with_reducible refine (reads_Same.calls kj4 _ _ l0 _ _ l3 false _ ?side1 ?side2 ?side3 ?side4 A14.out).mono ?_); (case side1 => repeat (first | exact (Kd.C_below HR0.out HB.out) | with_reducible first | refine Kd.C_alloc ?_ _ | refine Kd.C_drewN ?_ _ | refine Kd.C_drew ?_)); (case side2 => exact HC0.out); (case side3 => repeat (first | exact (Kd.C_below HR3.out HB.out) | with_reducible first | refine Kd.C_alloc ?_ _ | refine Kd.C_drewN ?_ _ | refine Kd.C_drew ?_)); (case side4 => exact HC3.out); rintro e w28 ⟨rfl, hb⟩; have n0_ := Aside0.mk (bst_ hb); clear HB; have HB := n0_; clear n0_; (try clear hb); (try clear hb2); (try clear hk); (try clear hi)) | (go_at_call 29; (with_reducible refine (handshakerref05_Still.calls kj4 _ _ l0 _ _ l3 false _ ?side1 ?side2 ?side3 ?side4 A15.out).mono ?_); (case side1 => repeat (first | exact (Kd.C_below HR0.out HB.out) | with_reducible first | refine Kd.C_alloc ?_ _ | refine Kd.C_drewN ?_ _ | refine Kd.C_drew ?_)); (case side2 => exact HC0.out); (case side3 => repeat (first | exact (Kd.C_below HR3.out HB.out) | with_reducible first | refine Kd.C_alloc ?_ _ | refine Kd.C_drewN ?_ _ | refine Kd.C_drew ?_)); (case side4 => exact HC3.out); rintro e w29 ⟨rfl, hb⟩; have n0_ := Aside0.mk (bst_ hb); clear HB; have HB := n0_; clear n0_; (try clear hb); (try clear hb2); (try clear hk); (try clear hi)) | (go_at_call 15; (with_reducible refine (handshakerlaw05_awake.calls kj4  t304 _ A25.out).mono ?_); rintro e w30 ⟨rfl, hb⟩; have n0_ := Aside0.mk (bst_ hb); clear HB; have HB := n0_; clear n0_; (try clear hb); (try clear hb2); (try clear hk); (try clear hi)))
           go_ret
           exact ⟨by first | rfl | (simp [errW_none, errW_some] <;> rfl) | (simp [*, errW_none, errW_some] <;> rfl), by repeat (with_reducible first | exact HB.out | apply below_alloc | apply pw_below_drewN | apply below_drew1)⟩
     · rw [if_neg c13] at H
       have c13b0 : (t299 == t300) = false := beq_eq_false_iff_ne.mpr c13
       have c13b1 : (t299 != t300) = true := bne_iff_ne.mpr c13
       exact absurd (Option.some.inj H) (by rw [HT.out]; decide)

/-- THE ONE PURE STATEMENT of handshakerlaw05_ReadsValid. -/
def handshakerlaw05_ReadsValid.Pure : Prop := ∀ (l0 : List (S24)) (l1 : List (S67)) (a2 : Int) (l3 : List (S73)), l0.length ≤ maxLen → l0.length * 24 ≤ 140737488351232 → (∀ y ∈ l0, wfS24 y) → l1.length ≤ maxLen → l1.length * 16 ≤ 140737488351232 → (∀ y ∈ l1, wfS67 y) → (Lit.int .i64 a2).wf = true → l3.length ≤ maxLen → l3.length * 16 ≤ 140737488351232 → (∀ y ∈ l3, wfS73 y) → ∃ k, handshakerlaw05_ReadsValid.f k l0 l1 a2 l3 = some true

end Go.Proofs.Ytlfmobnmohnjmaa.R
