-- PRINTED by print.py (a twelfth state) out of the translation. Not trusted: Lean checks it.
import Derived.Test.YtpeblomhhofhkaaHx0
import Derived.Test.YtpeblomhhofhkaaHx1
import Derived.Test.YtpeblomhhofhkaaHx14
namespace Go.Proofs.Ytpeblomhhofhkaa.H
open Go.Proofs.Ytpeblomhhofhkaa.Ho
open Go.RowKit Go.Proofs.YtpeblomhhofhkaaW.PrintWords Go.Proofs.YtpeblomhhofhkaaW.PrintLast Go.Proofs.YtpeblomhhofhkaaW.PrintMore
attribute [local go_sem] max2_int min2_int max_two min_two max_three min_three max_four min_four   -- for this text's walks alone
set_option linter.unusedVariables false
set_option linter.unusedSimpArgs false

attribute [local go_sem high] eqA66
/-! ### handshakerref09_at: function 31 -/
def handshakerref09_at.f (l0 : List Int) (a1 : Int) : Option (Int) := if a1 < (l0.length : Int) then (if 0 ≤ a1 then (some (wrap64 (rd l0 a1))) else (none)) else (some 0)
set_option maxHeartbeats 8000000 in
set_option maxRecDepth 100000 in
theorem handshakerref09_at.calls (A0 : Option Addr) (c0 : Nat) (l0 : List Int) (a1 : Int) (r : Int) (w : World) (hr0 : Kd.C (Kd.int .u8) w A0 l0.length l0) (hc0 : l0.length ≤ c0) (h : handshakerref09_at.f l0 a1 = some r) :
 Calls Try.prog 31 #[.slice A0 l0.length c0, .int .i64 a1] w fun e w' => e = .returned (.int .i64 r) ∧ Drawn0 w w' := by
 have HR0 := ak hr0
 have HC0 := ak hc0
 clear hr0 hc0
 have H : (if a1 < (l0.length : Int) then (if 0 ≤ a1 then (some (wrap64 (rd l0 a1))) else (none)) else (some 0)) = some r := h
 clear h
 by_cases c3 : a1 < (l0.length : Int)
 rotate_left
 · rw [if_neg c3] at H
   have c3b0 : decide (a1 < (l0.length : Int)) = false := decide_eq_false c3
   clear c3
   obtain rfl := Option.some.inj H
   go_enter Try.func31, Try.ntmps31
   go_wp2
   go_ret
   exact ⟨by first | rfl | (simp; done) | (simp [*]; done), by repeat (first | exact Drawn0.refl _ | apply Drawn0.step)⟩
 rw [if_pos c3] at H
 have c3b0 : decide (a1 < (l0.length : Int)) = true := decide_eq_true c3
 clear c3
 by_cases c4 : 0 ≤ a1
 rotate_left
 · rw [if_neg c4] at H
   exact absurd H (by simp)
 rw [if_pos c4] at H
 have c4b0 : decide (0 ≤ a1) = true := decide_eq_true c4
 clear c4
 obtain rfl := Option.some.inj H
 have p377 : 0 ≤ (a1 : Int) := oda_
 have q377 : a1 < (l0.length : Int) := oda_
 obtain ⟨ad377, e377, hx377_0⟩ := Kd.at_int HR0.out a1 p377 q377
 cases e377
 replace p377 := eq_true p377
 replace q377 := eq_true q377
 go_enter Try.func31, Try.ntmps31
 go_wp2
 go_ret
 exact ⟨by first | rfl | (simp; done) | (simp [*]; done), by repeat (first | exact Drawn0.refl _ | apply Drawn0.step)⟩

/-! ### handshakerref09_number: function 32 -/
def handshakerref09_number.f (l0 : List Int) (a1 : Int) : Option (Int) := (handshakerref09_at.f l0 a1).bind fun t378 => ((handshakerref09_at.f l0 (wrap64 (a1 + 1))).bind fun t379 => ((handshakerref09_at.f l0 (wrap64 (a1 + 2))).bind fun t380 => ((handshakerref09_at.f l0 (wrap64 (a1 + 3))).bind fun t381 => (if (wrap64 ((wrap64 ((wrap64 ((wrap64 (t378 * 16777216)) + (wrap64 (t379 * 65536)))) + (wrap64 (t380 * 256)))) + t381)) > 2147483647 then (some (wrap64 ((wrap64 ((wrap64 ((wrap64 ((wrap64 (t378 * 16777216)) + (wrap64 (t379 * 65536)))) + (wrap64 (t380 * 256)))) + t381)) - 4294967296))) else (some (wrap64 ((wrap64 ((wrap64 ((wrap64 (t378 * 16777216)) + (wrap64 (t379 * 65536)))) + (wrap64 (t380 * 256)))) + t381)))))))
set_option maxHeartbeats 8000000 in
set_option maxRecDepth 100000 in
theorem handshakerref09_number.calls (A0 : Option Addr) (c0 : Nat) (l0 : List Int) (a1 : Int) (r : Int) (w : World) (hr0 : Kd.C (Kd.int .u8) w A0 l0.length l0) (hc0 : l0.length ≤ c0) (h : handshakerref09_number.f l0 a1 = some r) :
 Calls Try.prog 32 #[.slice A0 l0.length c0, .int .i64 a1] w fun e w' => e = .returned (.int .i64 r) ∧ Drawn0 w w' := by
 have HR0 := ak hr0
 have HC0 := ak hc0
 clear hr0 hc0
 have H : ((handshakerref09_at.f l0 a1).bind fun t378 => ((handshakerref09_at.f l0 (wrap64 (a1 + 1))).bind fun t379 => ((handshakerref09_at.f l0 (wrap64 (a1 + 2))).bind fun t380 => ((handshakerref09_at.f l0 (wrap64 (a1 + 3))).bind fun t381 => (if (wrap64 ((wrap64 ((wrap64 ((wrap64 (t378 * 16777216)) + (wrap64 (t379 * 65536)))) + (wrap64 (t380 * 256)))) + t381)) > 2147483647 then (some (wrap64 ((wrap64 ((wrap64 ((wrap64 ((wrap64 (t378 * 16777216)) + (wrap64 (t379 * 65536)))) + (wrap64 (t380 * 256)))) + t381)) - 4294967296))) else (some (wrap64 ((wrap64 ((wrap64 ((wrap64 (t378 * 16777216)) + (wrap64 (t379 * 65536)))) + (wrap64 (t380 * 256)))) + t381)))))))) = some r := h
 clear h
 obtain ⟨t378, A3, H⟩ := bd_ H
 obtain ⟨t379, A4, H⟩ := bd_ H
 obtain ⟨t380, A5, H⟩ := bd_ H
 obtain ⟨t381, A6, H⟩ := bd_ H
 by_cases c7 : (wrap64 ((wrap64 ((wrap64 ((wrap64 (t378 * 16777216)) + (wrap64 (t379 * 65536)))) + (wrap64 (t380 * 256)))) + t381)) > 2147483647
 rotate_left
 · rw [if_neg c7] at H
   have c7b0 : decide (2147483647 < (wrap64 ((wrap64 ((wrap64 ((wrap64 (t378 * 16777216)) + (wrap64 (t379 * 65536)))) + (wrap64 (t380 * 256)))) + t381))) = false := decide_eq_false c7
   clear c7
   obtain rfl := Option.some.inj H
   go_enter Try.func32, Try.ntmps32
   go_wp2_with (first | ((with_reducible refine gate_callee (f := 31) rfl ?_); refine goesL_ (some 8) rfl rfl Try.func31 (by kernel_rfl) rfl #[.slice A0 l0.length c0, .int .i64 a1] rfl mp_ ?_; (with_reducible refine (handshakerref09_at.calls _ _ l0 a1 t378 _ ?side1 ?side2 A3.out).mono ?_); (case side1 => exact cc_ HR0); (case side2 => exact HC0.out); rintro e w' ⟨rfl, ⟨nd, rfl⟩⟩; refine ⟨_, rfl, ?_⟩) | ((with_reducible refine gate_callee (f := 31) rfl ?_); refine goesL_ (some 13) rfl rfl Try.func31 (by kernel_rfl) rfl #[.slice A0 l0.length c0, .int .i64 (wrap64 (a1 + 1))] rfl mp_ ?_; (with_reducible refine (handshakerref09_at.calls _ _ l0 (wrap64 (a1 + 1)) t379 _ ?side1 ?side2 A4.out).mono ?_); (case side1 => exact cc_ HR0); (case side2 => exact HC0.out); rintro e w' ⟨rfl, ⟨nd, rfl⟩⟩; refine ⟨_, rfl, ?_⟩) | ((with_reducible refine gate_callee (f := 31) rfl ?_); refine goesL_ (some 19) rfl rfl Try.func31 (by kernel_rfl) rfl #[.slice A0 l0.length c0, .int .i64 (wrap64 (a1 + 2))] rfl mp_ ?_; (with_reducible refine (handshakerref09_at.calls _ _ l0 (wrap64 (a1 + 2)) t380 _ ?side1 ?side2 A5.out).mono ?_); (case side1 => exact cc_ HR0); (case side2 => exact HC0.out); rintro e w' ⟨rfl, ⟨nd, rfl⟩⟩; refine ⟨_, rfl, ?_⟩) | ((with_reducible refine gate_callee (f := 31) rfl ?_); refine goesL_ (some 25) rfl rfl Try.func31 (by kernel_rfl) rfl #[.slice A0 l0.length c0, .int .i64 (wrap64 (a1 + 3))] rfl mp_ ?_; (with_reducible refine (handshakerref09_at.calls _ _ l0 (wrap64 (a1 + 3)) t381 _ ?side1 ?side2 A6.out).mono ?_); (case side1 => exact cc_ HR0); (case side2 => exact HC0.out); rintro e w' ⟨rfl, ⟨nd, rfl⟩⟩; refine ⟨_, rfl, ?_⟩))
   go_ret
   exact ⟨by first | rfl | (simp; done) | (simp [*]; done), by repeat (first | exact Drawn0.refl _ | apply Drawn0.step)⟩
 rw [if_pos c7] at H
 have c7b0 : decide (2147483647 < (wrap64 ((wrap64 ((wrap64 ((wrap64 (t378 * 16777216)) + (wrap64 (t379 * 65536)))) + (wrap64 (t380 * 256)))) + t381))) = true := decide_eq_true c7
 clear c7
 obtain rfl := Option.some.inj H
 go_enter Try.func32, Try.ntmps32
 go_wp2_with (first | ((with_reducible refine gate_callee (f := 31) rfl ?_); refine goesL_ (some 8) rfl rfl Try.func31 (by kernel_rfl) rfl #[.slice A0 l0.length c0, .int .i64 a1] rfl mp_ ?_; (with_reducible refine (handshakerref09_at.calls _ _ l0 a1 t378 _ ?side1 ?side2 A3.out).mono ?_); (case side1 => exact cc_ HR0); (case side2 => exact HC0.out); rintro e w' ⟨rfl, ⟨nd, rfl⟩⟩; refine ⟨_, rfl, ?_⟩) | ((with_reducible refine gate_callee (f := 31) rfl ?_); refine goesL_ (some 13) rfl rfl Try.func31 (by kernel_rfl) rfl #[.slice A0 l0.length c0, .int .i64 (wrap64 (a1 + 1))] rfl mp_ ?_; (with_reducible refine (handshakerref09_at.calls _ _ l0 (wrap64 (a1 + 1)) t379 _ ?side1 ?side2 A4.out).mono ?_); (case side1 => exact cc_ HR0); (case side2 => exact HC0.out); rintro e w' ⟨rfl, ⟨nd, rfl⟩⟩; refine ⟨_, rfl, ?_⟩) | ((with_reducible refine gate_callee (f := 31) rfl ?_); refine goesL_ (some 19) rfl rfl Try.func31 (by kernel_rfl) rfl #[.slice A0 l0.length c0, .int .i64 (wrap64 (a1 + 2))] rfl mp_ ?_; (with_reducible refine (handshakerref09_at.calls _ _ l0 (wrap64 (a1 + 2)) t380 _ ?side1 ?side2 A5.out).mono ?_); (case side1 => exact cc_ HR0); (case side2 => exact HC0.out); rintro e w' ⟨rfl, ⟨nd, rfl⟩⟩; refine ⟨_, rfl, ?_⟩) | ((with_reducible refine gate_callee (f := 31) rfl ?_); refine goesL_ (some 25) rfl rfl Try.func31 (by kernel_rfl) rfl #[.slice A0 l0.length c0, .int .i64 (wrap64 (a1 + 3))] rfl mp_ ?_; (with_reducible refine (handshakerref09_at.calls _ _ l0 (wrap64 (a1 + 3)) t381 _ ?side1 ?side2 A6.out).mono ?_); (case side1 => exact cc_ HR0); (case side2 => exact HC0.out); rintro e w' ⟨rfl, ⟨nd, rfl⟩⟩; refine ⟨_, rfl, ?_⟩))
 go_ret
 exact ⟨by first | rfl | (simp; done) | (simp [*]; done), by repeat (first | exact Drawn0.refl _ | apply Drawn0.step)⟩

/-! ### handshakerref09_Read: function 19 -/
mutual
def handshakerref09_Read.l0 : Nat → List Int → List (List (S62)) → Int → Int → Option ((List (List (S62))) × Bool)
 | 0, _, _, _, _ => none
 | k + 1, x0, x4, x5, x6 => (handshakerref09_at.f x0 0).bind fun t382 => (if x6 < t382 then ((handshakerref09_at.f x0 x5).bind fun t387 => (handshakerref09_Read.l1 k x0 x4 (wrap64 (x5 + 1)) x6 ([] : List (S62)) t387 0)) else ((handshakerref09_Write.f k x4).bind fun bt383 => (if bt383.2 = true then (if (strOfNums bt383.1).toList = (strOfNums x0).toList then (some (x4, true)) else (some (([] : List (List (S62))), false))) else (some (([] : List (List (S62))), false)))))
def handshakerref09_Read.l1 : Nat → List Int → List (List (S62)) → Int → Int → List (S62) → Int → Int → Option ((List (List (S62))) × Bool)
 | 0, _, _, _, _, _, _, _ => none
 | k + 1, x0, x4, x5, x6, x7, x8, x9 => if x9 < x8 then ((handshakerref09_at.f x0 x5).bind fun t391 => ((handshakerref09_at.f x0 (wrap64 (x5 + 1))).bind fun t392 => ((handshakerref09_at.f x0 (wrap64 (x5 + 2))).bind fun t393 => ((handshakerref09_at.f x0 (wrap64 (x5 + 3))).bind fun t395 => (handshakerref09_Read.l2 k x0 x4 (wrap64 (x5 + 4)) x6 x7 x8 x9 t395 0 t391 t392 t393 ([] : List (S66))))))) else (if x4.length < 5864062014805 then (handshakerref09_Read.l0 k x0 (x4 ++ [x7]) x5 (wrap64 (x6 + 1))) else (none))
def handshakerref09_Read.l2 : Nat → List Int → List (List (S62)) → Int → Int → List (S62) → Int → Int → Int → Int → Int → Int → Int → List (S66) → Option ((List (List (S62))) × Bool)
 | 0, _, _, _, _, _, _, _, _, _, _, _, _, _ => none
 | k + 1, x0, x4, x5, x6, x7, x8, x9, x11, x12, x395000, x395001, x395002, x395003 => if x12 < x11 then ((handshakerref09_at.f x0 x5).bind fun t396 => ((handshakerref09_number.f x0 (wrap64 (x5 + 1))).bind fun t397 => (if x395003.length < 8796093022208 then (handshakerref09_Read.l2 k x0 x4 (wrap64 (x5 + 5)) x6 x7 x8 x9 x11 (wrap64 (x12 + 1)) x395000 x395001 x395002 (x395003 ++ [(⟨t396, t397⟩ : S66)])) else (none)))) else (if x7.length < 2932031007402 then (handshakerref09_Read.l1 k x0 x4 x5 x6 (x7 ++ [(⟨x395000, x395001, x395002, x395003⟩ : S62)]) x8 (wrap64 (x9 + 1))) else (none))
end
def handshakerref09_Read.f (k : Nat) (l0 : List Int) : Option ((List (List (S62))) × Bool) := handshakerref09_Read.l0 k l0 ([] : List (List (S62))) 1 0
theorem handshakerref09_Read.mono_l : ∀ k, (∀ y0 y1 y2 y3, LeO (handshakerref09_Read.l0 k y0 y1 y2 y3) (handshakerref09_Read.l0 (k + 1) y0 y1 y2 y3)) ∧ (∀ y0 y1 y2 y3 y4 y5 y6, LeO (handshakerref09_Read.l1 k y0 y1 y2 y3 y4 y5 y6) (handshakerref09_Read.l1 (k + 1) y0 y1 y2 y3 y4 y5 y6)) ∧ (∀ y0 y1 y2 y3 y4 y5 y6 y7 y8 y9 y10 y11 y12, LeO (handshakerref09_Read.l2 k y0 y1 y2 y3 y4 y5 y6 y7 y8 y9 y10 y11 y12) (handshakerref09_Read.l2 (k + 1) y0 y1 y2 y3 y4 y5 y6 y7 y8 y9 y10 y11 y12))
 | 0 => ⟨fun _ _ _ _ r h => by simp [handshakerref09_Read.l0] at h, fun _ _ _ _ _ _ _ r h => by simp [handshakerref09_Read.l1] at h, fun _ _ _ _ _ _ _ _ _ _ _ _ _ r h => by simp [handshakerref09_Read.l2] at h⟩
 | k + 1 => by
  obtain ⟨ih0, ih1, ih2⟩ := handshakerref09_Read.mono_l k
  refine ⟨?_, ?_, ?_⟩
  all_goals intros
  all_goals first | unfold handshakerref09_Read.l0 | unfold handshakerref09_Read.l1 | unfold handshakerref09_Read.l2
  all_goals repeat' first | exact LeO.refl _ | exact LeO.none _ | (with_reducible apply ih0) | (with_reducible apply ih1) | (with_reducible apply ih2) | (with_reducible apply handshakerref09_Write.mono) | (with_reducible refine LeO.ite ?_ ?_) | (with_reducible refine LeO.bind ?_ (fun _ => ?_)) | apply ih0 | apply ih1 | apply ih2 | apply handshakerref09_Write.mono | refine LeO.ite ?_ ?_ | refine LeO.bind ?_ (fun _ => ?_)
theorem handshakerref09_Read.mono : ∀ a0 k, LeO (handshakerref09_Read.f k a0) (handshakerref09_Read.f (k + 1) a0) := by
 intro a0 k
 obtain ⟨ih0, ih1, ih2⟩ := handshakerref09_Read.mono_l k
 unfold handshakerref09_Read.f
 repeat' first
  | (with_reducible exact ih0 _ _ _ _)
  | (with_reducible exact ih1 _ _ _ _ _ _ _)
  | (with_reducible exact ih2 _ _ _ _ _ _ _ _ _ _ _ _ _)
  | (with_reducible exact handshakerref09_Write.mono _ _)
  | (with_reducible exact LeO.refl _)
  | (with_reducible exact LeO.none _)
  | (with_reducible refine LeO.ite ?_ ?_)
  | (with_reducible refine LeO.bind ?_ (fun _ => ?_))
  | exact ih0 _ _ _ _
  | exact ih1 _ _ _ _ _ _ _
  | exact ih2 _ _ _ _ _ _ _ _ _ _ _ _ _
  | exact handshakerref09_Write.mono _ _
  | exact LeO.none _
  | refine LeO.ite ?_ ?_
  | refine LeO.bind ?_ (fun _ => ?_)
def handshakerref09_Read.T18 : Bool × List (List Nat × List Nat) := (true, [([], []), ([0], [0]), ([], []), ([], []), ([2, 3], [2, 3]), ([], []), ([], []), ([6], [6]), ([5, 7, 4], [5, 7]), ([4, 8], [4, 8]), ([9], [9]), ([1, 10, 8], [1, 10]), ([0, 1, 2, 3, 4, 5, 6, 7, 8, 9, 10, 11], []), ([12, 11, 11, 0, 1, 2, 3, 4, 5, 6, 7, 8, 9, 10, 11], [11, 12])])
def handshakerref09_Read.B18 : List Nat := [0, 1, 0, 0, 12, 0, 0, 64, 252, 508, 1020, 2047, 4095, 8191]
theorem handshakerref09_Read.tab18 : rtab .any (opsOf Try.f19 18) = handshakerref09_Read.T18 := by kernel_rfl
theorem handshakerref09_Read.bits18 : waitsOk handshakerref09_Read.T18.2 handshakerref09_Read.B18 = true := by kernel_rfl
set_option maxHeartbeats 8000000 in
set_option maxRecDepth 100000 in
theorem handshakerref09_Read.calls (k : Nat) (A0 : Option Addr) (c0 : Nat) (l0 : List Int) (r1 : List (List (S62))) (r2 : Bool) (w : World) (hr0 : Kd.C (Kd.int .u8) w A0 l0.length l0) (hc0 : l0.length ≤ c0) (h : handshakerref09_Read.f k l0 = some (r1, r2)) :
 Calls Try.prog 19 #[.slice A0 l0.length c0] w fun e w' => ∃ v0_ : Value, e = .returned (.tuple #[v0_, .bool r2]) ∧ Kd.R (Kd.slice 62 k62) 35 w' w.heap.size (fun _ => True) v0_ r1 ∧ Below w.heap.size w w' := by
 have hu62 := Try.underlying62
 have hu66 := Try.underlying66
 have HR0 := ak hr0
 have HC0 := ak hc0
 clear hr0 hc0
 have HB := ak (Below.refl w.heap.size w)
 have H : (handshakerref09_Read.l0 k l0 ([] : List (List (S62))) 1 0) = some (r1, r2) := h
 clear h
 have H' := ak H
 clear H
 go_enter Try.func19, Try.ntmps19
 go_wp2
 go_loopg [4, 5, 6] k (fun kq v4 v5 v6 w' => ∃ (x4_1 : List (List (S62))) (x5_1 : Int) (x6_1 : Int), v5 = .int .i64 x5_1 ∧ v6 = .int .i64 x6_1 ∧ Aside0 (handshakerref09_Read.l0 kq l0 x4_1 x5_1 x6_1 = some (r1, r2)) ∧ Aside0 (kq ≤ k) ∧ Aside0 (Kd.R (Kd.slice 62 k62) 35 w' w.heap.size (fun _ => True) v4 x4_1) ∧ Aside0 (Below w.heap.size w w'))
 case atStart => exact ⟨(([] : List (List (S62)))), (1), (0), (by first | rfl | (simp; done) | (simp [*]; done)), (by first | rfl | (simp; done) | (simp [*]; done)), H', ⟨Nat.le_refl _⟩, ⟨by first | exact Kd.R_nil _ _ _ _ _ | exact Kd.N_nil _ _ _ _ _ | exact Kd.V_nil _ _ _ _ _ | exact Kd.Q_nil _ _ _ _ _ | exact Kd.S_nil _ _ _ _ _⟩, ⟨bsv_⟩⟩
 case round =>
  clear H'
  try clear c1
  obtain ⟨x4_1, x5_1, x6_1, rfl, rfl, HA, HK1, HO_4, HB⟩ := hrel
  cases gk with
  | zero => exact absurd HA.out (by simp [handshakerref09_Read.l0])
  | succ k1 =>
   have H := HA.out
   clear HA
   simp only [handshakerref09_Read.l0] at H
   obtain ⟨t382, A2, H⟩ := bd_ H
   by_cases c3 : x6_1 < t382
   rotate_left
   · rw [if_neg c3] at H
     have c3b0 : decide (x6_1 < t382) = false := decide_eq_false c3
     clear c3
     replace H := Option.bind_eq_some_iff.mp H
     obtain ⟨⟨t383, t384⟩, A270, H⟩ := H
     have A27 := ak A270
     clear A270
     by_cases c28 : t384 = true
     rotate_left
     · replace c28 := Bool.eq_false_iff.mpr c28
       subst c28
       rw [if_neg (show ¬ (false = true) by decide)] at H
       simp only [Option.some.injEq, Prod.mk.injEq] at H
       obtain ⟨rfl, rfl⟩ := H
       go_wp2_with (first | ((with_reducible refine gate_callee (f := 31) rfl ?_); refine goesL_ (some 17) rfl rfl Try.func31 (by kernel_rfl) rfl #[.slice A0 l0.length c0, .int .i64 0] rfl mp_ ?_; (with_reducible refine (handshakerref09_at.calls _ _ l0 0 t382 _ ?side1 ?side2 A2.out).mono ?_); (case side1 => exact cb_ HR0 HB); (case side2 => exact HC0.out); rintro e w' ⟨rfl, ⟨nd, rfl⟩⟩; refine ⟨_, rfl, ?_⟩; obtain ⟨Ao38, co38, eo38⟩ := Kd.R_slice HO_4.out; subst eo38) | ((with_reducible refine gate_callee (f := 12) rfl ?_); refine goesL_ (some 79) rfl rfl Try.func12 (by kernel_rfl) rfl #[.slice Ao38 x4_1.length co38] rfl mp_ ?_; (with_reducible refine (handshakerref09_Write.calls k1 _ _ x4_1 t383 false _ ?side1 ?side2 A27.out).mono ?_); (case side1 => exact rc_ HO_4); (case side2 => exact (Kd.R_reads' HO_4.out).2.1); rintro e w39 ⟨v385, rfl, ho0, hb⟩; refine ⟨_, rfl, ?_⟩; replace HO_4 := rb_ HO_4 hb; replace HO386 := ak (Kd.R_lower ho0 bsz_); replace HB := ak (bst_ hb); (try clear hb); (try clear ho0)))
       go_ret2
       exact ⟨_, by first | rfl | (simp [errW_none, errW_some] <;> rfl) | (simp [*, errW_none, errW_some] <;> rfl), by first | exact Kd.R_nil _ _ _ _ _ | exact Kd.N_nil _ _ _ _ _ | exact Kd.V_nil _ _ _ _ _ | exact Kd.Q_nil _ _ _ _ _ | exact Kd.S_nil _ _ _ _ _, bsv_⟩
     subst c28
     rw [if_pos rfl] at H
     by_cases c29 : (strOfNums t383).toList = (strOfNums l0).toList
     rotate_left
     · rw [if_neg c29] at H
       have c29b0 : ((strOfNums t383).toList == (strOfNums l0).toList) = false := beq_eq_false_iff_ne.mpr c29
       have c29b1 : ((strOfNums t383).toList != (strOfNums l0).toList) = true := bne_iff_ne.mpr c29
       simp only [Option.some.injEq, Prod.mk.injEq] at H
       obtain ⟨rfl, rfl⟩ := H
       go_wp2_with (first | ((with_reducible refine gate_callee (f := 31) rfl ?_); refine goesL_ (some 17) rfl rfl Try.func31 (by kernel_rfl) rfl #[.slice A0 l0.length c0, .int .i64 0] rfl mp_ ?_; (with_reducible refine (handshakerref09_at.calls _ _ l0 0 t382 _ ?side1 ?side2 A2.out).mono ?_); (case side1 => exact cb_ HR0 HB); (case side2 => exact HC0.out); rintro e w' ⟨rfl, ⟨nd, rfl⟩⟩; refine ⟨_, rfl, ?_⟩; obtain ⟨Ao34, co34, eo34⟩ := Kd.R_slice HO_4.out; subst eo34) | ((with_reducible refine gate_callee (f := 12) rfl ?_); refine goesL_ (some 79) rfl rfl Try.func12 (by kernel_rfl) rfl #[.slice Ao34 x4_1.length co34] rfl mp_ ?_; (with_reducible refine (handshakerref09_Write.calls k1 _ _ x4_1 t383 true _ ?side1 ?side2 A27.out).mono ?_); (case side1 => exact rc_ HO_4); (case side2 => exact (Kd.R_reads' HO_4.out).2.1); rintro e w35 ⟨v385, rfl, ho0, hb⟩; refine ⟨_, rfl, ?_⟩; replace HO_4 := rb_ HO_4 hb; replace HO386 := ak (Kd.R_lower ho0 bsz_); replace HB := ak (bst_ hb); (try clear hb); (try clear ho0); have hcv36 := own_string (P := Try.prog) Try.underlying25 Try.underlying5 Try.underlying9 (Kd.own_of_R HO386.out); have hcv37 := Kd.C_string (P := Try.prog) (A := A0) (c := c0) Try.underlying25 Try.underlying5 Try.underlying9 (Kd.C_below HR0.out HB.out)))
       go_ret2
       exact ⟨_, by first | rfl | (simp [errW_none, errW_some] <;> rfl) | (simp [*, errW_none, errW_some] <;> rfl), by first | exact Kd.R_nil _ _ _ _ _ | exact Kd.N_nil _ _ _ _ _ | exact Kd.V_nil _ _ _ _ _ | exact Kd.Q_nil _ _ _ _ _ | exact Kd.S_nil _ _ _ _ _, bsv_⟩
     rw [if_pos c29] at H
     have c29b0 : ((strOfNums t383).toList == (strOfNums l0).toList) = true := beq_iff_eq.mpr c29
     have c29b1 : ((strOfNums t383).toList != (strOfNums l0).toList) = false := bne_eq_false_iff_eq.mpr c29
     clear c29
     simp only [Option.some.injEq, Prod.mk.injEq] at H
     obtain ⟨rfl, rfl⟩ := H
     go_wp2_with (first | ((with_reducible refine gate_callee (f := 31) rfl ?_); refine goesL_ (some 17) rfl rfl Try.func31 (by kernel_rfl) rfl #[.slice A0 l0.length c0, .int .i64 0] rfl mp_ ?_; (with_reducible refine (handshakerref09_at.calls _ _ l0 0 t382 _ ?side1 ?side2 A2.out).mono ?_); (case side1 => exact cb_ HR0 HB); (case side2 => exact HC0.out); rintro e w' ⟨rfl, ⟨nd, rfl⟩⟩; refine ⟨_, rfl, ?_⟩; obtain ⟨Ao30, co30, eo30⟩ := Kd.R_slice HO_4.out; subst eo30) | ((with_reducible refine gate_callee (f := 12) rfl ?_); refine goesL_ (some 79) rfl rfl Try.func12 (by kernel_rfl) rfl #[.slice Ao30 x4_1.length co30] rfl mp_ ?_; (with_reducible refine (handshakerref09_Write.calls k1 _ _ x4_1 t383 true _ ?side1 ?side2 A27.out).mono ?_); (case side1 => exact rc_ HO_4); (case side2 => exact (Kd.R_reads' HO_4.out).2.1); rintro e w31 ⟨v385, rfl, ho0, hb⟩; refine ⟨_, rfl, ?_⟩; replace HO_4 := rb_ HO_4 hb; replace HO386 := ak (Kd.R_lower ho0 bsz_); replace HB := ak (bst_ hb); (try clear hb); (try clear ho0); have hcv32 := own_string (P := Try.prog) Try.underlying25 Try.underlying5 Try.underlying9 (Kd.own_of_R HO386.out); have hcv33 := Kd.C_string (P := Try.prog) (A := A0) (c := c0) Try.underlying25 Try.underlying5 Try.underlying9 (Kd.C_below HR0.out HB.out)))
     go_ret2
     exact ⟨_, by first | rfl | (simp [errW_none, errW_some] <;> rfl) | (simp [*, errW_none, errW_some] <;> rfl), rq_ HO_4, bsv_⟩
   rw [if_pos c3] at H
   have c3b0 : decide (x6_1 < t382) = true := decide_eq_true c3
   clear c3
   obtain ⟨t387, A4, H⟩ := bd_ H
   have H' := ak H
   clear H
   go_wp2_with (first | ((with_reducible refine gate_callee (f := 31) rfl ?_); refine goesL_ (some 17) rfl rfl Try.func31 (by kernel_rfl) rfl #[.slice A0 l0.length c0, .int .i64 0] rfl mp_ ?_; (with_reducible refine (handshakerref09_at.calls _ _ l0 0 t382 _ ?side1 ?side2 A2.out).mono ?_); (case side1 => exact cb_ HR0 HB); (case side2 => exact HC0.out); rintro e w' ⟨rfl, ⟨nd, rfl⟩⟩; refine ⟨_, rfl, ?_⟩) | ((with_reducible refine gate_callee (f := 31) rfl ?_); refine goesL_ (some 23) rfl rfl Try.func31 (by kernel_rfl) rfl #[.slice A0 l0.length c0, .int .i64 x5_1] rfl mp_ ?_; (with_reducible refine (handshakerref09_at.calls _ _ l0 x5_1 t387 _ ?side1 ?side2 A4.out).mono ?_); (case side1 => repeat (first | exact (Kd.C_below HR0.out bsv_) | with_reducible first | refine Kd.C_alloc ?_ _ | refine Kd.C_drewN ?_ _ | refine Kd.C_drew ?_)); (case side2 => exact HC0.out); rintro e w' ⟨rfl, ⟨nd, rfl⟩⟩; refine ⟨_, rfl, ?_⟩))
   go_loopg [5, 7, 9] k1 (fun kq v5 v7 v9 w' => ∃ (x5_2 : Int) (x7_2 : List (S62)) (x9_2 : Int), v5 = .int .i64 x5_2 ∧ v9 = .int .i64 x9_2 ∧ Aside0 (handshakerref09_Read.l1 kq l0 x4_1 x5_2 x6_1 x7_2 t387 x9_2 = some (r1, r2)) ∧ Aside0 (kq ≤ k1) ∧ Aside0 (Kd.R (Kd.slice 62 k62) 35 w' w.heap.size (fun k_ => some k_ ≠ (v7 : Value).ownBlock) u4 x4_1) ∧ Aside0 (Kd.S k62 62 w' w.heap.size (fun _ => True) v7 x7_2) ∧ Aside0 (Below w.heap.size w w'))
   case atStart => exact ⟨(wrap64 (x5_1 + 1)), (([] : List (S62))), (0), (by first | rfl | (simp; done) | (simp [*]; done)), (by first | rfl | (simp; done) | (simp [*]; done)), H', ⟨Nat.le_refl _⟩, ⟨Kd.R_mono (rq_ HO_4) (fun _ hk => (by simp [Value.ownBlock]))⟩, ⟨by first | exact Kd.S_nil _ _ _ _ _ | exact Kd.N_nil _ _ _ _ _ | exact Kd.V_nil _ _ _ _ _ | exact Kd.Q_nil _ _ _ _ _ | exact Kd.R_nil _ _ _ _ _⟩, ⟨bsv_⟩⟩
   case round =>
    clear H'
    try clear c1
    try clear p2
    try clear c3
    try clear c3b0
    obtain ⟨x5_2, x7_2, x9_2, rfl, rfl, HA, HK2, HO_4, HO_7, HB⟩ := hrel
    cases gk with
    | zero => exact absurd HA.out (by simp [handshakerref09_Read.l1])
    | succ k2 =>
     have H := HA.out
     clear HA
     simp only [handshakerref09_Read.l1] at H
     by_cases c5 : x9_2 < t387
     rotate_left
     · rw [if_neg c5] at H
       have c5b0 : decide (x9_2 < t387) = false := decide_eq_false c5
       clear c5
       by_cases c24 : x4_1.length < 5864062014805
       rotate_left
       · rw [if_neg c24] at H
         exact absurd H (by simp)
       rw [if_pos c24] at H
       have LMc24 := ak c24
       clear c24
       obtain ⟨y388, hy388⟩ : ∃ y_ : List (List (S62)), y_ = (x4_1 ++ [x7_2]) := ⟨_, rfl⟩
       replace H : (handshakerref09_Read.l0 k2 l0 y388 x5_2 (wrap64 (x6_1 + 1))) = some (r1, r2) := rh_ hy388 H
       have Ny388 := ak hy388
       clear hy388
       have H' := ak H
       clear H
       obtain ⟨Ao26, co26, eo26⟩ := Kd.S_slice HO_7.out
       subst eo26
       go_wp2_with (first | ((with_reducible refine gate_builtin (b := .append) (xs := #[.tmp 73, .tmp 75]) rfl ?_); at_builtin; refine Kd.R_append (Kd.slice 62 k62) (w0 := w) w.heap.size rfl (.tmp 73) (.tmp 75) 31 35 (.slice none 0 0) 24 rfl Try.underlying31 info35 rfl (by decide) (by omega) u4 x4_1 x7_2 [.slice Ao26 x7_2.length co26] (fun _ => True) (fun k_ => ((fun _ => True)) k_ ∧ some k_ ≠ (u4 : Value).ownBlock) rfl rfl ?aP (fun _ hk => hk) ?aF ?aO ?aB ?aS ?aL ?_; (case aP => exact Kd.M_row (Kd.R_mono (Kd.R_apart' ((Kd.S_R HO_7.out)) (Kd.R_typed HO_4.out) (by decide)) (fun k_ hk => ⟨trivial, hk.2⟩))); (case aB => exact bsv_); (case aF => exact (fun _ _ => trivial)); (case aO => exact (Kd.R_mono (rq_ HO_4) (fun _ hk => trivial))); (case aS => exact bsz_); (case aL => have := LMc24.out; omega); intro v389 w25 ho hb hg hat; rw [← Ny388.out] at ho; replace HB := ak (hb); replace HO390 := ak (ho); clear HO_4; clear HO_7; clear ho hb hg hat))
       go_roundg k2
       case measure => have := HK1.out; have := HK2.out; omega
       case rel => exact ⟨(y388), (x5_2), (wrap64 (x6_1 + 1)), (by first | rfl | (simp; done) | (simp [*]; done)), (by first | rfl | (simp; done) | (simp [*]; done)), H', ⟨by have := HK1.out; have := HK2.out; omega⟩, ⟨rq_ HO390⟩, ⟨bsv_⟩⟩
     rw [if_pos c5] at H
     have c5b0 : decide (x9_2 < t387) = true := decide_eq_true c5
     clear c5
     obtain ⟨t391, A6, H⟩ := bd_ H
     obtain ⟨t392, A7, H⟩ := bd_ H
     obtain ⟨t393, A8, H⟩ := bd_ H
     obtain ⟨t395, A9, H⟩ := bd_ H
     have H' := ak H
     clear H
     go_wp2_with (first | ((with_reducible refine gate_callee (f := 31) rfl ?_); refine goesL_ (some 33) rfl rfl Try.func31 (by kernel_rfl) rfl #[.slice A0 l0.length c0, .int .i64 x5_2] rfl mp_ ?_; (with_reducible refine (handshakerref09_at.calls _ _ l0 x5_2 t391 _ ?side1 ?side2 A6.out).mono ?_); (case side1 => exact cb_ HR0 HB); (case side2 => exact HC0.out); rintro e w' ⟨rfl, ⟨nd, rfl⟩⟩; refine ⟨_, rfl, ?_⟩; (try (rw [drewN_self wr]; generalize hq_ : World.drewN wr _ = wr; have n0_ : Aside0 (Kd.R (Kd.slice 62 k62) 35 wr w.heap.size (fun k_ => some k_ ≠ (u7 : Value).ownBlock) u4 x4_1) := ⟨by rw [← hq_]; exact (rq_ HO_4)⟩; have n1_ : Aside0 (Kd.S k62 62 wr w.heap.size (fun _ => True) u7 x7_2) := ⟨by rw [← hq_]; exact (sq_ HO_7)⟩; have n2_ : Aside0 (Below w.heap.size w wr) := ⟨by rw [← hq_]; exact bsv_⟩; clear HO_4 HO_7 HB hq_; have HO_4 := n0_; have HO_7 := n1_; have HB := n2_; clear n0_ n1_ n2_))) | ((with_reducible refine gate_callee (f := 31) rfl ?_); refine goesL_ (some 37) rfl rfl Try.func31 (by kernel_rfl) rfl #[.slice A0 l0.length c0, .int .i64 (wrap64 (x5_2 + 1))] rfl mp_ ?_; (with_reducible refine (handshakerref09_at.calls _ _ l0 (wrap64 (x5_2 + 1)) t392 _ ?side1 ?side2 A7.out).mono ?_); (case side1 => exact cb_ HR0 HB); (case side2 => exact HC0.out); rintro e w' ⟨rfl, ⟨nd, rfl⟩⟩; refine ⟨_, rfl, ?_⟩; (try (rw [drewN_self wr]; generalize hq_ : World.drewN wr _ = wr; have n0_ : Aside0 (Kd.R (Kd.slice 62 k62) 35 wr w.heap.size (fun k_ => some k_ ≠ (u7 : Value).ownBlock) u4 x4_1) := ⟨by rw [← hq_]; exact (rq_ HO_4)⟩; have n1_ : Aside0 (Kd.S k62 62 wr w.heap.size (fun _ => True) u7 x7_2) := ⟨by rw [← hq_]; exact (sq_ HO_7)⟩; have n2_ : Aside0 (Below w.heap.size w wr) := ⟨by rw [← hq_]; exact bsv_⟩; clear HO_4 HO_7 HB hq_; have HO_4 := n0_; have HO_7 := n1_; have HB := n2_; clear n0_ n1_ n2_))) | ((with_reducible refine gate_callee (f := 31) rfl ?_); refine goesL_ (some 41) rfl rfl Try.func31 (by kernel_rfl) rfl #[.slice A0 l0.length c0, .int .i64 (wrap64 (x5_2 + 2))] rfl mp_ ?_; (with_reducible refine (handshakerref09_at.calls _ _ l0 (wrap64 (x5_2 + 2)) t393 _ ?side1 ?side2 A8.out).mono ?_); (case side1 => exact cb_ HR0 HB); (case side2 => exact HC0.out); rintro e w' ⟨rfl, ⟨nd, rfl⟩⟩; refine ⟨_, rfl, ?_⟩; (try (rw [drewN_self wr]; generalize hq_ : World.drewN wr _ = wr; have n0_ : Aside0 (Kd.R (Kd.slice 62 k62) 35 wr w.heap.size (fun k_ => some k_ ≠ (u7 : Value).ownBlock) u4 x4_1) := ⟨by rw [← hq_]; exact (rq_ HO_4)⟩; have n1_ : Aside0 (Kd.S k62 62 wr w.heap.size (fun _ => True) u7 x7_2) := ⟨by rw [← hq_]; exact (sq_ HO_7)⟩; have n2_ : Aside0 (Below w.heap.size w wr) := ⟨by rw [← hq_]; exact bsv_⟩; clear HO_4 HO_7 HB hq_; have HO_4 := n0_; have HO_7 := n1_; have HB := n2_; clear n0_ n1_ n2_))) | ((with_reducible refine gate_dst (N := 10) rfl ?_); refine box_event ?hg (N := 10) ?hd (cs := #[.int .i64 0, .int .i64 0, .int .i64 0, .slice none 0 0]) (t := 62) ?hr ?_; (case hd => rfl); (case hg => rfl); (case hr => first | (go_simp; done) | (go_simp; rfl)); intro gb394 hg w10 hbox hb; replace HO_4 := ak (Kd.R_below (Kd.R_elderB (rq_ HO_4) gb394 (Nat.le_of_eq hg.symm)) hb); replace HO_7 := ak (Kd.S_below (Kd.S_elderB (sq_ HO_7) gb394 (Nat.le_of_eq hg.symm)) hb); replace BK394 := ak (hbox); replace GW394 := ak ((by rw [hg]; exact bsz_ : w.heap.size ≤ gb394)); replace HB := ak (bst_ hb); replace GE394 := GW394; clear hb hbox hg; obtain ⟨hcz11_0, hcz11_1, hcz11_2, hcz11_3, hfz11_0, hfz11_1, hfz11_2, hfz11_3⟩ := bz4_ BK394) | ((with_reducible refine gate_callee (f := 31) rfl ?_); refine goesL_ (some 46) rfl rfl Try.func31 (by kernel_rfl) rfl #[.slice A0 l0.length c0, .int .i64 (wrap64 (x5_2 + 3))] rfl mp_ ?_; (with_reducible refine (handshakerref09_at.calls _ _ l0 (wrap64 (x5_2 + 3)) t395 _ ?side1 ?side2 A9.out).mono ?_); (case side1 => exact Kd.C_below HR0.out bsw_); (case side2 => exact HC0.out); rintro e w' ⟨rfl, ⟨nd, rfl⟩⟩; refine ⟨_, rfl, ?_⟩))
     go_loopg [5, 12] k2 (fun kq v5 v12 w' => ∃ (x5_3 : Int) (x12_3 : Int) (x395003_3 : List (S66)) (u395003 : Value), v5 = .int .i64 x5_3 ∧ v12 = .int .i64 x12_3 ∧ Aside0 (handshakerref09_Read.l2 kq l0 x4_1 x5_3 x6_1 x7_2 t387 x9_2 t395 x12_3 t391 t392 t393 x395003_3 = some (r1, r2)) ∧ Aside0 (kq ≤ k2) ∧ Aside0 (Kd.R (Kd.slice 62 k62) 35 w' w.heap.size (fun k_ => some k_ ≠ (u7 : Value).ownBlock ∧ some k_ ≠ (u395003 : Value).ownBlock ∧ k_ ≠ gb394) u4 x4_1) ∧ Aside0 (Kd.S k62 62 w' w.heap.size (fun k_ => some k_ ≠ (u395003 : Value).ownBlock ∧ k_ ≠ gb394) u7 x7_2) ∧ Aside0 (Kd.R k66 66 w' w.heap.size (fun _ => True) u395003 x395003_3) ∧ Aside0 (w'.heap[gb394]? = some (.cells #[.int .i64 t391, .int .i64 t392, .int .i64 t393, u395003] 62 (0, 0))) ∧ Aside0 (Below w.heap.size w w'))
     case atStart => exact ⟨(wrap64 (x5_2 + 4)), (0), (([] : List (S66))), (.slice none 0 0), (by first | rfl | (simp; done) | (simp [*]; done)), (by first | rfl | (simp; done) | (simp [*]; done)), H', ⟨Nat.le_refl _⟩, ⟨by (with_reducible repeat (first | apply Kd.R_alloc | apply Kd.R_drewN | apply Kd.R_drew)); exact Kd.R_mono (Kd.R_far (p := ⟨gb394, 3, none⟩) (Kd.R_far (p := ⟨gb394, 2, none⟩) (Kd.R_far (p := ⟨gb394, 1, none⟩) (Kd.R_far (p := ⟨gb394, 0, none⟩) (Kd.R_mono HO_4.out (fun k_ hk => (⟨hk, hk.2⟩ : _ ∧ k_ ≠ gb394))) (fun _ hk => hk.2) (.int .i64 t391)) (fun _ hk => hk.2) (.int .i64 t392)) (fun _ hk => hk.2) (.int .i64 t393)) (fun _ hk => hk.2) (.slice none 0 0)) (fun _ hk => ⟨hk.1.1, ⟨(by simp [Value.ownBlock]), hk.1.2⟩⟩)⟩, ⟨by (with_reducible repeat (first | apply Kd.S_alloc | apply Kd.S_drewN | apply Kd.S_drew)); exact Kd.S_mono (Kd.S_far (p := ⟨gb394, 3, none⟩) (Kd.S_far (p := ⟨gb394, 2, none⟩) (Kd.S_far (p := ⟨gb394, 1, none⟩) (Kd.S_far (p := ⟨gb394, 0, none⟩) (Kd.S_mono HO_7.out (fun k_ hk => (⟨hk, hk.2⟩ : _ ∧ k_ ≠ gb394))) (fun _ hk => hk.2) (.int .i64 t391)) (fun _ hk => hk.2) (.int .i64 t392)) (fun _ hk => hk.2) (.int .i64 t393)) (fun _ hk => hk.2) (.slice none 0 0)) (fun _ hk => ⟨(by simp [Value.ownBlock]), hk.1.2⟩)⟩, ⟨by first | exact Kd.R_nil _ _ _ _ _ | exact Kd.N_nil _ _ _ _ _ | exact Kd.V_nil _ _ _ _ _ | exact Kd.Q_nil _ _ _ _ _ | exact Kd.S_nil _ _ _ _ _⟩, ⟨by (with_reducible repeat (first | refine blk_drewN ?_ _ | refine blk_drew ?_ | refine blk_alloc ?_ _)); refine blk_put (cs := #[.int .i64 t391, .int .i64 t392, .int .i64 t393, .slice none 0 0]) ?_ 3 _ rfl; (with_reducible repeat (first | refine blk_drewN ?_ _ | refine blk_drew ?_ | refine blk_alloc ?_ _)); refine blk_put (cs := #[.int .i64 t391, .int .i64 t392, .int .i64 0, .slice none 0 0]) ?_ 2 _ rfl; (with_reducible repeat (first | refine blk_drewN ?_ _ | refine blk_drew ?_ | refine blk_alloc ?_ _)); refine blk_put (cs := #[.int .i64 t391, .int .i64 0, .int .i64 0, .slice none 0 0]) ?_ 1 _ rfl; (with_reducible repeat (first | refine blk_drewN ?_ _ | refine blk_drew ?_ | refine blk_alloc ?_ _)); refine blk_put (cs := #[.int .i64 0, .int .i64 0, .int .i64 0, .slice none 0 0]) ?_ 0 _ rfl; (with_reducible repeat (first | refine blk_drewN ?_ _ | refine blk_drew ?_ | refine blk_alloc ?_ _)); exact BK394.out⟩, ⟨bsw_⟩⟩
     case round =>
      clear H'
      try clear c1
      try clear p2
      try clear c3
      try clear c3b0
      try clear c5
      try clear c5b0
      try clear p6
      try clear hcz11_0
      try clear hcz11_1
      try clear hcz11_2
      try clear hcz11_3
      try clear hfz11_0
      try clear hfz11_1
      try clear hfz11_2
      try clear hfz11_3
      try clear p2
      obtain ⟨x5_3, x12_3, x395003_3, u395003, rfl, rfl, HA, HK3, HO_4, HO_7, HO_395003, BK394, HB⟩ := hrel
      cases gk with
      | zero => exact absurd HA.out (by simp [handshakerref09_Read.l2])
      | succ k3 =>
       have H := HA.out
       clear HA
       simp only [handshakerref09_Read.l2] at H
       by_cases c12 : x12_3 < t395
       rotate_left
       · rw [if_neg c12] at H
         have c12b0 : decide (x12_3 < t395) = false := decide_eq_false c12
         clear c12
         by_cases c20 : x7_2.length < 2932031007402
         rotate_left
         · rw [if_neg c20] at H
           exact absurd H (by simp)
         rw [if_pos c20] at H
         have LMc20 := ak c20
         clear c20
         obtain ⟨y401, hy401⟩ : ∃ y_ : List (S62), y_ = (x7_2 ++ [(⟨t391, t392, t393, x395003_3⟩ : S62)]) := ⟨_, rfl⟩
         replace H : (handshakerref09_Read.l1 k3 l0 x4_1 x5_3 x6_1 y401 t387 (wrap64 (x9_2 + 1))) = some (r1, r2) := rh_ hy401 H
         have Ny401 := ak hy401
         clear hy401
         have H' := ak H
         clear H
         obtain ⟨hcz21_0, hcz21_1, hcz21_2, hcz21_3, hfz21_0, hfz21_1, hfz21_2, hfz21_3⟩ := bz4_ BK394
         obtain ⟨Ao23, co23, eo23⟩ := Kd.R_slice HO_395003.out
         subst eo23
         go_wp2_with (first | ((with_reducible refine gate_builtin (b := .append) (xs := #[.tmp 69, .tmp 71]) rfl ?_); at_builtin; refine Kd.S_append k62 (w0 := w) w.heap.size rfl (.tmp 69) (.tmp 71) 35 62 (.agg #[(.int .i64 0), (.int .i64 0), (.int .i64 0), (.slice none 0 0)]) 48 rfl Try.underlying35 info62 rfl (by decide) (by omega) u7 x7_2 (⟨t391, t392, t393, x395003_3⟩ : S62) [.int .i64 t391, .int .i64 t392, .int .i64 t393, .slice Ao23 x395003_3.length co23] (fun k_ => k_ ≠ gb394) (fun k_ => some k_ = (.slice Ao23 x395003_3.length co23 : Value).ownBlock) rfl rfl ?aP (fun k_ hk_ => ((Kd.R_mono (ok' := fun k_ => ((fun k_ => k_ ≠ gb394)) k_ ∧ some k_ ≠ (u7 : Value).ownBlock) (Kd.R_types (Kd.R_apart' (HO_395003.out) (Kd.S_typed HO_7.out) (by decide)) BK394.out (by decide)) (fun k_ hk => ⟨hk.2, hk.1.2⟩))).1 k_ hk_.symm) ?aF ?aO ?aB ?aS ?aL ?_; (case aP => exact k62_mkM _ _ _ (⟨t391, t392, t393, x395003_3⟩ : S62) (Kd.R_mono (Kd.R_tight rfl (Kd.R_mono (ok' := fun k_ => ((fun k_ => k_ ≠ gb394)) k_ ∧ some k_ ≠ (u7 : Value).ownBlock) (Kd.R_types (Kd.R_apart' (HO_395003.out) (Kd.S_typed HO_7.out) (by decide)) BK394.out (by decide)) (fun k_ hk => ⟨hk.2, hk.1.2⟩))) (fun _ h_ => h_))); (case aB => exact bsw_); (case aF => exact (fun k_ hk => Kd.freshB (g := gb394) (o := .cells #[.int .i64 t391, .int .i64 t392, .int .i64 t393, .slice Ao23 x395003_3.length co23] 62 (0, 0)) (bq_ BK394) k_ hk)); (case aO => exact (Kd.S_mono (sq_ HO_7) (fun k_ hk => ⟨hk.2, fun e_ => hk.1 e_⟩))); (case aS => exact (below_size bsw_)); (case aL => have := LMc20.out; omega); intro v402 w22 ho hb hg hat; rw [← Ny401.out] at ho; replace HO_4 := ak (Kd.R_after (ok := (fun k_ => some k_ ≠ (.slice Ao23 x395003_3.length co23 : Value).ownBlock ∧ k_ ≠ gb394)) (Kd.R_mono (rq_ HO_4) (fun _ hk => ⟨⟨hk.2.1, hk.2.2⟩, hk.1⟩)) hg hat); replace BK394 := ak (blk_grown (g := gb394) (o := .cells #[.int .i64 t391, .int .i64 t392, .int .i64 t393, .slice Ao23 x395003_3.length co23] 62 (0, 0)) (bq_ BK394) hg (Kd.S_away HO_7.out (fun _ hk => hk.2))); replace HB := ak (hb); replace HO403 := ak (ho); clear HO_7; clear HO_395003; clear ho hb hg hat))
         go_roundg k3
         case measure => have := HK1.out; have := HK2.out; have := HK3.out; omega
         case rel => exact ⟨(x5_3), (y401), (wrap64 (x9_2 + 1)), (by first | rfl | (simp; done) | (simp [*]; done)), (by first | rfl | (simp; done) | (simp [*]; done)), H', ⟨by have := HK1.out; have := HK2.out; have := HK3.out; omega⟩, ⟨Kd.R_mono (rq_ HO_4) (fun _ hk => hk.2)⟩, ⟨Kd.S_mono (sq_ HO403) (fun _ hk => trivial)⟩, ⟨bsw_⟩⟩
       rw [if_pos c12] at H
       have c12b0 : decide (x12_3 < t395) = true := decide_eq_true c12
       clear c12
       obtain ⟨t396, A13, H⟩ := bd_ H
       obtain ⟨t397, A14, H⟩ := bd_ H
       by_cases c15 : x395003_3.length < 8796093022208
       rotate_left
       · rw [if_neg c15] at H
         exact absurd H (by simp)
       rw [if_pos c15] at H
       have LMc15 := ak c15
       clear c15
       obtain ⟨y398, hy398⟩ : ∃ y_ : List (S66), y_ = (x395003_3 ++ [(⟨t396, t397⟩ : S66)]) := ⟨_, rfl⟩
       replace H : (handshakerref09_Read.l2 k3 l0 x4_1 (wrap64 (x5_3 + 5)) x6_1 x7_2 t387 x9_2 t395 (wrap64 (x12_3 + 1)) t391 t392 t393 y398) = some (r1, r2) := rh_ hy398 H
       have Ny398 := ak hy398
       clear hy398
       have H' := ak H
       clear H
       try go_wp2
       have n0_ := ak (Kd.R_drew HO_4.out)
       have n1_ := ak (Kd.S_drew HO_7.out)
       have n2_ := ak (Kd.R_drew HO_395003.out)
       have n3_ := ak (blk_drew BK394.out)
       have n4_ := ak (below_drew1 HB.out)
       clear HO_4
       clear HO_7
       clear HO_395003
       clear BK394
       clear HB
       have HO_4 := n0_
       have HO_7 := n1_
       have HO_395003 := n2_
       have BK394 := n3_
       have HB := n4_
       clear n0_ n1_ n2_ n3_ n4_
       refine start_ (n := 14) (S := fun w' => w'.cell? ⟨gb394, 0, none⟩ = some (.int .i64 t391) ∧ w'.cell? ⟨gb394, 1, none⟩ = some (.int .i64 t392) ∧ w'.cell? ⟨gb394, 2, none⟩ = some (.int .i64 t393) ∧ w'.cell? ⟨gb394, 3, none⟩ = some (u395003)) (ds := [13]) (fb 14 0) (by kernel_rfl) rfl rfl ⟨(blk_cell BK394.out 0).trans rfl, (blk_cell BK394.out 1).trans rfl, (blk_cell BK394.out 2).trans rfl, (blk_cell BK394.out 3).trans rfl⟩ (fun hHeld => ?_); refine with_tabW handshakerref09_Read.tab18 handshakerref09_Read.bits18 (fun HT_ HW_ => ?_)
       generalize wr.drew = w16 at HO_4 HO_7 HO_395003 BK394 HB hHeld ⊢
       refine pu_ 0 (some 54) (fb 14 1) HT_ ?_
       refine pu_ 2 (some 56) (fb 14 5) HT_ ?_
       refine pu_ 3 (some 57) (fb 14 13) HT_ ?_
       refine pu_ 5 (some 59) (fb 14 45) HT_ ?_
       refine pu_ 6 (some 60) (fb 14 109) HT_ ?_
       refine pu_ 7 (some 61) (fb 14 237) HT_ ?_
       refine ta4_ 1 (some 55) (fb 14 239) HT_ HW_ hHeld ?_
       refine one_ (i := 4) (N := some 58) (fb 14 255) rfl rfl (one_of HT_.out (by kernel_rfl)) (by decide) (fun K hK => ?_)
       refine goes_ Try.func31 (by kernel_rfl) rfl #[.slice A0 l0.length c0, .int .i64 x5_3] (by rfl) rfl rfl (by (try simp only [List.map_toArray, List.map_cons, List.map_nil]); first | done | rfl | (simp only [List.length_drop, List.length_take]; rfl)) ?_
       with_reducible refine (handshakerref09_at.calls _ _ l0 x5_3 t396 _ ?side1 ?side2 A13.out).mono ?_
       (case side1 => exact cb_ HR0 HB)
       (case side2 => exact HC0.out)
       rintro e w' ⟨rfl, ⟨nd, rfl⟩⟩
       refine ⟨_, rfl, ?_⟩
       refine hK.out _ _ (bc4_ BK394) (fun hHeld => ?_)
       clear hK K
       refine no_ (some 58) ?_
       refine one_ (i := 8) (N := some 62) (fb 14 511) rfl rfl (one_of HT_.out (by kernel_rfl)) (by decide) (fun K hK => ?_)
       refine goes_ Try.func32 (by kernel_rfl) rfl #[.slice A0 l0.length c0, .int .i64 (wrap64 (x5_3 + 1))] (by rfl) rfl rfl (by (try simp only [List.map_toArray, List.map_cons, List.map_nil]); first | done | rfl | (simp only [List.length_drop, List.length_take]; rfl)) ?_
       with_reducible refine (handshakerref09_number.calls _ _ l0 (wrap64 (x5_3 + 1)) t397 _ ?side1 ?side2 A14.out).mono ?_
       (case side1 => repeat (first | exact (Kd.C_below HR0.out bsw_) | with_reducible first | refine Kd.C_alloc ?_ _ | refine Kd.C_drewN ?_ _ | refine Kd.C_drew ?_))
       (case side2 => exact HC0.out)
       rintro e w' ⟨rfl, ⟨nd, rfl⟩⟩
       refine ⟨_, rfl, ?_⟩
       refine hK.out _ _ (bc4_ BK394) (fun hHeld => ?_)
       clear hK K
       refine no_ (some 62) ?_
       refine pu_ 9 (some 63) (fb 14 1023) HT_ ?_
       refine one_ (i := 10) (N := some 64) (fb 14 2047) rfl rfl (one_of HT_.out (by kernel_rfl)) (by decide) (fun K hK => ?_)
       refine value_ (w1 := ?_) (v := ?_) (by rfl) rfl ?_ ?_
       rotate_left 2
       · go_simp
         constructor
         · rfl
         · rfl
       refine hK.out _ _ ⟨(blk_cell (blk_alloc BK394.out _) 0).trans rfl, (blk_cell (blk_alloc BK394.out _) 1).trans rfl, (blk_cell (blk_alloc BK394.out _) 2).trans rfl, (blk_cell (blk_alloc BK394.out _) 3).trans rfl⟩ (fun hHeld => ?_)
       clear hK K
       refine no_ (some 64) ?_
       refine one_ (i := 11) (N := some 65) (fb 14 4095) rfl rfl (one_of HT_.out (by kernel_rfl)) (by decide) (fun K hK => ?_)
       refine Kd.R_append_step k66 (w0 := w) w.heap.size (by rfl) (.tmp 55) (.tmp 64) 60 66 (.agg #[(.int .i64 0), (.int .i64 0)]) 16 rfl Try.underlying60 info66 rfl (by decide) (by omega) u395003 x395003_3 (⟨t396, t397⟩ : S66) [.int .i64 t396, .int .i64 t397] (fun _ => True) (fun _ => False) rfl rfl ?aP (fun _ hk => hk.elim) ?aF ?aO ?aB ?aS ?aL ?_
       (case aP => exact k66_mkM _ _ _ (⟨t396, t397⟩ : S66))
       (case aB => exact bsw_)
       (case aF => exact (fun _ _ => trivial))
       (case aO => exact (rq_ HO_395003))
       (case aS => exact (below_size bsw_))
       (case aL => have := LMc15.out; omega)
       intro v399 w17 ho hb hg hat
       rw [← Ny398.out] at ho
       have n0_ := ak (Kd.R_after (ok := (fun k_ => some k_ ≠ (u7 : Value).ownBlock ∧ k_ ≠ gb394)) (Kd.R_mono (rq_ HO_4) (fun _ hk => ⟨⟨hk.1, hk.2.2⟩, hk.2.1⟩)) hg hat)
       have n1_ := ak (Kd.S_after (ok := (fun k_ => k_ ≠ gb394)) (Kd.S_mono (sq_ HO_7) (fun _ hk => ⟨hk.2, hk.1⟩)) hg hat)
       have n2_ := ak (blk_grown (g := gb394) (o := .cells #[.int .i64 t391, .int .i64 t392, .int .i64 t393, u395003] 62 (0, 0)) (bq_ BK394) hg (Kd.R_ne HO_395003.out BK394.out (by decide)))
       have n3_ := ak (hb)
       have n4_ := ak (ho)
       clear HO_4
       clear HO_7
       clear BK394
       clear HB
       clear HO_395003
       have HO_4 := n0_
       have HO_7 := n1_
       have BK394 := n2_
       have HB := n3_
       have HO400 := n4_
       clear n0_ n1_ n2_ n3_ n4_
       clear ho hb hg hat
       obtain ⟨Ao18, co18, eo18⟩ := Kd.R_slice HO400.out
       (first | subst eo18 | (injection eo18 with f1_ f2_ f3_; have f4_ := f1_.symm; have f5_ := f3_.symm; clear f1_ f2_ f3_; subst f4_; subst f5_))
       refine hK.out _ _ (bc4_ BK394) (fun hHeld => ?_)
       clear hK K
       refine no_ (some 65) ?_
       refine pu_ 12 (some 66) (fb 14 8191) HT_ ?_
       refine last_ (i := 13) (N := none) (fb 14 16383) rfl rfl (one_of HT_.out (by kernel_rfl)) (by decide) (fun K hK => ?_)
       have hs19 : w17.cell? ⟨gb394, 3, none⟩ = some (u395003) := (blk_cell BK394.out 3).trans rfl
       have hfs19 := blk_frozen BK394.out 3
       refine skip_ (w1 := ?_) (by rfl) rfl ?_ ?_
       rotate_left
       · go_simp
         rfl
       refine hK.out _ _ ?_
       clear hK K
       refine done_ (done_of HT_.out (by kernel_rfl)) ?_
       try go_wp2
       go_roundg k3
       case measure => have := HK1.out; have := HK2.out; have := HK3.out; omega
       case rel => exact ⟨(wrap64 (x5_3 + 5)), (wrap64 (x12_3 + 1)), (y398), (.slice Ao18 y398.length co18), (by first | rfl | (simp; done) | (simp [*]; done)), (by first | rfl | (simp; done) | (simp [*]; done)), H', ⟨by have := HK1.out; have := HK2.out; have := HK3.out; omega⟩, ⟨by (with_reducible repeat (first | apply Kd.R_alloc | apply Kd.R_drewN | apply Kd.R_drew)); exact Kd.R_mono (Kd.R_far (p := ⟨gb394, 3, none⟩) (Kd.R_mono HO_4.out (fun k_ hk => (⟨hk, hk.1.2⟩ : _ ∧ k_ ≠ gb394))) (fun _ hk => hk.2) (.slice Ao18 y398.length co18)) (fun _ hk => ⟨hk.1.1.1, ⟨hk.1.2, hk.1.1.2⟩⟩)⟩, ⟨by (with_reducible repeat (first | apply Kd.S_alloc | apply Kd.S_drewN | apply Kd.S_drew)); exact Kd.S_mono (Kd.S_far (p := ⟨gb394, 3, none⟩) (Kd.S_mono HO_7.out (fun k_ hk => (⟨hk, hk.1⟩ : _ ∧ k_ ≠ gb394))) (fun _ hk => hk.2) (.slice Ao18 y398.length co18)) (fun _ hk => ⟨hk.1.2, hk.1.1⟩)⟩, ⟨by (with_reducible repeat (first | apply Kd.R_alloc | apply Kd.R_drewN | apply Kd.R_drew)); exact Kd.R_mono (Kd.R_far (p := ⟨gb394, 3, none⟩) (Kd.R_types HO400.out BK394.out (by decide)) (fun _ hk => hk.2) (.slice Ao18 y398.length co18)) (fun _ hk => trivial)⟩, ⟨by (with_reducible repeat (first | refine blk_drewN ?_ _ | refine blk_drew ?_ | refine blk_alloc ?_ _)); refine blk_put (cs := #[.int .i64 t391, .int .i64 t392, .int .i64 t393, u395003]) ?_ 3 _ rfl; (with_reducible repeat (first | refine blk_drewN ?_ _ | refine blk_drew ?_ | refine blk_alloc ?_ _)); exact BK394.out⟩, ⟨bsw_⟩⟩

/-! ### handshakerref07_Same: function 42 -/
def handshakerref07_Same.l0 : Nat → List (S66) → List (S66) → Int → Option (Bool)
 | 0, _, _, _ => none
 | k + 1, x0, x1, x5 => if x5 < (x0.length : Int) then (if 0 ≤ x5 then (if x5 < (x1.length : Int) then (if (!(((rd_T66 x0 x5).f0) == ((rd_T66 x1 x5).f0)) || (!(((rd_T66 x0 x5).f1) == ((rd_T66 x1 x5).f1)))) = true then (some false) else (handshakerref07_Same.l0 k x0 x1 (wrap64 (x5 + 1)))) else (none)) else (none)) else (some true)
def handshakerref07_Same.f (k : Nat) (l0 : List (S66)) (l1 : List (S66)) : Option (Bool) := if (l0.length : Int) = (l1.length : Int) then (handshakerref07_Same.l0 k l0 l1 0) else (some false)
theorem handshakerref07_Same.mono_l : ∀ k, (∀ y0 y1 y2, LeO (handshakerref07_Same.l0 k y0 y1 y2) (handshakerref07_Same.l0 (k + 1) y0 y1 y2))
 | 0 => fun _ _ _ r h => by simp [handshakerref07_Same.l0] at h
 | k + 1 => by
  have ih0 := handshakerref07_Same.mono_l k
  · intro y0 y1 y2
    unfold handshakerref07_Same.l0
    repeat' first
    | (with_reducible exact ih0 _ _ _)
    | (with_reducible exact LeO.refl _)
    | (with_reducible exact LeO.none _)
    | (with_reducible refine LeO.ite ?_ ?_)
    | (with_reducible refine LeO.bind ?_ (fun _ => ?_))
    | exact ih0 _ _ _
    | exact LeO.none _
    | refine LeO.ite ?_ ?_
    | refine LeO.bind ?_ (fun _ => ?_)
theorem handshakerref07_Same.mono : ∀ a0 a1 k, LeO (handshakerref07_Same.f k a0 a1) (handshakerref07_Same.f (k + 1) a0 a1) := by
 intro a0 a1 k
 have ih0 := handshakerref07_Same.mono_l k
 unfold handshakerref07_Same.f
 repeat' first
  | (with_reducible exact ih0 _ _ _)
  | (with_reducible exact LeO.refl _)
  | (with_reducible exact LeO.none _)
  | (with_reducible refine LeO.ite ?_ ?_)
  | (with_reducible refine LeO.bind ?_ (fun _ => ?_))
  | exact ih0 _ _ _
  | exact LeO.none _
  | refine LeO.ite ?_ ?_
  | refine LeO.bind ?_ (fun _ => ?_)
set_option maxHeartbeats 8000000 in
set_option maxRecDepth 100000 in
theorem handshakerref07_Same.calls (k : Nat) (A0 : Option Addr) (c0 : Nat) (l0 : List (S66)) (A1 : Option Addr) (c1 : Nat) (l1 : List (S66)) (r : Bool) (w : World) (hr0 : Kd.C k66 w A0 l0.length l0) (hc0 : l0.length ≤ c0) (hr1 : Kd.C k66 w A1 l1.length l1) (hc1 : l1.length ≤ c1) (h : handshakerref07_Same.f k l0 l1 = some r) :
 Calls Try.prog 42 #[.slice A0 l0.length c0, .slice A1 l1.length c1] w fun e w' => e = .returned (.bool r) ∧ Drawn0 w w' := by
 have hu66 := Try.underlying66
 have HR0 := ak hr0
 have HC0 := ak hc0
 clear hr0 hc0
 have HR1 := ak hr1
 have HC1 := ak hc1
 clear hr1 hc1
 have H : (if (l0.length : Int) = (l1.length : Int) then (handshakerref07_Same.l0 k l0 l1 0) else (some false)) = some r := h
 clear h
 by_cases c3 : (l0.length : Int) = (l1.length : Int)
 rotate_left
 · rw [if_neg c3] at H
   have c3b0 : ((l0.length : Int) == (l1.length : Int)) = false := beq_eq_false_iff_ne.mpr c3
   have c3b1 : ((l0.length : Int) != (l1.length : Int)) = true := bne_iff_ne.mpr c3
   have c3b2 : (l0.length == l1.length) = false := by first | simpa using c3 | (simp at c3 ⊢; omega)
   obtain rfl := Option.some.inj H
   go_enter Try.func42, Try.ntmps42
   go_wp2
   repeat (go_quiet (fail); try go_wp2)
   go_ret
   exact ⟨by first | rfl | (simp; done) | (simp [*]; done), by repeat (first | exact Drawn0.refl _ | apply Drawn0.step)⟩
 rw [if_pos c3] at H
 have c3b0 : ((l0.length : Int) == (l1.length : Int)) = true := beq_iff_eq.mpr c3
 have c3b1 : ((l0.length : Int) != (l1.length : Int)) = false := bne_eq_false_iff_eq.mpr c3
 have c3b2 : (l0.length == l1.length) = true := by first | simpa using c3 | (simp at c3 ⊢; omega)
 clear c3
 have H' := ak H
 clear H
 go_enter Try.func42, Try.ntmps42
 go_wp2
 repeat (go_quiet (fail); try go_wp2)
 go_loopg [5] k (fun kq v5 w' => ∃ (x5_1 : Int), v5 = .int .i64 x5_1 ∧ Aside0 (handshakerref07_Same.l0 kq l0 l1 x5_1 = some r) ∧ Aside0 (kq ≤ k) ∧ Drawn0 w w')
 case atStart => exact ⟨(0), (by first | rfl | (simp; done) | (simp [*]; done)), H', ⟨Nat.le_refl _⟩, by repeat (first | exact Drawn0.refl _ | apply Drawn0.step)⟩
 case round =>
  clear H'
  try clear c1
  try clear p2
  try clear c3
  try clear c3b0
  try clear c3b1
  try clear c3b2
  obtain ⟨x5_1, rfl, HA, HK1, ⟨m1, rfl⟩⟩ := hrel
  cases gk with
  | zero => exact absurd HA.out (by simp [handshakerref07_Same.l0])
  | succ k1 =>
   have H := HA.out
   clear HA
   simp only [handshakerref07_Same.l0] at H
   by_cases c4 : x5_1 < (l0.length : Int)
   rotate_left
   · rw [if_neg c4] at H
     have c4b0 : decide (x5_1 < (l0.length : Int)) = false := decide_eq_false c4
     clear c4
     obtain rfl := Option.some.inj H
     go_wp2
     repeat (go_quiet (fail); try go_wp2)
     go_ret
     exact ⟨by first | rfl | (simp; done) | (simp [*]; done), by repeat (first | exact Drawn0.refl _ | apply Drawn0.step)⟩
   rw [if_pos c4] at H
   have c4b0 : decide (x5_1 < (l0.length : Int)) = true := decide_eq_true c4
   clear c4
   by_cases c5 : 0 ≤ x5_1
   rotate_left
   · rw [if_neg c5] at H
     exact absurd H (by simp)
   rw [if_pos c5] at H
   have c5b0 : decide (0 ≤ x5_1) = true := decide_eq_true c5
   clear c5
   by_cases c6 : x5_1 < (l1.length : Int)
   rotate_left
   · rw [if_neg c6] at H
     exact absurd H (by simp)
   rw [if_pos c6] at H
   have c6b0 : decide (x5_1 < (l1.length : Int)) = true := decide_eq_true c6
   clear c6
   by_cases c7 : (!(((rd_T66 l0 x5_1).f0) == ((rd_T66 l1 x5_1).f0)) || (!(((rd_T66 l0 x5_1).f1) == ((rd_T66 l1 x5_1).f1)))) = true
   · rw [if_pos c7] at H
     have c7b0 : (!(((rd_T66 l0 x5_1).f0) == ((rd_T66 l1 x5_1).f0)) || (!(((rd_T66 l0 x5_1).f1) == ((rd_T66 l1 x5_1).f1)))) = true := c7
     clear c7
     obtain rfl := Option.some.inj H
     have p404 : 0 ≤ (x5_1 : Int) := oda_
     have q404 : x5_1 < (l0.length : Int) := oda_
     obtain ⟨ad404, e404, hx404_0, hx404_1⟩ := at_T66 HR0.out x5_1 p404 q404
     cases e404
     replace p404 := eq_true p404
     replace q404 := eq_true q404
     have p405 : 0 ≤ (x5_1 : Int) := oda_
     have q405 : x5_1 < (l1.length : Int) := oda_
     obtain ⟨ad405, e405, hx405_0, hx405_1⟩ := at_T66 HR1.out x5_1 p405 q405
     cases e405
     replace p405 := eq_true p405
     replace q405 := eq_true q405
     go_wp2
     repeat (go_quiet (fail); try go_wp2)
     go_ret
     exact ⟨by first | rfl | (simp; done) | (simp [*]; done), by repeat (first | exact Drawn0.refl _ | apply Drawn0.step)⟩
   rw [if_neg c7] at H
   have c7b0 : (!(((rd_T66 l0 x5_1).f0) == ((rd_T66 l1 x5_1).f0)) || (!(((rd_T66 l0 x5_1).f1) == ((rd_T66 l1 x5_1).f1)))) = false := by simpa using c7
   clear c7
   have H' := ak H
   clear H
   have p404 : 0 ≤ (x5_1 : Int) := oda_
   have q404 : x5_1 < (l0.length : Int) := oda_
   obtain ⟨ad404, e404, hx404_0, hx404_1⟩ := at_T66 HR0.out x5_1 p404 q404
   cases e404
   replace p404 := eq_true p404
   replace q404 := eq_true q404
   have p405 : 0 ≤ (x5_1 : Int) := oda_
   have q405 : x5_1 < (l1.length : Int) := oda_
   obtain ⟨ad405, e405, hx405_0, hx405_1⟩ := at_T66 HR1.out x5_1 p405 q405
   cases e405
   replace p405 := eq_true p405
   replace q405 := eq_true q405
   go_wp2
   repeat (go_quiet (fail); try go_wp2)
   go_roundg k1
   case measure => have := HK1.out; omega
   case rel => exact ⟨(wrap64 (x5_1 + 1)), (by first | rfl | (simp; done) | (simp [*]; done)), H', ⟨by have := HK1.out; omega⟩, by repeat (first | exact Drawn0.refl _ | apply Drawn0.step)⟩

end Go.Proofs.Ytpeblomhhofhkaa.H
