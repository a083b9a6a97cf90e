-- PRINTED by print.py (a twelfth state) out of the translation. Not trusted: Lean checks it.
import Derived.Test.YtpeblomhhofhkaaHx0
namespace Go.Proofs.Ytpeblomhhofhkaa.H
open Go.Proofs.Ytpeblomhhofhkaa.Ho
open Go.RowKit Go.Proofs.YtpeblomhhofhkaaW.PrintWords Go.Proofs.YtpeblomhhofhkaaW.PrintLast Go.Proofs.YtpeblomhhofhkaaW.PrintMore
attribute [local go_sem] max2_int min2_int max_two min_two max_three min_three max_four min_four   -- for this text's walks alone
set_option linter.unusedVariables false
set_option linter.unusedSimpArgs false

/-! ### handshakerref01_Right: function 61 -/
def handshakerref01_Right.f (a0 : Int) : Option (Bool) := if a0 ≥ (-2147483648) then (some (decide (a0 ≤ 2147483647))) else (some false)
set_option maxHeartbeats 8000000 in
set_option maxRecDepth 100000 in
theorem handshakerref01_Right.calls (a0 : Int) (r : Bool) (w : World) (h : handshakerref01_Right.f a0 = some r) :
 Calls Try.prog 61 #[.int .i64 a0] w fun e w' => e = .returned (.bool r) ∧ Drawn0 w w' := by
 have H : (if a0 ≥ (-2147483648) then (some (decide (a0 ≤ 2147483647))) else (some false)) = some r := h
 clear h
 by_cases c2 : a0 ≥ (-2147483648)
 rotate_left
 · rw [if_neg c2] at H
   have c2b0 : decide ((-2147483648) ≤ a0) = false := decide_eq_false c2
   clear c2
   obtain rfl := Option.some.inj H
   go_enter Try.func61, Try.ntmps61
   go_wp2
   go_ret
   exact ⟨by first | rfl | (simp; done) | (simp [*]; done), by repeat (first | exact Drawn0.refl _ | apply Drawn0.step)⟩
 rw [if_pos c2] at H
 have c2b0 : decide ((-2147483648) ≤ a0) = true := decide_eq_true c2
 clear c2
 obtain rfl := Option.some.inj H
 go_enter Try.func61, Try.ntmps61
 go_wp2
 go_ret
 exact ⟨by first | rfl | (simp; done) | (simp [*]; done), by repeat (first | exact Drawn0.refl _ | apply Drawn0.step)⟩

/-! ### handshakerref07_one: function 52 -/
def handshakerref07_one.f (a0_0 : Int) (a0_1 : Int) : Option (Bool) := if a0_0 = 1 then ((handshakerref01_Right.f a0_1).bind fun t255 => (some t255)) else (if a0_0 = 2 then (if a0_1 ≥ 0 then (some (decide (a0_1 ≤ 63))) else (some false)) else (if a0_0 = 3 then (if a0_1 ≥ 0 then (some (decide (a0_1 ≤ 7))) else (some false)) else (if a0_0 ≥ 4 then (if a0_0 ≤ 11 then (some (a0_1 == 0)) else (some false)) else (some false))))
set_option maxHeartbeats 8000000 in
set_option maxRecDepth 100000 in
theorem handshakerref07_one.calls (a0_0 : Int) (a0_1 : Int) (r : Bool) (w : World) (h : handshakerref07_one.f a0_0 a0_1 = some r) :
 Calls Try.prog 52 #[.agg #[.int .i64 a0_0, .int .i64 a0_1]] w fun e w' => e = .returned (.bool r) ∧ Below w.heap.size w w' := by
 have hu66 := Try.underlying66
 have HB := ak (Below.refl w.heap.size w)
 have H : (if a0_0 = 1 then ((handshakerref01_Right.f a0_1).bind fun t255 => (some t255)) else (if a0_0 = 2 then (if a0_1 ≥ 0 then (some (decide (a0_1 ≤ 63))) else (some false)) else (if a0_0 = 3 then (if a0_1 ≥ 0 then (some (decide (a0_1 ≤ 7))) else (some false)) else (if a0_0 ≥ 4 then (if a0_0 ≤ 11 then (some (a0_1 == 0)) else (some false)) else (some false))))) = some r := h
 clear h
 by_cases c2 : a0_0 = 1
 · rw [if_pos c2] at H
   have c2b0 : (a0_0 == 1) = true := beq_iff_eq.mpr c2
   have c2b1 : (a0_0 != 1) = false := bne_eq_false_iff_eq.mpr c2
   clear c2
   obtain ⟨t255, A3, H⟩ := bd_ H
   obtain rfl := Option.some.inj H
   go_enter Try.func52, Try.ntmps52
   go_wp2_with (first | ((with_reducible refine gate_dst (N := 1) rfl ?_); refine box_event ?hg (N := 1) ?hd (cs := #[.int .i64 a0_0, .int .i64 a0_1]) (t := 66) ?hr ?_; (case hd => rfl); (case hg => rfl); (case hr => first | (go_simp; done) | (go_simp; rfl)); intro gb254 hg w4 hbox hb; replace BK254 := ak (hbox); replace GW254 := ak ((by rw [hg]; exact bsz_ : w.heap.size ≤ gb254)); replace HB := ak (bst_ hb); replace GE254 := GW254; clear hb hbox hg; obtain ⟨hcz5_0, hcz5_1, hfz5_0, hfz5_1⟩ := bz2_ BK254) | ((with_reducible refine gate_callee (f := 61) rfl ?_); refine goesL_ (some 8) rfl rfl Try.func61 (by kernel_rfl) rfl #[.int .i64 a0_1] rfl mp_ ?_; (with_reducible refine (handshakerref01_Right.calls a0_1 t255 _ A3.out).mono ?_); rintro e w' ⟨rfl, ⟨nd, rfl⟩⟩; refine ⟨_, rfl, ?_⟩))
   go_ret
   exact ⟨by first | rfl | (simp [errW_none, errW_some] <;> rfl) | (simp [*, errW_none, errW_some] <;> rfl), bsw_⟩
 rw [if_neg c2] at H
 have c2b0 : (a0_0 == 1) = false := beq_eq_false_iff_ne.mpr c2
 have c2b1 : (a0_0 != 1) = true := bne_iff_ne.mpr c2
 by_cases c6 : a0_0 = 2
 · rw [if_pos c6] at H
   have c6b0 : (a0_0 == 2) = true := beq_iff_eq.mpr c6
   have c6b1 : (a0_0 != 2) = false := bne_eq_false_iff_eq.mpr c6
   clear c6
   by_cases c7 : a0_1 ≥ 0
   rotate_left
   · rw [if_neg c7] at H
     have c7b0 : decide (0 ≤ a0_1) = false := decide_eq_false c7
     clear c7
     obtain rfl := Option.some.inj H
     go_enter Try.func52, Try.ntmps52
     go_wp2_with (first | ((with_reducible refine gate_dst (N := 1) rfl ?_); refine box_event ?hg (N := 1) ?hd (cs := #[.int .i64 a0_0, .int .i64 a0_1]) (t := 66) ?hr ?_; (case hd => rfl); (case hg => rfl); (case hr => first | (go_simp; done) | (go_simp; rfl)); intro gb254 hg w10 hbox hb; replace BK254 := ak (hbox); replace GW254 := ak ((by rw [hg]; exact bsz_ : w.heap.size ≤ gb254)); replace HB := ak (bst_ hb); replace GE254 := GW254; clear hb hbox hg; obtain ⟨hcz11_0, hcz11_1, hfz11_0, hfz11_1⟩ := bz2_ BK254))
     go_ret
     exact ⟨by first | rfl | (simp [errW_none, errW_some] <;> rfl) | (simp [*, errW_none, errW_some] <;> rfl), bsw_⟩
   rw [if_pos c7] at H
   have c7b0 : decide (0 ≤ a0_1) = true := decide_eq_true c7
   clear c7
   obtain rfl := Option.some.inj H
   go_enter Try.func52, Try.ntmps52
   go_wp2_with (first | ((with_reducible refine gate_dst (N := 1) rfl ?_); refine box_event ?hg (N := 1) ?hd (cs := #[.int .i64 a0_0, .int .i64 a0_1]) (t := 66) ?hr ?_; (case hd => rfl); (case hg => rfl); (case hr => first | (go_simp; done) | (go_simp; rfl)); intro gb254 hg w8 hbox hb; replace BK254 := ak (hbox); replace GW254 := ak ((by rw [hg]; exact bsz_ : w.heap.size ≤ gb254)); replace HB := ak (bst_ hb); replace GE254 := GW254; clear hb hbox hg; obtain ⟨hcz9_0, hcz9_1, hfz9_0, hfz9_1⟩ := bz2_ BK254))
   go_ret
   exact ⟨by first | rfl | (simp [errW_none, errW_some] <;> rfl) | (simp [*, errW_none, errW_some] <;> rfl), bsw_⟩
 rw [if_neg c6] at H
 have c6b0 : (a0_0 == 2) = false := beq_eq_false_iff_ne.mpr c6
 have c6b1 : (a0_0 != 2) = true := bne_iff_ne.mpr c6
 by_cases c12 : a0_0 = 3
 · rw [if_pos c12] at H
   have c12b0 : (a0_0 == 3) = true := beq_iff_eq.mpr c12
   have c12b1 : (a0_0 != 3) = false := bne_eq_false_iff_eq.mpr c12
   clear c12
   by_cases c13 : a0_1 ≥ 0
   rotate_left
   · rw [if_neg c13] at H
     have c13b0 : decide (0 ≤ a0_1) = false := decide_eq_false c13
     clear c13
     obtain rfl := Option.some.inj H
     go_enter Try.func52, Try.ntmps52
     go_wp2_with (first | ((with_reducible refine gate_dst (N := 1) rfl ?_); refine box_event ?hg (N := 1) ?hd (cs := #[.int .i64 a0_0, .int .i64 a0_1]) (t := 66) ?hr ?_; (case hd => rfl); (case hg => rfl); (case hr => first | (go_simp; done) | (go_simp; rfl)); intro gb254 hg w16 hbox hb; replace BK254 := ak (hbox); replace GW254 := ak ((by rw [hg]; exact bsz_ : w.heap.size ≤ gb254)); replace HB := ak (bst_ hb); replace GE254 := GW254; clear hb hbox hg; obtain ⟨hcz17_0, hcz17_1, hfz17_0, hfz17_1⟩ := bz2_ BK254))
     go_ret
     exact ⟨by first | rfl | (simp [errW_none, errW_some] <;> rfl) | (simp [*, errW_none, errW_some] <;> rfl), bsw_⟩
   rw [if_pos c13] at H
   have c13b0 : decide (0 ≤ a0_1) = true := decide_eq_true c13
   clear c13
   obtain rfl := Option.some.inj H
   go_enter Try.func52, Try.ntmps52
   go_wp2_with (first | ((with_reducible refine gate_dst (N := 1) rfl ?_); refine box_event ?hg (N := 1) ?hd (cs := #[.int .i64 a0_0, .int .i64 a0_1]) (t := 66) ?hr ?_; (case hd => rfl); (case hg => rfl); (case hr => first | (go_simp; done) | (go_simp; rfl)); intro gb254 hg w14 hbox hb; replace BK254 := ak (hbox); replace GW254 := ak ((by rw [hg]; exact bsz_ : w.heap.size ≤ gb254)); replace HB := ak (bst_ hb); replace GE254 := GW254; clear hb hbox hg; obtain ⟨hcz15_0, hcz15_1, hfz15_0, hfz15_1⟩ := bz2_ BK254))
   go_ret
   exact ⟨by first | rfl | (simp [errW_none, errW_some] <;> rfl) | (simp [*, errW_none, errW_some] <;> rfl), bsw_⟩
 rw [if_neg c12] at H
 have c12b0 : (a0_0 == 3) = false := beq_eq_false_iff_ne.mpr c12
 have c12b1 : (a0_0 != 3) = true := bne_iff_ne.mpr c12
 by_cases c18 : a0_0 ≥ 4
 rotate_left
 · rw [if_neg c18] at H
   have c18b0 : decide (4 ≤ a0_0) = false := decide_eq_false c18
   clear c18
   obtain rfl := Option.some.inj H
   go_enter Try.func52, Try.ntmps52
   go_wp2_with (first | ((with_reducible refine gate_dst (N := 1) rfl ?_); refine box_event ?hg (N := 1) ?hd (cs := #[.int .i64 a0_0, .int .i64 a0_1]) (t := 66) ?hr ?_; (case hd => rfl); (case hg => rfl); (case hr => first | (go_simp; done) | (go_simp; rfl)); intro gb254 hg w24 hbox hb; replace BK254 := ak (hbox); replace GW254 := ak ((by rw [hg]; exact bsz_ : w.heap.size ≤ gb254)); replace HB := ak (bst_ hb); replace GE254 := GW254; clear hb hbox hg; obtain ⟨hcz25_0, hcz25_1, hfz25_0, hfz25_1⟩ := bz2_ BK254))
   go_ret
   exact ⟨by first | rfl | (simp [errW_none, errW_some] <;> rfl) | (simp [*, errW_none, errW_some] <;> rfl), bsw_⟩
 rw [if_pos c18] at H
 have c18b0 : decide (4 ≤ a0_0) = true := decide_eq_true c18
 clear c18
 by_cases c19 : a0_0 ≤ 11
 rotate_left
 · rw [if_neg c19] at H
   have c19b0 : decide (a0_0 ≤ 11) = false := decide_eq_false c19
   clear c19
   obtain rfl := Option.some.inj H
   go_enter Try.func52, Try.ntmps52
   go_wp2_with (first | ((with_reducible refine gate_dst (N := 1) rfl ?_); refine box_event ?hg (N := 1) ?hd (cs := #[.int .i64 a0_0, .int .i64 a0_1]) (t := 66) ?hr ?_; (case hd => rfl); (case hg => rfl); (case hr => first | (go_simp; done) | (go_simp; rfl)); intro gb254 hg w22 hbox hb; replace BK254 := ak (hbox); replace GW254 := ak ((by rw [hg]; exact bsz_ : w.heap.size ≤ gb254)); replace HB := ak (bst_ hb); replace GE254 := GW254; clear hb hbox hg; obtain ⟨hcz23_0, hcz23_1, hfz23_0, hfz23_1⟩ := bz2_ BK254))
   go_ret
   exact ⟨by first | rfl | (simp [errW_none, errW_some] <;> rfl) | (simp [*, errW_none, errW_some] <;> rfl), bsw_⟩
 rw [if_pos c19] at H
 have c19b0 : decide (a0_0 ≤ 11) = true := decide_eq_true c19
 clear c19
 obtain rfl := Option.some.inj H
 go_enter Try.func52, Try.ntmps52
 go_wp2_with (first | ((with_reducible refine gate_dst (N := 1) rfl ?_); refine box_event ?hg (N := 1) ?hd (cs := #[.int .i64 a0_0, .int .i64 a0_1]) (t := 66) ?hr ?_; (case hd => rfl); (case hg => rfl); (case hr => first | (go_simp; done) | (go_simp; rfl)); intro gb254 hg w20 hbox hb; replace BK254 := ak (hbox); replace GW254 := ak ((by rw [hg]; exact bsz_ : w.heap.size ≤ gb254)); replace HB := ak (bst_ hb); replace GE254 := GW254; clear hb hbox hg; obtain ⟨hcz21_0, hcz21_1, hfz21_0, hfz21_1⟩ := bz2_ BK254))
 go_ret
 exact ⟨by first | rfl | (simp [errW_none, errW_some] <;> rfl) | (simp [*, errW_none, errW_some] <;> rfl), bsw_⟩

/-! ### handshakerref07_start: function 53 -/
def handshakerref07_start.f : Nat → List (S66) → Int → Option (Int)
 | 0, _, _ => none
 | k + 1, l0, a1 => if a1 < 0 then (some (-1)) else (if 0 ≤ a1 then (if a1 < (l0.length : Int) then (if ((rd_T66 l0 a1).f0) ≤ 3 then (some a1) else ((handshakerref07_start.f k l0 (wrap64 (a1 - 1))).bind fun t257 => (if t257 < 0 then (some t257) else (if ((rd_T66 l0 a1).f0) = 11 then (some t257) else ((handshakerref07_start.f k l0 (wrap64 (t257 - 1))).bind fun t259 => (some t259)))))) else (none)) else (none))
theorem handshakerref07_start.mono_l : ∀ k, (∀ y0 y1, LeO (handshakerref07_start.f k y0 y1) (handshakerref07_start.f (k + 1) y0 y1))
 | 0 => fun _ _ r h => by simp [handshakerref07_start.f] at h
 | k + 1 => by
  have ih0 := handshakerref07_start.mono_l k
  · intro y0 y1
    unfold handshakerref07_start.f
    repeat' first
    | (with_reducible exact ih0 _ _)
    | (with_reducible exact LeO.refl _)
    | (with_reducible exact LeO.none _)
    | (with_reducible refine LeO.ite ?_ ?_)
    | (with_reducible refine LeO.bind ?_ (fun _ => ?_))
    | exact ih0 _ _
    | exact LeO.none _
    | refine LeO.ite ?_ ?_
    | refine LeO.bind ?_ (fun _ => ?_)
theorem handshakerref07_start.mono : ∀ a0 a1 k, LeO (handshakerref07_start.f k a0 a1) (handshakerref07_start.f (k + 1) a0 a1) := by
 intro a0 a1 k
 have ih0 := handshakerref07_start.mono_l k
 exact ih0 a0 a1
set_option maxHeartbeats 8000000 in
set_option maxRecDepth 100000 in
theorem handshakerref07_start.calls (k : Nat) : ∀ (A0 : Option Addr) (c0 : Nat) (l0 : List (S66)) (a1 : Int) (r : Int) (w : World) (hr0 : Kd.C k66 w A0 l0.length l0) (hc0 : l0.length ≤ c0) (h : handshakerref07_start.f k l0 a1 = some r),
 Calls Try.prog 53 #[.slice A0 l0.length c0, .int .i64 a1] w fun e w' => e = .returned (.int .i64 r) ∧ Below w.heap.size w w' := by
 induction k using Nat.strongRecOn with
 | _ k ih =>
 intro A0 c0 l0 a1 r w hr0 hc0 h
 cases k with
 | zero => exact absurd h (by simp [handshakerref07_start.f])
 | succ k =>
 simp only [handshakerref07_start.f] at h
 have HR0 := ak hr0
 have HC0 := ak hc0
 clear hr0 hc0
 have HB := ak (Below.refl w.heap.size w)
 have H : (if a1 < 0 then (some (-1)) else (if 0 ≤ a1 then (if a1 < (l0.length : Int) then (if ((rd_T66 l0 a1).f0) ≤ 3 then (some a1) else ((handshakerref07_start.f k l0 (wrap64 (a1 - 1))).bind fun t257 => (if t257 < 0 then (some t257) else (if ((rd_T66 l0 a1).f0) = 11 then (some t257) else ((handshakerref07_start.f k l0 (wrap64 (t257 - 1))).bind fun t259 => (some t259)))))) else (none)) else (none))) = some r := h
 clear h
 by_cases c3 : a1 < 0
 · rw [if_pos c3] at H
   have c3b0 : decide (a1 < 0) = true := decide_eq_true c3
   clear c3
   obtain rfl := Option.some.inj H
   go_enter Try.func53, Try.ntmps53
   go_wp2
   go_ret
   exact ⟨by first | rfl | (simp [errW_none, errW_some] <;> rfl) | (simp [*, errW_none, errW_some] <;> rfl), bsv_⟩
 rw [if_neg c3] at H
 have c3b0 : decide (a1 < 0) = false := decide_eq_false c3
 clear c3
 by_cases c4 : 0 ≤ a1
 rotate_left
 · rw [if_neg c4] at H
   exact absurd H (by simp)
 rw [if_pos c4] at H
 have c4b0 : decide (0 ≤ a1) = true := decide_eq_true c4
 clear c4
 by_cases c5 : a1 < (l0.length : Int)
 rotate_left
 · rw [if_neg c5] at H
   exact absurd H (by simp)
 rw [if_pos c5] at H
 have c5b0 : decide (a1 < (l0.length : Int)) = true := decide_eq_true c5
 clear c5
 by_cases c6 : ((rd_T66 l0 a1).f0) ≤ 3
 · rw [if_pos c6] at H
   have c6b0 : decide (((rd_T66 l0 a1).f0) ≤ 3) = true := decide_eq_true c6
   clear c6
   obtain rfl := Option.some.inj H
   have p256 : 0 ≤ (a1 : Int) := oda_
   have q256 : a1 < (l0.length : Int) := oda_
   obtain ⟨ad256, e256, hx256_0, hx256_1⟩ := at_T66 HR0.out a1 p256 q256
   cases e256
   replace p256 := eq_true p256
   replace q256 := eq_true q256
   go_enter Try.func53, Try.ntmps53
   go_wp2
   go_ret
   exact ⟨by first | rfl | (simp [errW_none, errW_some] <;> rfl) | (simp [*, errW_none, errW_some] <;> rfl), bsv_⟩
 rw [if_neg c6] at H
 have c6b0 : decide (((rd_T66 l0 a1).f0) ≤ 3) = false := decide_eq_false c6
 clear c6
 obtain ⟨t257, A7, H⟩ := bd_ H
 by_cases c8 : t257 < 0
 · rw [if_pos c8] at H
   have c8b0 : decide (t257 < 0) = true := decide_eq_true c8
   clear c8
   obtain rfl := Option.some.inj H
   have p256 : 0 ≤ (a1 : Int) := oda_
   have q256 : a1 < (l0.length : Int) := oda_
   obtain ⟨ad256, e256, hx256_0, hx256_1⟩ := at_T66 HR0.out a1 p256 q256
   cases e256
   replace p256 := eq_true p256
   replace q256 := eq_true q256
   go_enter Try.func53, Try.ntmps53
   go_wp2_with (first | ((with_reducible refine gate_callee (f := 53) rfl ?_); refine goesL_ (some 18) rfl rfl Try.func53 (by kernel_rfl) rfl #[.slice (some ad256) l0.length c0, .int .i64 (wrap64 (a1 - 1))] rfl mp_ ?_; (with_reducible refine (ih k (by omega) _ _ l0 (wrap64 (a1 - 1)) t257 _ ?side1 ?side2 A7.out).mono ?_); (case side1 => exact cc_ HR0); (case side2 => exact HC0.out); rintro e w9 ⟨rfl, hb⟩; refine ⟨_, rfl, ?_⟩; replace HB := ak (bst_ hb); (try clear hb)))
   go_ret
   exact ⟨by first | rfl | (simp [errW_none, errW_some] <;> rfl) | (simp [*, errW_none, errW_some] <;> rfl), bsv_⟩
 rw [if_neg c8] at H
 have c8b0 : decide (t257 < 0) = false := decide_eq_false c8
 clear c8
 by_cases c10 : ((rd_T66 l0 a1).f0) = 11
 rotate_left
 · rw [if_neg c10] at H
   have c10b0 : (((rd_T66 l0 a1).f0) == 11) = false := beq_eq_false_iff_ne.mpr c10
   have c10b1 : (((rd_T66 l0 a1).f0) != 11) = true := bne_iff_ne.mpr c10
   obtain ⟨t259, A12, H⟩ := bd_ H
   obtain rfl := Option.some.inj H
   have p256 : 0 ≤ (a1 : Int) := oda_
   have q256 : a1 < (l0.length : Int) := oda_
   obtain ⟨ad256, e256, hx256_0, hx256_1⟩ := at_T66 HR0.out a1 p256 q256
   cases e256
   replace p256 := eq_true p256
   replace q256 := eq_true q256
   go_enter Try.func53, Try.ntmps53
   go_wp2_with (first | ((with_reducible refine gate_callee (f := 53) rfl ?_); refine goesL_ (some 18) rfl rfl Try.func53 (by kernel_rfl) rfl #[.slice (some ad256) l0.length c0, .int .i64 (wrap64 (a1 - 1))] rfl mp_ ?_; (with_reducible refine (ih k (by omega) _ _ l0 (wrap64 (a1 - 1)) t257 _ ?side1 ?side2 A7.out).mono ?_); (case side1 => exact cc_ HR0); (case side2 => exact HC0.out); rintro e w13 ⟨rfl, hb⟩; refine ⟨_, rfl, ?_⟩; replace HB := ak (bst_ hb); (try clear hb); have p258 : 0 ≤ (a1 : Int) := oda_; have q258 : a1 < (l0.length : Int) := oda_; obtain ⟨ad258, e258, hx258_0, hx258_1⟩ := at_T66 HR0.out a1 p258 q258; obtain rfl : ad256 = ad258 := (by injection e258); replace hx258_0 := bl_ HB hx258_0; replace hx258_1 := bl_ HB hx258_1; replace p258 := eq_true p258; replace q258 := eq_true q258) | ((with_reducible refine gate_callee (f := 53) rfl ?_); refine goesL_ (some 33) rfl rfl Try.func53 (by kernel_rfl) rfl #[.slice (some ad256) l0.length c0, .int .i64 (wrap64 (t257 - 1))] rfl mp_ ?_; (with_reducible refine (ih k (by omega) _ _ l0 (wrap64 (t257 - 1)) t259 _ ?side1 ?side2 A12.out).mono ?_); (case side1 => exact cb_ HR0 HB); (case side2 => exact HC0.out); rintro e w14 ⟨rfl, hb⟩; refine ⟨_, rfl, ?_⟩; replace HB := ak (bst_ hb); (try clear hb)))
   go_ret
   exact ⟨by first | rfl | (simp [errW_none, errW_some] <;> rfl) | (simp [*, errW_none, errW_some] <;> rfl), bsv_⟩
 rw [if_pos c10] at H
 have c10b0 : (((rd_T66 l0 a1).f0) == 11) = true := beq_iff_eq.mpr c10
 have c10b1 : (((rd_T66 l0 a1).f0) != 11) = false := bne_eq_false_iff_eq.mpr c10
 clear c10
 obtain rfl := Option.some.inj H
 have p256 : 0 ≤ (a1 : Int) := oda_
 have q256 : a1 < (l0.length : Int) := oda_
 obtain ⟨ad256, e256, hx256_0, hx256_1⟩ := at_T66 HR0.out a1 p256 q256
 cases e256
 replace p256 := eq_true p256
 replace q256 := eq_true q256
 go_enter Try.func53, Try.ntmps53
 go_wp2_with (first | ((with_reducible refine gate_callee (f := 53) rfl ?_); refine goesL_ (some 18) rfl rfl Try.func53 (by kernel_rfl) rfl #[.slice (some ad256) l0.length c0, .int .i64 (wrap64 (a1 - 1))] rfl mp_ ?_; (with_reducible refine (ih k (by omega) _ _ l0 (wrap64 (a1 - 1)) t257 _ ?side1 ?side2 A7.out).mono ?_); (case side1 => exact cc_ HR0); (case side2 => exact HC0.out); rintro e w11 ⟨rfl, hb⟩; refine ⟨_, rfl, ?_⟩; replace HB := ak (bst_ hb); (try clear hb); have p258 : 0 ≤ (a1 : Int) := oda_; have q258 : a1 < (l0.length : Int) := oda_; obtain ⟨ad258, e258, hx258_0, hx258_1⟩ := at_T66 HR0.out a1 p258 q258; obtain rfl : ad256 = ad258 := (by injection e258); replace hx258_0 := bl_ HB hx258_0; replace hx258_1 := bl_ HB hx258_1; replace p258 := eq_true p258; replace q258 := eq_true q258))
 go_ret
 exact ⟨by first | rfl | (simp [errW_none, errW_some] <;> rfl) | (simp [*, errW_none, errW_some] <;> rfl), bsv_⟩

/-! ### handshakerref07_Check: function 47 -/
mutual
def handshakerref07_Check.j0 : Nat → List (S66) → Bool → Option (Int)
 | 0, _, _ => none
 | k + 1, x0, x12 => if x12 = true then (some 1) else (handshakerref07_Check.l0 k x0 0)
def handshakerref07_Check.l0 : Nat → List (S66) → Int → Option (Int)
 | 0, _, _ => none
 | k + 1, x0, x3 => if x3 < (x0.length : Int) then (if 0 ≤ x3 then ((handshakerref07_one.f ((rd_T66 x0 x3).f0) ((rd_T66 x0 x3).f1)).bind fun t261 => (if t261 = true then (handshakerref07_Check.l0 k x0 (wrap64 (x3 + 1))) else (some 1))) else (none)) else ((handshakerref07_start.f k x0 (wrap64 ((x0.length : Int) - 1))).bind fun t262 => (if t262 = 0 then (some 0) else (some 2)))
end
def handshakerref07_Check.f (k : Nat) (l0 : List (S66)) : Option (Int) := if (l0.length : Int) < 1 then (handshakerref07_Check.j0 k l0 true) else (handshakerref07_Check.j0 k l0 (decide ((l0.length : Int) > 12)))
theorem handshakerref07_Check.mono_l : ∀ k, (∀ y0 y1, LeO (handshakerref07_Check.j0 k y0 y1) (handshakerref07_Check.j0 (k + 1) y0 y1)) ∧ (∀ y0 y1, LeO (handshakerref07_Check.l0 k y0 y1) (handshakerref07_Check.l0 (k + 1) y0 y1))
 | 0 => ⟨fun _ _ r h => by simp [handshakerref07_Check.j0] at h, fun _ _ r h => by simp [handshakerref07_Check.l0] at h⟩
 | k + 1 => by
  obtain ⟨ih0, ih1⟩ := handshakerref07_Check.mono_l k
  refine ⟨?_, ?_⟩
  all_goals intros
  all_goals first | unfold handshakerref07_Check.j0 | unfold handshakerref07_Check.l0
  all_goals repeat' first | exact LeO.refl _ | exact LeO.none _ | (with_reducible apply ih0) | (with_reducible apply ih1) | (with_reducible apply handshakerref07_start.mono) | (with_reducible refine LeO.ite ?_ ?_) | (with_reducible refine LeO.bind ?_ (fun _ => ?_)) | apply ih0 | apply ih1 | apply handshakerref07_start.mono | refine LeO.ite ?_ ?_ | refine LeO.bind ?_ (fun _ => ?_)
theorem handshakerref07_Check.mono : ∀ a0 k, LeO (handshakerref07_Check.f k a0) (handshakerref07_Check.f (k + 1) a0) := by
 intro a0 k
 obtain ⟨ih0, ih1⟩ := handshakerref07_Check.mono_l k
 unfold handshakerref07_Check.f
 repeat' first
  | (with_reducible exact ih0 _ _)
  | (with_reducible exact ih1 _ _)
  | (with_reducible exact handshakerref07_start.mono _ _ _)
  | (with_reducible exact LeO.refl _)
  | (with_reducible exact LeO.none _)
  | (with_reducible refine LeO.ite ?_ ?_)
  | (with_reducible refine LeO.bind ?_ (fun _ => ?_))
  | exact ih0 _ _
  | exact ih1 _ _
  | exact handshakerref07_start.mono _ _ _
  | exact LeO.none _
  | refine LeO.ite ?_ ?_
  | refine LeO.bind ?_ (fun _ => ?_)
set_option maxHeartbeats 8000000 in
set_option maxRecDepth 100000 in
theorem handshakerref07_Check.calls (k : Nat) (A0 : Option Addr) (c0 : Nat) (l0 : List (S66)) (r : Int) (w : World) (hr0 : Kd.C k66 w A0 l0.length l0) (hc0 : l0.length ≤ c0) (h : handshakerref07_Check.f k l0 = some r) :
 Calls Try.prog 47 #[.slice A0 l0.length c0] w fun e w' => e = .returned (.int .i64 r) ∧ Below w.heap.size w w' := by
 have hu66 := Try.underlying66
 have HR0 := ak hr0
 have HC0 := ak hc0
 clear hr0 hc0
 have HB := ak (Below.refl w.heap.size w)
 have H : (if (l0.length : Int) < 1 then (handshakerref07_Check.j0 k l0 true) else (handshakerref07_Check.j0 k l0 (decide ((l0.length : Int) > 12)))) = some r := h
 clear h
 have HC2 := ak H
 clear H
 go_enter Try.func47, Try.ntmps47
 go_upto_region 1 with (fail)
 go_cut [12] (fun v12 wc => ∃ (kq : Nat) (x12_1 : Bool), v12 = .bool x12_1 ∧ Aside0 (handshakerref07_Check.j0 kq l0 x12_1 = some r) ∧ Aside0 (kq ≤ k) ∧ Aside0 (Below w.heap.size w wc))
 case first =>
  have H := HC2.out
  clear HC2
  by_cases c3 : (l0.length : Int) < 1
  rotate_left
  · rw [if_neg c3] at H
    have c3b0 : decide ((l0.length : Int) < 1) = false := decide_eq_false c3
    have c3b1 : decide (l0.length < 1) = false := decide_eq_false (by omega)
    clear c3
    (first | rw [c3b0] | (simp only [i64_w, i32_w]; rw [c3b0]) | skip)
    have H' := ak H
    clear H
    go_wp2
    go_meet
    case rel => exact ⟨_, (decide ((l0.length : Int) > 12)), (by first | rfl | (simp; done) | (simp [*]; done)), H', ⟨by first | omega | exact Nat.le_refl _⟩, ⟨bsv_⟩⟩
  rw [if_pos c3] at H
  have c3b0 : decide ((l0.length : Int) < 1) = true := decide_eq_true c3
  have c3b1 : decide (l0.length < 1) = true := decide_eq_true (by omega)
  clear c3
  (first | rw [c3b0] | (simp only [i64_w, i32_w]; rw [c3b0]) | skip)
  have H' := ak H
  clear H
  go_wp2
  go_meet
  case rel => exact ⟨_, (true), (by first | rfl | (simp; done) | (simp [*]; done)), H', ⟨by first | omega | exact Nat.le_refl _⟩, ⟨bsv_⟩⟩
 case rest =>
  clear HC2
  try clear p2
  try clear c3
  try clear c3b0
  try clear c3b1
  obtain ⟨kq, x12_1, rfl, HA, HJ1, HB⟩ := hcut
  cases kq with
  | zero => exact absurd HA.out (by simp [handshakerref07_Check.j0])
  | succ kj1 =>
   have H := HA.out
   clear HA
   simp only [handshakerref07_Check.j0] at H
   by_cases c4 : x12_1 = true
   · subst c4
     rw [if_pos rfl] at H
     obtain rfl := Option.some.inj H
     go_wp2
     go_ret
     exact ⟨by first | rfl | (simp [errW_none, errW_some] <;> rfl) | (simp [*, errW_none, errW_some] <;> rfl), bsv_⟩
   replace c4 := Bool.eq_false_iff.mpr c4
   subst c4
   rw [if_neg (show ¬ (false = true) by decide)] at H
   have H' := ak H
   clear H
   go_wp2
   go_loopg [3] kj1 (fun kq v3 w' => ∃ (x3_2 : Int), v3 = .int .i64 x3_2 ∧ Aside0 (handshakerref07_Check.l0 kq l0 x3_2 = some r) ∧ Aside0 (kq ≤ kj1) ∧ Aside0 (Below w.heap.size w w'))
   case atStart => exact ⟨(0), (by first | rfl | (simp; done) | (simp [*]; done)), H', ⟨Nat.le_refl _⟩, ⟨bsv_⟩⟩
   case round =>
    clear H'
    try clear p2
    try clear c3
    try clear c3b0
    try clear c3b1
    try clear c4
    try clear p2
    obtain ⟨x3_2, rfl, HA, HK2, HB⟩ := hrel
    cases gk with
    | zero => exact absurd HA.out (by simp [handshakerref07_Check.l0])
    | succ k2 =>
     have H := HA.out
     clear HA
     simp only [handshakerref07_Check.l0] at H
     by_cases c5 : x3_2 < (l0.length : Int)
     rotate_left
     · rw [if_neg c5] at H
       have c5b0 : decide (x3_2 < (l0.length : Int)) = false := decide_eq_false c5
       clear c5
       obtain ⟨t262, A11, H⟩ := bd_ H
       by_cases c12 : t262 = 0
       rotate_left
       · rw [if_neg c12] at H
         have c12b0 : (t262 == 0) = false := beq_eq_false_iff_ne.mpr c12
         have c12b1 : (t262 != 0) = true := bne_iff_ne.mpr c12
         obtain rfl := Option.some.inj H
         go_wp2_with (first | ((with_reducible refine gate_callee (f := 53) rfl ?_); refine goesL_ (some 30) rfl rfl Try.func53 (by kernel_rfl) rfl #[.slice A0 l0.length c0, .int .i64 (wrap64 ((l0.length : Int) - 1))] rfl mp_ ?_; (with_reducible refine (handshakerref07_start.calls k2 _ _ l0 (wrap64 ((l0.length : Int) - 1)) t262 _ ?side1 ?side2 A11.out).mono ?_); (case side1 => exact cb_ HR0 HB); (case side2 => exact HC0.out); rintro e w14 ⟨rfl, hb⟩; refine ⟨_, rfl, ?_⟩; replace HB := ak (bst_ hb); (try clear hb)))
         go_ret
         exact ⟨by first | rfl | (simp [errW_none, errW_some] <;> rfl) | (simp [*, errW_none, errW_some] <;> rfl), bsv_⟩
       rw [if_pos c12] at H
       have c12b0 : (t262 == 0) = true := beq_iff_eq.mpr c12
       have c12b1 : (t262 != 0) = false := bne_eq_false_iff_eq.mpr c12
       clear c12
       obtain rfl := Option.some.inj H
       go_wp2_with (first | ((with_reducible refine gate_callee (f := 53) rfl ?_); refine goesL_ (some 30) rfl rfl Try.func53 (by kernel_rfl) rfl #[.slice A0 l0.length c0, .int .i64 (wrap64 ((l0.length : Int) - 1))] rfl mp_ ?_; (with_reducible refine (handshakerref07_start.calls k2 _ _ l0 (wrap64 ((l0.length : Int) - 1)) t262 _ ?side1 ?side2 A11.out).mono ?_); (case side1 => exact cb_ HR0 HB); (case side2 => exact HC0.out); rintro e w13 ⟨rfl, hb⟩; refine ⟨_, rfl, ?_⟩; replace HB := ak (bst_ hb); (try clear hb)))
       go_ret
       exact ⟨by first | rfl | (simp [errW_none, errW_some] <;> rfl) | (simp [*, errW_none, errW_some] <;> rfl), bsv_⟩
     rw [if_pos c5] at H
     have c5b0 : decide (x3_2 < (l0.length : Int)) = true := decide_eq_true c5
     clear c5
     by_cases c6 : 0 ≤ x3_2
     rotate_left
     · rw [if_neg c6] at H
       exact absurd H (by simp)
     rw [if_pos c6] at H
     have c6b0 : decide (0 ≤ x3_2) = true := decide_eq_true c6
     clear c6
     obtain ⟨t261, A7, H⟩ := bd_ H
     by_cases c8 : t261 = true
     rotate_left
     · replace c8 := Bool.eq_false_iff.mpr c8
       subst c8
       rw [if_neg (show ¬ (false = true) by decide)] at H
       obtain rfl := Option.some.inj H
       have p260 : 0 ≤ (x3_2 : Int) := oda_
       have q260 : x3_2 < (l0.length : Int) := oda_
       obtain ⟨ad260, e260, hx260_0, hx260_1⟩ := at_T66 HR0.out x3_2 p260 q260
       cases e260
       replace hx260_0 := bl_ HB hx260_0
       replace hx260_1 := bl_ HB hx260_1
       replace p260 := eq_true p260
       replace q260 := eq_true q260
       go_wp2_with (first | ((with_reducible refine gate_callee (f := 52) rfl ?_); refine goesL_ (some 23) rfl rfl Try.func52 (by kernel_rfl) rfl #[.agg #[.int .i64 ((rd_T66 l0 x3_2).f0), .int .i64 ((rd_T66 l0 x3_2).f1)]] rfl mp_ ?_; (with_reducible refine (handshakerref07_one.calls ((rd_T66 l0 x3_2).f0) ((rd_T66 l0 x3_2).f1) false _ A7.out).mono ?_); rintro e w10 ⟨rfl, hb⟩; refine ⟨_, rfl, ?_⟩; replace HB := ak (bst_ hb); (try clear hb)))
       go_ret
       exact ⟨by first | rfl | (simp [errW_none, errW_some] <;> rfl) | (simp [*, errW_none, errW_some] <;> rfl), bsv_⟩
     subst c8
     rw [if_pos rfl] at H
     have H' := ak H
     clear H
     have p260 : 0 ≤ (x3_2 : Int) := oda_
     have q260 : x3_2 < (l0.length : Int) := oda_
     obtain ⟨ad260, e260, hx260_0, hx260_1⟩ := at_T66 HR0.out x3_2 p260 q260
     cases e260
     replace hx260_0 := bl_ HB hx260_0
     replace hx260_1 := bl_ HB hx260_1
     replace p260 := eq_true p260
     replace q260 := eq_true q260
     go_wp2_with (first | ((with_reducible refine gate_callee (f := 52) rfl ?_); refine goesL_ (some 23) rfl rfl Try.func52 (by kernel_rfl) rfl #[.agg #[.int .i64 ((rd_T66 l0 x3_2).f0), .int .i64 ((rd_T66 l0 x3_2).f1)]] rfl mp_ ?_; (with_reducible refine (handshakerref07_one.calls ((rd_T66 l0 x3_2).f0) ((rd_T66 l0 x3_2).f1) true _ A7.out).mono ?_); rintro e w9 ⟨rfl, hb⟩; refine ⟨_, rfl, ?_⟩; replace HB := ak (bst_ hb); (try clear hb)))
     go_roundg k2
     case measure => have := HJ1.out; have := HK2.out; omega
     case rel => exact ⟨(wrap64 (x3_2 + 1)), (by first | rfl | (simp; done) | (simp [*]; done)), H', ⟨by have := HJ1.out; have := HK2.out; omega⟩, ⟨bsv_⟩⟩

/-! ### handshakerref07_Cells: function 48 -/
mutual
def handshakerref07_Cells.l0 : Nat → List (S66) → List Int → Int → Option (List Int)
 | 0, _, _, _ => none
 | k + 1, x0, x3, x4 => if x4 < 64 then (handshakerref07_Cells.l1 k x0 x3 x4 false 0) else (some x3)
def handshakerref07_Cells.l1 : Nat → List (S66) → List Int → Int → Bool → Int → Option (List Int)
 | 0, _, _, _, _, _ => none
 | k + 1, x0, x3, x4, x5, x6 => if x6 < (x0.length : Int) then (if x5 = true then (handshakerref07_Cells.l1 k x0 x3 x4 true (wrap64 (x6 + 1))) else (if 0 ≤ x6 then (if ((rd_T66 x0 x6).f0) = 2 then (handshakerref07_Cells.l1 k x0 x3 x4 (((rd_T66 x0 x6).f1) == x4) (wrap64 (x6 + 1))) else (handshakerref07_Cells.l1 k x0 x3 x4 false (wrap64 (x6 + 1)))) else (none))) else (if x5 = true then (if x3.length < 17592186044416 then (handshakerref07_Cells.l0 k x0 (x3 ++ [x4]) (wrap64 (x4 + 1))) else (none)) else (handshakerref07_Cells.l0 k x0 x3 (wrap64 (x4 + 1))))
end
def handshakerref07_Cells.f (k : Nat) (l0 : List (S66)) : Option (List Int) := (handshakerref07_Check.f k l0).bind fun t263 => (if t263 = 0 then (handshakerref07_Cells.l0 k l0 ([] : List Int) 0) else (some ([] : List Int)))
theorem handshakerref07_Cells.mono_l : ∀ k, (∀ y0 y1 y2, LeO (handshakerref07_Cells.l0 k y0 y1 y2) (handshakerref07_Cells.l0 (k + 1) y0 y1 y2)) ∧ (∀ y0 y1 y2 y3 y4, LeO (handshakerref07_Cells.l1 k y0 y1 y2 y3 y4) (handshakerref07_Cells.l1 (k + 1) y0 y1 y2 y3 y4))
 | 0 => ⟨fun _ _ _ r h => by simp [handshakerref07_Cells.l0] at h, fun _ _ _ _ _ r h => by simp [handshakerref07_Cells.l1] at h⟩
 | k + 1 => by
  obtain ⟨ih0, ih1⟩ := handshakerref07_Cells.mono_l k
  refine ⟨?_, ?_⟩
  all_goals intros
  all_goals first | unfold handshakerref07_Cells.l0 | unfold handshakerref07_Cells.l1
  all_goals repeat' first | exact LeO.refl _ | exact LeO.none _ | (with_reducible apply ih0) | (with_reducible apply ih1) | (with_reducible apply handshakerref07_Check.mono) | (with_reducible refine LeO.ite ?_ ?_) | (with_reducible refine LeO.bind ?_ (fun _ => ?_)) | apply ih0 | apply ih1 | apply handshakerref07_Check.mono | refine LeO.ite ?_ ?_ | refine LeO.bind ?_ (fun _ => ?_)
theorem handshakerref07_Cells.mono : ∀ a0 k, LeO (handshakerref07_Cells.f k a0) (handshakerref07_Cells.f (k + 1) a0) := by
 intro a0 k
 obtain ⟨ih0, ih1⟩ := handshakerref07_Cells.mono_l k
 unfold handshakerref07_Cells.f
 repeat' first
  | (with_reducible exact ih0 _ _ _)
  | (with_reducible exact ih1 _ _ _ _ _)
  | (with_reducible exact handshakerref07_Check.mono _ _)
  | (with_reducible exact LeO.refl _)
  | (with_reducible exact LeO.none _)
  | (with_reducible refine LeO.ite ?_ ?_)
  | (with_reducible refine LeO.bind ?_ (fun _ => ?_))
  | exact ih0 _ _ _
  | exact ih1 _ _ _ _ _
  | exact handshakerref07_Check.mono _ _
  | exact LeO.none _
  | refine LeO.ite ?_ ?_
  | refine LeO.bind ?_ (fun _ => ?_)
set_option maxHeartbeats 8000000 in
set_option maxRecDepth 100000 in
theorem handshakerref07_Cells.calls (k : Nat) (A0 : Option Addr) (c0 : Nat) (l0 : List (S66)) (r : List Int) (w : World) (hr0 : Kd.C k66 w A0 l0.length l0) (hc0 : l0.length ≤ c0) (h : handshakerref07_Cells.f k l0 = some r) :
 Calls Try.prog 48 #[.slice A0 l0.length c0] w fun e w' => ∃ v0_ : Value, e = .returned (v0_) ∧ Kd.R (Kd.int .i64) 3 w' w.heap.size (fun _ => True) v0_ r ∧ Below w.heap.size w w' := by
 have HR0 := ak hr0
 have HC0 := ak hc0
 clear hr0 hc0
 have HB := ak (Below.refl w.heap.size w)
 have H : ((handshakerref07_Check.f k l0).bind fun t263 => (if t263 = 0 then (handshakerref07_Cells.l0 k l0 ([] : List Int) 0) else (some ([] : List Int)))) = some r := h
 clear h
 obtain ⟨t263, A2, H⟩ := bd_ H
 by_cases c3 : t263 = 0
 rotate_left
 · rw [if_neg c3] at H
   have c3b0 : (t263 == 0) = false := beq_eq_false_iff_ne.mpr c3
   have c3b1 : (t263 != 0) = true := bne_iff_ne.mpr c3
   obtain rfl := Option.some.inj H
   go_enter Try.func48, Try.ntmps48
   go_wp2_with (first | ((with_reducible refine gate_callee (f := 47) rfl ?_); refine goesL_ (some 8) rfl rfl Try.func47 (by kernel_rfl) rfl #[.slice A0 l0.length c0] rfl mp_ ?_; (with_reducible refine (handshakerref07_Check.calls k _ _ l0 t263 _ ?side1 ?side2 A2.out).mono ?_); (case side1 => exact cc_ HR0); (case side2 => exact HC0.out); rintro e w13 ⟨rfl, hb⟩; refine ⟨_, rfl, ?_⟩; replace HB := ak (bst_ hb); (try clear hb)))
   go_ret
   exact ⟨_, by first | rfl | (simp [errW_none, errW_some] <;> rfl) | (simp [*, errW_none, errW_some] <;> rfl), by first | exact Kd.R_nil _ _ _ _ _ | exact Kd.N_nil _ _ _ _ _ | exact Kd.V_nil _ _ _ _ _ | exact Kd.Q_nil _ _ _ _ _ | exact Kd.S_nil _ _ _ _ _, bsv_⟩
 rw [if_pos c3] at H
 have c3b0 : (t263 == 0) = true := beq_iff_eq.mpr c3
 have c3b1 : (t263 != 0) = false := bne_eq_false_iff_eq.mpr c3
 clear c3
 have H' := ak H
 clear H
 go_enter Try.func48, Try.ntmps48
 go_wp2_with (first | ((with_reducible refine gate_callee (f := 47) rfl ?_); refine goesL_ (some 8) rfl rfl Try.func47 (by kernel_rfl) rfl #[.slice A0 l0.length c0] rfl mp_ ?_; (with_reducible refine (handshakerref07_Check.calls k _ _ l0 t263 _ ?side1 ?side2 A2.out).mono ?_); (case side1 => exact cc_ HR0); (case side2 => exact HC0.out); rintro e w4 ⟨rfl, hb⟩; refine ⟨_, rfl, ?_⟩; replace HB := ak (bst_ hb); (try clear hb)))
 go_loopg [3, 4] k (fun kq v3 v4 w' => ∃ (x3_1 : List Int) (x4_1 : Int), v4 = .int .i64 x4_1 ∧ Aside0 (handshakerref07_Cells.l0 kq l0 x3_1 x4_1 = some r) ∧ Aside0 (kq ≤ k) ∧ Aside0 (Kd.R (Kd.int .i64) 3 w' w.heap.size (fun _ => True) v3 x3_1) ∧ Aside0 (Below w.heap.size w w'))
 case atStart => exact ⟨(([] : List Int)), (0), (by first | rfl | (simp; done) | (simp [*]; done)), H', ⟨Nat.le_refl _⟩, ⟨by first | exact Kd.R_nil _ _ _ _ _ | exact Kd.N_nil _ _ _ _ _ | exact Kd.V_nil _ _ _ _ _ | exact Kd.Q_nil _ _ _ _ _ | exact Kd.S_nil _ _ _ _ _⟩, ⟨bsv_⟩⟩
 case round =>
  clear H'
  try clear p2
  try clear c3
  try clear c3b0
  try clear c3b1
  try clear c4
  obtain ⟨x3_1, x4_1, rfl, HA, HK1, HO_3, HB⟩ := hrel
  cases gk with
  | zero => exact absurd HA.out (by simp [handshakerref07_Cells.l0])
  | succ k1 =>
   have H := HA.out
   clear HA
   simp only [handshakerref07_Cells.l0] at H
   by_cases c5 : x4_1 < 64
   rotate_left
   · rw [if_neg c5] at H
     have c5b0 : decide (x4_1 < 64) = false := decide_eq_false c5
     clear c5
     obtain rfl := Option.some.inj H
     go_wp2
     go_ret
     exact ⟨_, by first | rfl | (simp [errW_none, errW_some] <;> rfl) | (simp [*, errW_none, errW_some] <;> rfl), rq_ HO_3, bsv_⟩
   rw [if_pos c5] at H
   have c5b0 : decide (x4_1 < 64) = true := decide_eq_true c5
   clear c5
   have H' := ak H
   clear H
   go_wp2
   go_loopg [5, 6] k1 (fun kq v5 v6 w' => ∃ (x5_2 : Bool) (x6_2 : Int), v5 = .bool x5_2 ∧ v6 = .int .i64 x6_2 ∧ Aside0 (handshakerref07_Cells.l1 kq l0 x3_1 x4_1 x5_2 x6_2 = some r) ∧ Aside0 (kq ≤ k1) ∧ Aside0 (Kd.R (Kd.int .i64) 3 w' w.heap.size (fun _ => True) u3 x3_1) ∧ Aside0 (Below w.heap.size w w'))
   case atStart => exact ⟨(false), (0), (by first | rfl | (simp; done) | (simp [*]; done)), (by first | rfl | (simp; done) | (simp [*]; done)), H', ⟨Nat.le_refl _⟩, ⟨rq_ HO_3⟩, ⟨bsv_⟩⟩
   case round =>
    clear H'
    try clear p2
    try clear c3
    try clear c3b0
    try clear c3b1
    try clear c4
    try clear c5
    try clear c5b0
    try clear p2
    obtain ⟨x5_2, x6_2, rfl, rfl, HA, HK2, HO_3, HB⟩ := hrel
    cases gk with
    | zero => exact absurd HA.out (by simp [handshakerref07_Cells.l1])
    | succ k2 =>
     have H := HA.out
     clear HA
     simp only [handshakerref07_Cells.l1] at H
     by_cases c6 : x6_2 < (l0.length : Int)
     rotate_left
     · rw [if_neg c6] at H
       have c6b0 : decide (x6_2 < (l0.length : Int)) = false := decide_eq_false c6
       clear c6
       by_cases c10 : x5_2 = true
       rotate_left
       · replace c10 := Bool.eq_false_iff.mpr c10
         subst c10
         rw [if_neg (show ¬ (false = true) by decide)] at H
         have H' := ak H
         clear H
         go_wp2
         go_roundg k2
         case measure => have := HK1.out; have := HK2.out; omega
         case rel => exact ⟨(x3_1), (wrap64 (x4_1 + 1)), (by first | rfl | (simp; done) | (simp [*]; done)), H', ⟨by have := HK1.out; have := HK2.out; omega⟩, ⟨rq_ HO_3⟩, ⟨bsv_⟩⟩
       subst c10
       rw [if_pos rfl] at H
       by_cases c11 : x3_1.length < 17592186044416
       rotate_left
       · rw [if_neg c11] at H
         exact absurd H (by simp)
       rw [if_pos c11] at H
       have LMc11 := ak c11
       clear c11
       obtain ⟨y266, hy266⟩ : ∃ y_ : List Int, y_ = (x3_1 ++ [x4_1]) := ⟨_, rfl⟩
       replace H : (handshakerref07_Cells.l0 k2 l0 y266 (wrap64 (x4_1 + 1))) = some r := rh_ hy266 H
       have Ny266 := ak hy266
       clear hy266
       have H' := ak H
       clear H
       go_wp2_with (first | ((with_reducible refine gate_builtin (b := .append) (xs := #[.tmp 39, .tmp 41]) rfl ?_); at_builtin; refine Kd.R_append (Kd.int .i64) (w0 := w) w.heap.size rfl (.tmp 39) (.tmp 41) 78 3 (.int .i64 0) 8 rfl Try.underlying78 info3 rfl (by decide) (by omega) u3 x3_1 x4_1 [.int .i64 x4_1] (fun _ => True) (fun _ => False) rfl rfl ?aP (fun _ hk => hk.elim) ?aF ?aO ?aB ?aS ?aL ?_; (case aP => exact rfl); (case aB => exact bsv_); (case aF => exact (fun _ _ => trivial)); (case aO => exact (rq_ HO_3)); (case aS => exact bsz_); (case aL => have := LMc11.out; omega); intro v267 w12 ho hb hg hat; rw [← Ny266.out] at ho; replace HB := ak (hb); replace HO268 := ak (ho); clear HO_3; clear ho hb hg hat))
       go_roundg k2
       case measure => have := HK1.out; have := HK2.out; omega
       case rel => exact ⟨(y266), (wrap64 (x4_1 + 1)), (by first | rfl | (simp; done) | (simp [*]; done)), H', ⟨by have := HK1.out; have := HK2.out; omega⟩, ⟨rq_ HO268⟩, ⟨bsv_⟩⟩
     rw [if_pos c6] at H
     have c6b0 : decide (x6_2 < (l0.length : Int)) = true := decide_eq_true c6
     clear c6
     by_cases c7 : x5_2 = true
     · subst c7
       rw [if_pos rfl] at H
       have H' := ak H
       clear H
       go_wp2
       go_roundg k2
       case measure => have := HK1.out; have := HK2.out; omega
       case rel => exact ⟨(true), (wrap64 (x6_2 + 1)), (by first | rfl | (simp; done) | (simp [*]; done)), (by first | rfl | (simp; done) | (simp [*]; done)), H', ⟨by have := HK1.out; have := HK2.out; omega⟩, ⟨rq_ HO_3⟩, ⟨bsv_⟩⟩
     replace c7 := Bool.eq_false_iff.mpr c7
     subst c7
     rw [if_neg (show ¬ (false = true) by decide)] at H
     by_cases c8 : 0 ≤ x6_2
     rotate_left
     · rw [if_neg c8] at H
       exact absurd H (by simp)
     rw [if_pos c8] at H
     have c8b0 : decide (0 ≤ x6_2) = true := decide_eq_true c8
     clear c8
     by_cases c9 : ((rd_T66 l0 x6_2).f0) = 2
     rotate_left
     · rw [if_neg c9] at H
       have c9b0 : (((rd_T66 l0 x6_2).f0) == 2) = false := beq_eq_false_iff_ne.mpr c9
       have c9b1 : (((rd_T66 l0 x6_2).f0) != 2) = true := bne_iff_ne.mpr c9
       have H' := ak H
       clear H
       have p264 : 0 ≤ (x6_2 : Int) := oda_
       have q264 : x6_2 < (l0.length : Int) := oda_
       obtain ⟨ad264, e264, hx264_0, hx264_1⟩ := at_T66 HR0.out x6_2 p264 q264
       cases e264
       replace hx264_0 := bl_ HB hx264_0
       replace hx264_1 := bl_ HB hx264_1
       replace p264 := eq_true p264
       replace q264 := eq_true q264
       go_wp2
       go_roundg k2
       case measure => have := HK1.out; have := HK2.out; omega
       case rel => exact ⟨(false), (wrap64 (x6_2 + 1)), (by first | rfl | (simp; done) | (simp [*]; done)), (by first | rfl | (simp; done) | (simp [*]; done)), H', ⟨by have := HK1.out; have := HK2.out; omega⟩, ⟨rq_ HO_3⟩, ⟨bsv_⟩⟩
     rw [if_pos c9] at H
     have c9b0 : (((rd_T66 l0 x6_2).f0) == 2) = true := beq_iff_eq.mpr c9
     have c9b1 : (((rd_T66 l0 x6_2).f0) != 2) = false := bne_eq_false_iff_eq.mpr c9
     clear c9
     have H' := ak H
     clear H
     have p264 : 0 ≤ (x6_2 : Int) := oda_
     have q264 : x6_2 < (l0.length : Int) := oda_
     obtain ⟨ad264, e264, hx264_0, hx264_1⟩ := at_T66 HR0.out x6_2 p264 q264
     cases e264
     replace hx264_0 := bl_ HB hx264_0
     replace hx264_1 := bl_ HB hx264_1
     replace p264 := eq_true p264
     replace q264 := eq_true q264
     have p265 : 0 ≤ (x6_2 : Int) := oda_
     have q265 : x6_2 < (l0.length : Int) := oda_
     obtain ⟨ad265, e265, hx265_0, hx265_1⟩ := at_T66 HR0.out x6_2 p265 q265
     obtain rfl : ad264 = ad265 := (by injection e265)
     replace hx265_0 := bl_ HB hx265_0
     replace hx265_1 := bl_ HB hx265_1
     replace p265 := eq_true p265
     replace q265 := eq_true q265
     go_wp2
     go_roundg k2
     case measure => have := HK1.out; have := HK2.out; omega
     case rel => exact ⟨((((rd_T66 l0 x6_2).f1) == x4_1)), (wrap64 (x6_2 + 1)), (by first | rfl | (simp; done) | (simp [*]; done)), (by first | rfl | (simp; done) | (simp [*]; done)), H', ⟨by have := HK1.out; have := HK2.out; omega⟩, ⟨rq_ HO_3⟩, ⟨bsv_⟩⟩

/-! ### handshakerref08_reckons: function 39 -/
def handshakerref08_reckons.f (k : Nat) (l0 : List (S66)) : Option (Bool) := (handshakerref07_Check.f k l0).bind fun t269 => (if t269 = 0 then ((handshakerref07_Cells.f k l0).bind fun t270 => (some ((t270.length : Int) == 0))) else (some false))
theorem handshakerref08_reckons.mono : ∀ a0 k, LeO (handshakerref08_reckons.f k a0) (handshakerref08_reckons.f (k + 1) a0) := by
 intro a0 k
 unfold handshakerref08_reckons.f
 repeat' first
  | (with_reducible exact handshakerref07_Cells.mono _ _)
  | (with_reducible exact handshakerref07_Check.mono _ _)
  | (with_reducible exact LeO.refl _)
  | (with_reducible exact LeO.none _)
  | (with_reducible refine LeO.ite ?_ ?_)
  | (with_reducible refine LeO.bind ?_ (fun _ => ?_))
  | exact handshakerref07_Cells.mono _ _
  | exact handshakerref07_Check.mono _ _
  | exact LeO.none _
  | refine LeO.ite ?_ ?_
  | refine LeO.bind ?_ (fun _ => ?_)
set_option maxHeartbeats 8000000 in
set_option maxRecDepth 100000 in
theorem handshakerref08_reckons.calls (k : Nat) (A0 : Option Addr) (c0 : Nat) (l0 : List (S66)) (r : Bool) (w : World) (hr0 : Kd.C k66 w A0 l0.length l0) (hc0 : l0.length ≤ c0) (h : handshakerref08_reckons.f k l0 = some r) :
 Calls Try.prog 39 #[.slice A0 l0.length c0] w fun e w' => e = .returned (.bool r) ∧ Below w.heap.size w w' := by
 have HR0 := ak hr0
 have HC0 := ak hc0
 clear hr0 hc0
 have HB := ak (Below.refl w.heap.size w)
 have H : ((handshakerref07_Check.f k l0).bind fun t269 => (if t269 = 0 then ((handshakerref07_Cells.f k l0).bind fun t270 => (some ((t270.length : Int) == 0))) else (some false))) = some r := h
 clear h
 obtain ⟨t269, A2, H⟩ := bd_ H
 by_cases c3 : t269 = 0
 rotate_left
 · rw [if_neg c3] at H
   have c3b0 : (t269 == 0) = false := beq_eq_false_iff_ne.mpr c3
   have c3b1 : (t269 != 0) = true := bne_iff_ne.mpr c3
   obtain rfl := Option.some.inj H
   go_enter Try.func39, Try.ntmps39
   go_wp2_with (first | ((with_reducible refine gate_callee (f := 47) rfl ?_); refine goesL_ (some 4) rfl rfl Try.func47 (by kernel_rfl) rfl #[.slice A0 l0.length c0] rfl mp_ ?_; (with_reducible refine (handshakerref07_Check.calls k _ _ l0 t269 _ ?side1 ?side2 A2.out).mono ?_); (case side1 => exact cc_ HR0); (case side2 => exact HC0.out); rintro e w8 ⟨rfl, hb⟩; refine ⟨_, rfl, ?_⟩; replace HB := ak (bst_ hb); (try clear hb)))
   go_ret
   exact ⟨by first | rfl | (simp [errW_none, errW_some] <;> rfl) | (simp [*, errW_none, errW_some] <;> rfl), bsv_⟩
 rw [if_pos c3] at H
 have c3b0 : (t269 == 0) = true := beq_iff_eq.mpr c3
 have c3b1 : (t269 != 0) = false := bne_eq_false_iff_eq.mpr c3
 clear c3
 obtain ⟨t270, A4, H⟩ := bd_ H
 obtain rfl := Option.some.inj H
 go_enter Try.func39, Try.ntmps39
 go_wp2_with (first | ((with_reducible refine gate_callee (f := 47) rfl ?_); refine goesL_ (some 4) rfl rfl Try.func47 (by kernel_rfl) rfl #[.slice A0 l0.length c0] rfl mp_ ?_; (with_reducible refine (handshakerref07_Check.calls k _ _ l0 t269 _ ?side1 ?side2 A2.out).mono ?_); (case side1 => exact cc_ HR0); (case side2 => exact HC0.out); rintro e w5 ⟨rfl, hb⟩; refine ⟨_, rfl, ?_⟩; replace HB := ak (bst_ hb); (try clear hb)) | (go_at_call 48; (with_reducible refine (handshakerref07_Cells.calls k _ _ l0 t270 _ ?side1 ?side2 A4.out).mono ?_); (case side1 => exact cb_ HR0 HB); (case side2 => exact HC0.out); rintro e w6 ⟨v271, rfl, ho0, hb⟩; replace HO272 := ak (Kd.R_lower ho0 bsz_); replace HB := ak (bst_ hb); (try clear hb); (try clear ho0); obtain ⟨Ao7, co7, eo7⟩ := Kd.R_slice HO272.out; subst eo7))
 go_ret
 exact ⟨by first | rfl | (simp [errW_none, errW_some] <;> rfl) | (simp [*, errW_none, errW_some] <;> rfl), bsv_⟩

end Go.Proofs.Ytpeblomhhofhkaa.H
