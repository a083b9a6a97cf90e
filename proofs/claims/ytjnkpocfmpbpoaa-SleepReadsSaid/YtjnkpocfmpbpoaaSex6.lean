-- PRINTED by print.py (a twelfth state) out of the translation. Not trusted: Lean checks it.
import Derived.Test.YtjnkpocfmpbpoaaSex0
namespace Go.Proofs.Ytjnkpocfmpbpoaa.Se
open Go.Proofs.Ytjnkpocfmpbpoaa.Ho
open Go.RowKit Go.Proofs.YtjnkpocfmpbpoaaW.PrintWords Go.Proofs.YtjnkpocfmpbpoaaW.PrintLast Go.Proofs.YtjnkpocfmpbpoaaW.PrintMore
attribute [local go_sem] max2_int min2_int max_two min_two max_three min_three max_four min_four   -- for this text's walks alone
set_option linter.unusedVariables false
set_option linter.unusedSimpArgs false

-- NOT PRINTED: function 73 (slices_BinarySearchFunc)

/-! ### cmp_isNaN: function 99 -/
def cmp_isNaN.f (a0 : Int) : Option (Bool) := some (a0 != a0)
set_option maxHeartbeats 8000000 in
set_option maxRecDepth 100000 in
theorem cmp_isNaN.calls (a0 : Int) (r : Bool) (w : World) (h : cmp_isNaN.f a0 = some r) :
 Calls Try.prog 99 #[.int .i64 a0] w fun e w' => e = .returned (.bool r) ∧ Drawn0 w w' := by
 have H : (some (a0 != a0)) = some r := h
 clear h
 obtain rfl := Option.some.inj H
 go_enter Try.func99, Try.ntmps99
 go_wp2
 go_ret
 exact ⟨by first | rfl | (simp; done) | (simp [*]; done), by repeat (first | exact Drawn0.refl _ | apply Drawn0.step)⟩

/-! ### cmp_Compare: function 75 -/
def cmp_Compare.f (a0 : Int) (a1 : Int) : Option (Int) := (cmp_isNaN.f a0).bind fun t153 => ((cmp_isNaN.f a1).bind fun t154 => (if t153 = true then (if t154 = true then (some 0) else (some (-1))) else (if t154 = true then (some 1) else (if a0 < a1 then (some (-1)) else (if a0 > a1 then (some 1) else (some 0))))))
set_option maxHeartbeats 8000000 in
set_option maxRecDepth 100000 in
theorem cmp_Compare.calls (a0 : Int) (a1 : Int) (r : Int) (w : World) (h : cmp_Compare.f a0 a1 = some r) :
 Calls Try.prog 75 #[.int .i64 a0, .int .i64 a1] w fun e w' => e = .returned (.int .i64 r) ∧ Drawn0 w w' := by
 have H : ((cmp_isNaN.f a0).bind fun t153 => ((cmp_isNaN.f a1).bind fun t154 => (if t153 = true then (if t154 = true then (some 0) else (some (-1))) else (if t154 = true then (some 1) else (if a0 < a1 then (some (-1)) else (if a0 > a1 then (some 1) else (some 0))))))) = some r := h
 clear h
 replace H := Option.bind_eq_some_iff.mp H
 obtain ⟨t153, A30, H⟩ := H
 have A3 := Aside0.mk A30
 clear A30
 replace H := Option.bind_eq_some_iff.mp H
 obtain ⟨t154, A40, H⟩ := H
 have A4 := Aside0.mk A40
 clear A40
 by_cases c5 : t153 = true
 · subst c5
   rw [if_pos rfl] at H
   by_cases c6 : t154 = true
   · subst c6
     rw [if_pos rfl] at H
     obtain rfl := Option.some.inj H
     go_enter Try.func75, Try.ntmps75
     go_wp2_with (first | ((with_reducible refine gate_callee (f := 99) rfl ?_); refine goesL_ (some 8) rfl rfl Try.func99 (by kernel_rfl) rfl #[.int .i64 a0] rfl mp_ ?_; (with_reducible refine (cmp_isNaN.calls a0 true _ A3.out).mono ?_); rintro e w' ⟨rfl, ⟨nd, rfl⟩⟩; refine ⟨_, rfl, ?_⟩) | ((with_reducible refine gate_callee (f := 99) rfl ?_); refine goesL_ (some 10) rfl rfl Try.func99 (by kernel_rfl) rfl #[.int .i64 a1] rfl mp_ ?_; (with_reducible refine (cmp_isNaN.calls a1 true _ A4.out).mono ?_); rintro e w' ⟨rfl, ⟨nd, rfl⟩⟩; refine ⟨_, rfl, ?_⟩))
     go_ret
     exact ⟨by first | rfl | (simp; done) | (simp [*]; done), by repeat (first | exact Drawn0.refl _ | apply Drawn0.step)⟩
   · replace c6 := Bool.eq_false_iff.mpr c6
     subst c6
     rw [if_neg (show ¬ (false = true) by decide)] at H
     obtain rfl := Option.some.inj H
     go_enter Try.func75, Try.ntmps75
     go_wp2_with (first | ((with_reducible refine gate_callee (f := 99) rfl ?_); refine goesL_ (some 8) rfl rfl Try.func99 (by kernel_rfl) rfl #[.int .i64 a0] rfl mp_ ?_; (with_reducible refine (cmp_isNaN.calls a0 true _ A3.out).mono ?_); rintro e w' ⟨rfl, ⟨nd, rfl⟩⟩; refine ⟨_, rfl, ?_⟩) | ((with_reducible refine gate_callee (f := 99) rfl ?_); refine goesL_ (some 10) rfl rfl Try.func99 (by kernel_rfl) rfl #[.int .i64 a1] rfl mp_ ?_; (with_reducible refine (cmp_isNaN.calls a1 false _ A4.out).mono ?_); rintro e w' ⟨rfl, ⟨nd, rfl⟩⟩; refine ⟨_, rfl, ?_⟩))
     go_ret
     exact ⟨by first | rfl | (simp; done) | (simp [*]; done), by repeat (first | exact Drawn0.refl _ | apply Drawn0.step)⟩
 · replace c5 := Bool.eq_false_iff.mpr c5
   subst c5
   rw [if_neg (show ¬ (false = true) by decide)] at H
   by_cases c7 : t154 = true
   · subst c7
     rw [if_pos rfl] at H
     obtain rfl := Option.some.inj H
     go_enter Try.func75, Try.ntmps75
     go_wp2_with (first | ((with_reducible refine gate_callee (f := 99) rfl ?_); refine goesL_ (some 8) rfl rfl Try.func99 (by kernel_rfl) rfl #[.int .i64 a0] rfl mp_ ?_; (with_reducible refine (cmp_isNaN.calls a0 false _ A3.out).mono ?_); rintro e w' ⟨rfl, ⟨nd, rfl⟩⟩; refine ⟨_, rfl, ?_⟩) | ((with_reducible refine gate_callee (f := 99) rfl ?_); refine goesL_ (some 10) rfl rfl Try.func99 (by kernel_rfl) rfl #[.int .i64 a1] rfl mp_ ?_; (with_reducible refine (cmp_isNaN.calls a1 true _ A4.out).mono ?_); rintro e w' ⟨rfl, ⟨nd, rfl⟩⟩; refine ⟨_, rfl, ?_⟩))
     go_ret
     exact ⟨by first | rfl | (simp; done) | (simp [*]; done), by repeat (first | exact Drawn0.refl _ | apply Drawn0.step)⟩
   · replace c7 := Bool.eq_false_iff.mpr c7
     subst c7
     rw [if_neg (show ¬ (false = true) by decide)] at H
     by_cases c8 : a0 < a1
     · rw [if_pos c8] at H
       have c8b0 : decide (a0 < a1) = true := decide_eq_true c8
       clear c8
       obtain rfl := Option.some.inj H
       go_enter Try.func75, Try.ntmps75
       go_wp2_with (first | ((with_reducible refine gate_callee (f := 99) rfl ?_); refine goesL_ (some 8) rfl rfl Try.func99 (by kernel_rfl) rfl #[.int .i64 a0] rfl mp_ ?_; (with_reducible refine (cmp_isNaN.calls a0 false _ A3.out).mono ?_); rintro e w' ⟨rfl, ⟨nd, rfl⟩⟩; refine ⟨_, rfl, ?_⟩) | ((with_reducible refine gate_callee (f := 99) rfl ?_); refine goesL_ (some 10) rfl rfl Try.func99 (by kernel_rfl) rfl #[.int .i64 a1] rfl mp_ ?_; (with_reducible refine (cmp_isNaN.calls a1 false _ A4.out).mono ?_); rintro e w' ⟨rfl, ⟨nd, rfl⟩⟩; refine ⟨_, rfl, ?_⟩))
       go_ret
       exact ⟨by first | rfl | (simp; done) | (simp [*]; done), by repeat (first | exact Drawn0.refl _ | apply Drawn0.step)⟩
     · rw [if_neg c8] at H
       have c8b0 : decide (a0 < a1) = false := decide_eq_false c8
       clear c8
       by_cases c9 : a0 > a1
       · rw [if_pos c9] at H
         have c9b0 : decide (a1 < a0) = true := decide_eq_true c9
         clear c9
         obtain rfl := Option.some.inj H
         go_enter Try.func75, Try.ntmps75
         go_wp2_with (first | ((with_reducible refine gate_callee (f := 99) rfl ?_); refine goesL_ (some 8) rfl rfl Try.func99 (by kernel_rfl) rfl #[.int .i64 a0] rfl mp_ ?_; (with_reducible refine (cmp_isNaN.calls a0 false _ A3.out).mono ?_); rintro e w' ⟨rfl, ⟨nd, rfl⟩⟩; refine ⟨_, rfl, ?_⟩) | ((with_reducible refine gate_callee (f := 99) rfl ?_); refine goesL_ (some 10) rfl rfl Try.func99 (by kernel_rfl) rfl #[.int .i64 a1] rfl mp_ ?_; (with_reducible refine (cmp_isNaN.calls a1 false _ A4.out).mono ?_); rintro e w' ⟨rfl, ⟨nd, rfl⟩⟩; refine ⟨_, rfl, ?_⟩))
         go_ret
         exact ⟨by first | rfl | (simp; done) | (simp [*]; done), by repeat (first | exact Drawn0.refl _ | apply Drawn0.step)⟩
       · rw [if_neg c9] at H
         have c9b0 : decide (a1 < a0) = false := decide_eq_false c9
         clear c9
         obtain rfl := Option.some.inj H
         go_enter Try.func75, Try.ntmps75
         go_wp2_with (first | ((with_reducible refine gate_callee (f := 99) rfl ?_); refine goesL_ (some 8) rfl rfl Try.func99 (by kernel_rfl) rfl #[.int .i64 a0] rfl mp_ ?_; (with_reducible refine (cmp_isNaN.calls a0 false _ A3.out).mono ?_); rintro e w' ⟨rfl, ⟨nd, rfl⟩⟩; refine ⟨_, rfl, ?_⟩) | ((with_reducible refine gate_callee (f := 99) rfl ?_); refine goesL_ (some 10) rfl rfl Try.func99 (by kernel_rfl) rfl #[.int .i64 a1] rfl mp_ ?_; (with_reducible refine (cmp_isNaN.calls a1 false _ A4.out).mono ?_); rintro e w' ⟨rfl, ⟨nd, rfl⟩⟩; refine ⟨_, rfl, ?_⟩))
         go_ret
         exact ⟨by first | rfl | (simp; done) | (simp [*]; done), by repeat (first | exact Drawn0.refl _ | apply Drawn0.step)⟩

/-! ### sleep_place_1: function 74 -/
def sleep_place_1.f (a0_0 : Int) (a0_1 : Int) (a0_2 : Int) (l0_3 : List (S62)) (l0_4 : List (S80)) (a1 : Int) : Option (Int) := (cmp_Compare.f a0_0 a1).bind fun t156 => (some t156)
set_option maxHeartbeats 8000000 in
set_option maxRecDepth 100000 in
theorem sleep_place_1.calls (a0_0 : Int) (a0_1 : Int) (a0_2 : Int) (A0_3 : Option Addr) (c0_3 : Nat) (l0_3 : List (S62)) (A0_4 : Option Addr) (c0_4 : Nat) (l0_4 : List (S80)) (a1 : Int) (r : Int) (w : World) (hr0_3 : Kd.C k62 w A0_3 l0_3.length l0_3) (hc0_3 : l0_3.length ≤ c0_3) (hr0_4 : Kd.C k80 w A0_4 l0_4.length l0_4) (hc0_4 : l0_4.length ≤ c0_4) (h : sleep_place_1.f a0_0 a0_1 a0_2 l0_3 l0_4 a1 = some r) :
 Calls Try.prog 74 #[.agg #[.int .i64 a0_0, .int .i64 a0_1, .int .i64 a0_2, .slice A0_3 l0_3.length c0_3, .slice A0_4 l0_4.length c0_4], .int .i64 a1] w fun e w' => e = .returned (.int .i64 r) ∧ Below w.heap.size w w' := by
 have hu26 := Try.underlying26
 have HR0_3 := Aside0.mk hr0_3
 have HC0_3 := Aside0.mk hc0_3
 clear hr0_3 hc0_3
 have HR0_4 := Aside0.mk hr0_4
 have HC0_4 := Aside0.mk hc0_4
 clear hr0_4 hc0_4
 have HB := Aside0.mk (Below.refl w.heap.size w)
 have H : ((cmp_Compare.f a0_0 a1).bind fun t156 => (some t156)) = some r := h
 clear h
 replace H := Option.bind_eq_some_iff.mp H
 obtain ⟨t156, A30, H⟩ := H
 have A3 := Aside0.mk A30
 clear A30
 obtain rfl := Option.some.inj H
 go_enter Try.func74, Try.ntmps74
 go_wp2_with (first | ((with_reducible refine gate_dst (N := 2) rfl ?_); refine box_event ?hg (N := 2) ?hd (cs := #[.int .i64 a0_0, .int .i64 a0_1, .int .i64 a0_2, .slice A0_3 l0_3.length c0_3, .slice A0_4 l0_4.length c0_4]) (t := 26) ?hr ?_; (case hd => rfl); (case hg => rfl); (case hr => first | (go_simp; done) | (go_simp; rfl)); intro gb155 hg w4 hbox hb; replace BK155 := Aside0.mk (hbox); replace GW155 := Aside0.mk ((by rw [hg]; exact bsz_ : w.heap.size ≤ gb155)); replace HB := Aside0.mk (bst_ hb); replace GE155 := GW155; clear hb hbox hg; have hcz5_0 : w4.cell? ⟨gb155, 0, none⟩ = some (.int .i64 a0_0) := (blk_cell BK155.out 0).trans rfl; have hcz5_1 : w4.cell? ⟨gb155, 1, none⟩ = some (.int .i64 a0_1) := (blk_cell BK155.out 1).trans rfl; have hcz5_2 : w4.cell? ⟨gb155, 2, none⟩ = some (.int .i64 a0_2) := (blk_cell BK155.out 2).trans rfl; have hcz5_3 : w4.cell? ⟨gb155, 3, none⟩ = some (.slice A0_3 l0_3.length c0_3) := (blk_cell BK155.out 3).trans rfl; have hcz5_4 : w4.cell? ⟨gb155, 4, none⟩ = some (.slice A0_4 l0_4.length c0_4) := (blk_cell BK155.out 4).trans rfl; have hfz5_0 := blk_frozen BK155.out 0; have hfz5_1 := blk_frozen BK155.out 1; have hfz5_2 := blk_frozen BK155.out 2; have hfz5_3 := blk_frozen BK155.out 3; have hfz5_4 := blk_frozen BK155.out 4) | ((with_reducible refine gate_callee (f := 75) rfl ?_); refine goesL_ (some 8) rfl rfl Try.func75 (by kernel_rfl) rfl #[.int .i64 a0_0, .int .i64 a1] rfl mp_ ?_; (with_reducible refine (cmp_Compare.calls a0_0 a1 t156 _ A3.out).mono ?_); rintro e w' ⟨rfl, ⟨nd, rfl⟩⟩; refine ⟨_, rfl, ?_⟩))
 go_ret
 exact ⟨by first | rfl | (simp [errW_none, errW_some] <;> rfl) | (simp [*, errW_none, errW_some] <;> rfl), bsw_⟩

/-! ### slices_BinarySearchFunc_at_sleep_place_1: function 73 -/
def slices_BinarySearchFunc_at_sleep_place_1.l0 : Nat → List (S26) → Int → Int → Int → Int → Option (Int × Bool)
 | 0, _, _, _, _, _ => none
 | k + 1, x0, x1, x8, x9, x10 => if x9 < x10 then (if 0 ≤ (wrap64 ((IntKind.u64.wrap (wrap64 (x9 + x10))) / 2)) then (if (wrap64 ((IntKind.u64.wrap (wrap64 (x9 + x10))) / 2)) < (x0.length : Int) then ((sleep_place_1.f ((rd_T26 x0 (wrap64 ((IntKind.u64.wrap (wrap64 (x9 + x10))) / 2))).f0) ((rd_T26 x0 (wrap64 ((IntKind.u64.wrap (wrap64 (x9 + x10))) / 2))).f1) ((rd_T26 x0 (wrap64 ((IntKind.u64.wrap (wrap64 (x9 + x10))) / 2))).f2) ((rd_T26 x0 (wrap64 ((IntKind.u64.wrap (wrap64 (x9 + x10))) / 2))).f3) ((rd_T26 x0 (wrap64 ((IntKind.u64.wrap (wrap64 (x9 + x10))) / 2))).f4) x1).bind fun t158 => (if t158 < 0 then (slices_BinarySearchFunc_at_sleep_place_1.l0 k x0 x1 x8 (wrap64 ((wrap64 ((IntKind.u64.wrap (wrap64 (x9 + x10))) / 2)) + 1)) x10) else (slices_BinarySearchFunc_at_sleep_place_1.l0 k x0 x1 x8 x9 (wrap64 ((IntKind.u64.wrap (wrap64 (x9 + x10))) / 2))))) else (none)) else (none)) else (if x9 < x8 then (if 0 ≤ x9 then (if x9 < (x0.length : Int) then ((sleep_place_1.f ((rd_T26 x0 x9).f0) ((rd_T26 x0 x9).f1) ((rd_T26 x0 x9).f2) ((rd_T26 x0 x9).f3) ((rd_T26 x0 x9).f4) x1).bind fun t160 => (some (x9, (t160 == 0)))) else (none)) else (none)) else (some (x9, false)))
def slices_BinarySearchFunc_at_sleep_place_1.f (k : Nat) (l0 : List (S26)) (a1 : Int)  : Option (Int × Bool) := slices_BinarySearchFunc_at_sleep_place_1.l0 k l0 a1 (l0.length : Int) 0 (l0.length : Int)
theorem slices_BinarySearchFunc_at_sleep_place_1.mono_l : ∀ k, (∀ y0 y1 y2 y3 y4, LeO (slices_BinarySearchFunc_at_sleep_place_1.l0 k y0 y1 y2 y3 y4) (slices_BinarySearchFunc_at_sleep_place_1.l0 (k + 1) y0 y1 y2 y3 y4))
 | 0 => fun _ _ _ _ _ r h => by simp [slices_BinarySearchFunc_at_sleep_place_1.l0] at h
 | k + 1 => by
  have ih0 := slices_BinarySearchFunc_at_sleep_place_1.mono_l k
  · intro y0 y1 y2 y3 y4
    unfold slices_BinarySearchFunc_at_sleep_place_1.l0
    repeat' first
    | (with_reducible exact ih0 _ _ _ _ _)
    | (with_reducible exact LeO.refl _)
    | (with_reducible exact LeO.none _)
    | (with_reducible refine LeO.ite ?_ ?_)
    | (with_reducible refine LeO.bind ?_ (fun _ => ?_))
    | exact ih0 _ _ _ _ _
    | exact LeO.none _
    | refine LeO.ite ?_ ?_
    | refine LeO.bind ?_ (fun _ => ?_)
theorem slices_BinarySearchFunc_at_sleep_place_1.mono : ∀ a0 a1 k, LeO (slices_BinarySearchFunc_at_sleep_place_1.f k a0 a1) (slices_BinarySearchFunc_at_sleep_place_1.f (k + 1) a0 a1) := by
 intro a0 a1 k
 have ih0 := slices_BinarySearchFunc_at_sleep_place_1.mono_l k
 unfold slices_BinarySearchFunc_at_sleep_place_1.f
 repeat' first
  | (with_reducible exact ih0 _ _ _ _ _)
  | (with_reducible exact LeO.refl _)
  | (with_reducible exact LeO.none _)
  | (with_reducible refine LeO.ite ?_ ?_)
  | (with_reducible refine LeO.bind ?_ (fun _ => ?_))
  | exact ih0 _ _ _ _ _
  | exact LeO.none _
  | refine LeO.ite ?_ ?_
  | refine LeO.bind ?_ (fun _ => ?_)
set_option maxHeartbeats 8000000 in
set_option maxRecDepth 100000 in
theorem slices_BinarySearchFunc_at_sleep_place_1.calls (k : Nat) (A0 : Option Addr) (c0 : Nat) (l0 : List (S26)) (a1 : Int)  (r1 : Int) (r2 : Bool) (w : World) (hr0 : Kd.C k26 w A0 l0.length l0) (hc0 : l0.length ≤ c0) (h : slices_BinarySearchFunc_at_sleep_place_1.f k l0 a1 = some (r1, r2)) :
 Calls Try.prog 73 #[.slice A0 l0.length c0, .int .i64 a1, .func (.func 74) #[] #[]] w fun e w' => e = .returned (.tuple #[.int .i64 r1, .bool r2]) ∧ Below w.heap.size w w' := by
 have hu26 := Try.underlying26
 have HR0 := Aside0.mk hr0
 have HC0 := Aside0.mk hc0
 clear hr0 hc0
 have HB := Aside0.mk (Below.refl w.heap.size w)
 have H : (slices_BinarySearchFunc_at_sleep_place_1.l0 k l0 a1 (l0.length : Int) 0 (l0.length : Int)) = some (r1, r2) := h
 clear h
 have H' := Aside0.mk H
 clear H
 go_enter Try.func73, Try.ntmps73
 go_wp2
 go_loopg [9, 10] k (fun kq v9 v10 w' => ∃ (x9_1 : Int) (x10_1 : Int), v9 = .int .i64 x9_1 ∧ v10 = .int .i64 x10_1 ∧ Aside0 (slices_BinarySearchFunc_at_sleep_place_1.l0 kq l0 a1 (l0.length : Int) x9_1 x10_1 = some (r1, r2)) ∧ Aside0 (kq ≤ k) ∧ Aside0 (Below w.heap.size w w'))
 case atStart => exact ⟨(0), ((l0.length : Int)), (by first | rfl | (simp; done) | (simp [*]; done)), (by first | rfl | (simp; done) | (simp [*]; done)), H', ⟨Nat.le_refl _⟩, ⟨bsv_⟩⟩
 case round =>
  clear H'
  try clear p2
  obtain ⟨x9_1, x10_1, rfl, rfl, HA, HK1, HB⟩ := hrel
  cases gk with
  | zero => exact absurd HA.out (by simp [slices_BinarySearchFunc_at_sleep_place_1.l0])
  | succ k1 =>
   have H := HA.out
   clear HA
   simp only [slices_BinarySearchFunc_at_sleep_place_1.l0] at H
   by_cases c4 : x9_1 < x10_1
   · rw [if_pos c4] at H
     have c4b0 : decide (x9_1 < x10_1) = true := decide_eq_true c4
     clear c4
     obtain ⟨ji5, hji5⟩ : ∃ j_ : Int, (wrap64 ((IntKind.u64.wrap (wrap64 (x9_1 + x10_1))) / 2)) = j_ := ⟨_, rfl⟩
     replace H : (if 0 ≤ (ji5) then (if (ji5) < (l0.length : Int) then ((sleep_place_1.f ((rd_T26 l0 (ji5)).f0) ((rd_T26 l0 (ji5)).f1) ((rd_T26 l0 (ji5)).f2) ((rd_T26 l0 (ji5)).f3) ((rd_T26 l0 (ji5)).f4) a1).bind fun t158 => (if t158 < 0 then (slices_BinarySearchFunc_at_sleep_place_1.l0 k1 l0 a1 (l0.length : Int) (wrap64 ((ji5) + 1)) x10_1) else (slices_BinarySearchFunc_at_sleep_place_1.l0 k1 l0 a1 (l0.length : Int) x9_1 ji5))) else (none)) else (none)) = some (r1, r2) := by first | (rw [hji5] at H; exact H) | (simp only [hji5] at H ⊢; exact H)
     have hji5w : (IntKind.i64.wrap ((IntKind.u64.wrap (wrap64 (x9_1 + x10_1))) / 2)) = ji5 := (i64_w _).trans hji5
     by_cases c6 : 0 ≤ (ji5)
     · rw [if_pos c6] at H
       have c6b0 : decide (0 ≤ (ji5)) = true := decide_eq_true c6
       clear c6
       by_cases c7 : (ji5) < (l0.length : Int)
       · rw [if_pos c7] at H
         have c7b0 : decide ((ji5) < (l0.length : Int)) = true := decide_eq_true c7
         clear c7
         replace H := Option.bind_eq_some_iff.mp H
         obtain ⟨t158, A80, H⟩ := H
         have A8 := Aside0.mk A80
         clear A80
         by_cases c9 : t158 < 0
         · rw [if_pos c9] at H
           have c9b0 : decide (t158 < 0) = true := decide_eq_true c9
           clear c9
           have H' := Aside0.mk H
           clear H
           have p157 : 0 ≤ ((ji5) : Int) := oda_
           have q157 : (ji5) < (l0.length : Int) := oda_
           obtain ⟨ad157, A157_3, c157_3, A157_4, c157_4, e157, hx157_0, hx157_1, hx157_2, hx157_3, hx157_4, hl157_3, hi157_3, hl157_4, hi157_4⟩ := at_T26 HR0.out (ji5) p157 q157
           cases e157
           replace hx157_0 := (HB.out.cell (World.block_lt_of_cell? w _ hx157_0)).trans hx157_0
           replace hx157_1 := (HB.out.cell (World.block_lt_of_cell? w _ hx157_1)).trans hx157_1
           replace hx157_2 := (HB.out.cell (World.block_lt_of_cell? w _ hx157_2)).trans hx157_2
           replace hx157_3 := (HB.out.cell (World.block_lt_of_cell? w _ hx157_3)).trans hx157_3
           replace hx157_4 := (HB.out.cell (World.block_lt_of_cell? w _ hx157_4)).trans hx157_4
           have HR157_3 := Aside0.mk hi157_3
           have HC157_3 := Aside0.mk hl157_3
           clear hi157_3 hl157_3
           have HR157_4 := Aside0.mk hi157_4
           have HC157_4 := Aside0.mk hl157_4
           clear hi157_4 hl157_4
           replace p157 := eq_true p157
           replace q157 := eq_true q157
           go_wp2_with (first | (go_at_call 74; (with_reducible refine (sleep_place_1.calls ((rd_T26 l0 (ji5)).f0) ((rd_T26 l0 (ji5)).f1) ((rd_T26 l0 (ji5)).f2) _ _ ((rd_T26 l0 (ji5)).f3) _ _ ((rd_T26 l0 (ji5)).f4) a1 t158 _ ?side1 ?side2 ?side3 ?side4 A8.out).mono ?_); (case side1 => repeat (first | exact (Kd.C_below HR157_3.out HB.out) | with_reducible first | refine Kd.C_alloc ?_ _ | refine Kd.C_drewN ?_ _ | refine Kd.C_drew ?_)); (case side2 => exact HC157_3.out); (case side3 => repeat (first | exact (Kd.C_below HR157_4.out HB.out) | with_reducible first | refine Kd.C_alloc ?_ _ | refine Kd.C_drewN ?_ _ | refine Kd.C_drew ?_)); (case side4 => exact HC157_4.out); rintro e w10 ⟨rfl, hb⟩; replace HB := Aside0.mk (bst_ hb); (try clear hb); (try clear hb2); (try clear hk); (try clear hi)))
           go_roundg k1
           case measure => have := HK1.out; omega
           case rel => exact ⟨(wrap64 ((ji5) + 1)), (x10_1), (by first | rfl | (simp; done) | (simp only [← hji5] <;> (first | rfl | simp)) | (simp [*]; done)), (by first | rfl | (simp; done) | (simp [*]; done)), H', ⟨by have := HK1.out; omega⟩, ⟨bsv_⟩⟩
         · rw [if_neg c9] at H
           have c9b0 : decide (t158 < 0) = false := decide_eq_false c9
           clear c9
           have H' := Aside0.mk H
           clear H
           have p157 : 0 ≤ ((ji5) : Int) := oda_
           have q157 : (ji5) < (l0.length : Int) := oda_
           obtain ⟨ad157, A157_3, c157_3, A157_4, c157_4, e157, hx157_0, hx157_1, hx157_2, hx157_3, hx157_4, hl157_3, hi157_3, hl157_4, hi157_4⟩ := at_T26 HR0.out (ji5) p157 q157
           cases e157
           replace hx157_0 := (HB.out.cell (World.block_lt_of_cell? w _ hx157_0)).trans hx157_0
           replace hx157_1 := (HB.out.cell (World.block_lt_of_cell? w _ hx157_1)).trans hx157_1
           replace hx157_2 := (HB.out.cell (World.block_lt_of_cell? w _ hx157_2)).trans hx157_2
           replace hx157_3 := (HB.out.cell (World.block_lt_of_cell? w _ hx157_3)).trans hx157_3
           replace hx157_4 := (HB.out.cell (World.block_lt_of_cell? w _ hx157_4)).trans hx157_4
           have HR157_3 := Aside0.mk hi157_3
           have HC157_3 := Aside0.mk hl157_3
           clear hi157_3 hl157_3
           have HR157_4 := Aside0.mk hi157_4
           have HC157_4 := Aside0.mk hl157_4
           clear hi157_4 hl157_4
           replace p157 := eq_true p157
           replace q157 := eq_true q157
           go_wp2_with (first | (go_at_call 74; (with_reducible refine (sleep_place_1.calls ((rd_T26 l0 (ji5)).f0) ((rd_T26 l0 (ji5)).f1) ((rd_T26 l0 (ji5)).f2) _ _ ((rd_T26 l0 (ji5)).f3) _ _ ((rd_T26 l0 (ji5)).f4) a1 t158 _ ?side1 ?side2 ?side3 ?side4 A8.out).mono ?_); (case side1 => repeat (first | exact (Kd.C_below HR157_3.out HB.out) | with_reducible first | refine Kd.C_alloc ?_ _ | refine Kd.C_drewN ?_ _ | refine Kd.C_drew ?_)); (case side2 => exact HC157_3.out); (case side3 => repeat (first | exact (Kd.C_below HR157_4.out HB.out) | with_reducible first | refine Kd.C_alloc ?_ _ | refine Kd.C_drewN ?_ _ | refine Kd.C_drew ?_)); (case side4 => exact HC157_4.out); rintro e w11 ⟨rfl, hb⟩; replace HB := Aside0.mk (bst_ hb); (try clear hb); (try clear hb2); (try clear hk); (try clear hi)))
           go_roundg k1
           case measure => have := HK1.out; omega
           case rel => exact ⟨(x9_1), (ji5), (by first | rfl | (simp; done) | (simp [*]; done)), (by first | rfl | (simp; done) | (simp only [← hji5] <;> (first | rfl | simp)) | (simp [*]; done)), H', ⟨by have := HK1.out; omega⟩, ⟨bsv_⟩⟩
       · rw [if_neg c7] at H
         exact absurd H (by simp)
     · rw [if_neg c6] at H
       exact absurd H (by simp)
   · rw [if_neg c4] at H
     have c4b0 : decide (x9_1 < x10_1) = false := decide_eq_false c4
     clear c4
     by_cases c12 : x9_1 < (l0.length : Int)
     · rw [if_pos c12] at H
       have c12b0 : decide (x9_1 < (l0.length : Int)) = true := decide_eq_true c12
       clear c12
       by_cases c13 : 0 ≤ x9_1
       · rw [if_pos c13] at H
         have c13b0 : decide (0 ≤ x9_1) = true := decide_eq_true c13
         clear c13
         by_cases c14 : x9_1 < (l0.length : Int)
         · rw [if_pos c14] at H
           have c14b0 : decide (x9_1 < (l0.length : Int)) = true := decide_eq_true c14
           clear c14
           replace H := Option.bind_eq_some_iff.mp H
           obtain ⟨t160, A150, H⟩ := H
           have A15 := Aside0.mk A150
           clear A150
           simp only [Option.some.injEq, Prod.mk.injEq] at H
           obtain ⟨rfl, rfl⟩ := H
           have p159 : 0 ≤ (x9_1 : Int) := oda_
           have q159 : x9_1 < (l0.length : Int) := oda_
           obtain ⟨ad159, A159_3, c159_3, A159_4, c159_4, e159, hx159_0, hx159_1, hx159_2, hx159_3, hx159_4, hl159_3, hi159_3, hl159_4, hi159_4⟩ := at_T26 HR0.out x9_1 p159 q159
           cases e159
           replace hx159_0 := (HB.out.cell (World.block_lt_of_cell? w _ hx159_0)).trans hx159_0
           replace hx159_1 := (HB.out.cell (World.block_lt_of_cell? w _ hx159_1)).trans hx159_1
           replace hx159_2 := (HB.out.cell (World.block_lt_of_cell? w _ hx159_2)).trans hx159_2
           replace hx159_3 := (HB.out.cell (World.block_lt_of_cell? w _ hx159_3)).trans hx159_3
           replace hx159_4 := (HB.out.cell (World.block_lt_of_cell? w _ hx159_4)).trans hx159_4
           have HR159_3 := Aside0.mk hi159_3
           have HC159_3 := Aside0.mk hl159_3
           clear hi159_3 hl159_3
           have HR159_4 := Aside0.mk hi159_4
           have HC159_4 := Aside0.mk hl159_4
           clear hi159_4 hl159_4
           replace p159 := eq_true p159
           replace q159 := eq_true q159
           go_wp2_with (first | (go_at_call 74; (with_reducible refine (sleep_place_1.calls ((rd_T26 l0 x9_1).f0) ((rd_T26 l0 x9_1).f1) ((rd_T26 l0 x9_1).f2) _ _ ((rd_T26 l0 x9_1).f3) _ _ ((rd_T26 l0 x9_1).f4) a1 t160 _ ?side1 ?side2 ?side3 ?side4 A15.out).mono ?_); (case side1 => repeat (first | exact (Kd.C_below HR159_3.out HB.out) | with_reducible first | refine Kd.C_alloc ?_ _ | refine Kd.C_drewN ?_ _ | refine Kd.C_drew ?_)); (case side2 => exact HC159_3.out); (case side3 => repeat (first | exact (Kd.C_below HR159_4.out HB.out) | with_reducible first | refine Kd.C_alloc ?_ _ | refine Kd.C_drewN ?_ _ | refine Kd.C_drew ?_)); (case side4 => exact HC159_4.out); rintro e w16 ⟨rfl, hb⟩; replace HB := Aside0.mk (bst_ hb); (try clear hb); (try clear hb2); (try clear hk); (try clear hi)))
           go_ret2
           exact ⟨by first | rfl | (simp [errW_none, errW_some] <;> rfl) | (simp [*, errW_none, errW_some] <;> rfl), bsv_⟩
         · rw [if_neg c14] at H
           exact absurd H (by simp)
       · rw [if_neg c13] at H
         exact absurd H (by simp)
     · rw [if_neg c12] at H
       have c12b0 : decide (x9_1 < (l0.length : Int)) = false := decide_eq_false c12
       clear c12
       simp only [Option.some.injEq, Prod.mk.injEq] at H
       obtain ⟨rfl, rfl⟩ := H
       go_wp2
       go_ret2
       exact ⟨by first | rfl | (simp [errW_none, errW_some] <;> rfl) | (simp [*, errW_none, errW_some] <;> rfl), bsv_⟩

/-! ### sleep_place: function 42 -/
def sleep_place.f (k : Nat) (l0 : List (S26)) (a1 : Int) : Option (Int × Bool) := (slices_BinarySearchFunc_at_sleep_place_1.f k l0 a1).bind fun bt161 => (some (bt161.1, bt161.2))
theorem sleep_place.mono : ∀ a0 a1 k, LeO (sleep_place.f k a0 a1) (sleep_place.f (k + 1) a0 a1) := by
 intro a0 a1 k
 unfold sleep_place.f
 repeat' first
  | (with_reducible exact slices_BinarySearchFunc_at_sleep_place_1.mono _ _ _)
  | (with_reducible exact LeO.refl _)
  | (with_reducible exact LeO.none _)
  | (with_reducible refine LeO.ite ?_ ?_)
  | (with_reducible refine LeO.bind ?_ (fun _ => ?_))
  | exact slices_BinarySearchFunc_at_sleep_place_1.mono _ _ _
  | exact LeO.none _
  | refine LeO.ite ?_ ?_
  | refine LeO.bind ?_ (fun _ => ?_)
set_option maxHeartbeats 8000000 in
set_option maxRecDepth 100000 in
theorem sleep_place.calls (k : Nat) (A0 : Option Addr) (c0 : Nat) (l0 : List (S26)) (a1 : Int) (r1 : Int) (r2 : Bool) (w : World) (hr0 : Kd.C k26 w A0 l0.length l0) (hc0 : l0.length ≤ c0) (h : sleep_place.f k l0 a1 = some (r1, r2)) :
 Calls Try.prog 42 #[.slice A0 l0.length c0, .int .i64 a1] w fun e w' => e = .returned (.tuple #[.int .i64 r1, .bool r2]) ∧ Below w.heap.size w w' := by
 have HR0 := Aside0.mk hr0
 have HC0 := Aside0.mk hc0
 clear hr0 hc0
 have HB := Aside0.mk (Below.refl w.heap.size w)
 have H : ((slices_BinarySearchFunc_at_sleep_place_1.f k l0 a1).bind fun bt161 => (some (bt161.1, bt161.2))) = some (r1, r2) := h
 clear h
 replace H := Option.bind_eq_some_iff.mp H
 obtain ⟨⟨t161, t162⟩, A30, H⟩ := H
 have A3 := Aside0.mk A30
 clear A30
 simp only [Option.some.injEq, Prod.mk.injEq] at H
 obtain ⟨rfl, rfl⟩ := H
 go_enter Try.func42, Try.ntmps42
 go_wp2_with (first | ((with_reducible refine gate_callee (f := 73) rfl ?_); refine goesL_ (some 8) rfl rfl Try.func73 (by kernel_rfl) rfl #[.slice A0 l0.length c0, .int .i64 a1, .func (.func 74) #[] #[]] rfl mp_ ?_; (with_reducible refine (slices_BinarySearchFunc_at_sleep_place_1.calls k _ _ l0 a1 t161 t162 _ ?side1 ?side2 A3.out).mono ?_); (case side1 => repeat (first | exact HR0.out | with_reducible first | refine Kd.C_alloc ?_ _ | refine Kd.C_drewN ?_ _ | refine Kd.C_drew ?_)); (case side2 => exact HC0.out); rintro e w4 ⟨rfl, hb⟩; refine ⟨_, rfl, ?_⟩; replace HB := Aside0.mk (bst_ hb); (try clear hb); (try clear hb2); (try clear hk); (try clear hi)))
 go_ret2
 exact ⟨by first | rfl | (simp [errW_none, errW_some] <;> rfl) | (simp [*, errW_none, errW_some] <;> rfl), bsv_⟩

/-! ### slices_Insert: function 43: the library's -/
set_option maxHeartbeats 4000000 in
set_option maxRecDepth 100000 in
theorem slices_Insert.shift (g n c i vb vc : Nat) (cs vs : List Value) (w : World) (hi : i < n) (hroom : n + 1 ≤ c) (hc63 : c ≤ 9223372036854775807) (hvb : vb ≠ g) (hcl : cs.length = n * 5) (hvl : vs.length = 5)
 (hcs : ∀ j v, cs[j]? = some v → w.cell? ⟨g, j, none⟩ = some v) (hsp : ∀ j, j < n * 5 + 5 → (w.cell? ⟨g, j, none⟩).isSome = true) (hfz : ∀ j, w.frozen? ⟨g, j, none⟩ = false)
 (hvs : ∀ j v, vs[j]? = some v → w.cell? ⟨vb, j, none⟩ = some v) (h1c : ∀ v ∈ cs, v.oneCell' = true) (h1v : ∀ v ∈ vs, v.oneCell' = true)
 (tA tB : TypeId) (kA kB : Nat) (hsa : w.shape? vb = some (tA, kA)) (hsb : w.shape? g = some (tB, kB)) (hkB : kB ≠ 0) (hfa : ∀ j, w.frozen? ⟨vb, j, none⟩ = false) :
 Calls Try.prog 43 #[.slice (some ⟨g, 0, none⟩) n c, .int .i64 i, .slice (some ⟨vb, 0, none⟩) 1 vc] w fun e w' =>
  e = .returned (.slice (some ⟨g, 0, none⟩) (n + 1) c) ∧ w' = (w.drew.setCells g ((i + 1) * 5) (cs.drop (i * 5))).setCells g (i * 5) vs := by
 have mixed : Try.prog.follows .mixedOrders = true := by kernel_rfl
 have hz2 : ¬ ((i : Int) = (n : Int)) := by omega
 have hsz : (Try.prog.info? 26).map (·.size) = some 5 := by kernel_rfl
 have hov : ∀ lb cb, (callFunc 76 #[.slice (some ⟨vb, 0, none⟩) 1 vc, .slice (some ⟨g, (i + 1) * 5, none⟩) lb cb]).run Try.prog w = .ok (.value (.bool false)) w := fun lb cb => by
  rw [run_callFunc_extern Try.func76 (by kernel_rfl) (by kernel_rfl) (by kernel_rfl) (e := Extern.SlicesOverlaps.overlaps #[22, 22] #[4]) (by kernel_rfl),
   Lib.run_overlaps_apart w 22 4 26 Try.underlying22 5 Try.sizeOf26 ⟨vb, 0, none⟩ ⟨g, (i + 1) * 5, none⟩ 1 vc lb cb hvb tA tB kA kB hsa hsb hkB (hfa _) (hfa _)]
  rfl
 have hdl : (cs.drop (i * 5)).length = (n - i) * 5 := by rw [List.length_drop, hcl]; omega
 have hw1 : IntKind.i64.wrap ((i : Int) + 1) = (i : Int) + 1 := by rw [IntKind.wrap_i64]; omega
 have hw2 : IntKind.i64.wrap ((n : Int) + 1) = (n : Int) + 1 := by rw [IntKind.wrap_i64]; omega
 have hb1 : (0 : Int) ≤ (i : Int) + 1 := by omega
 have hb0 : (0 : Int) ≤ (n : Int) + 1 := by omega
 have hin : i ≤ n := by omega
 have hb2 : ¬ (c = i + 1) := by omega
 have hb3 : (i : Int) ≤ (n : Int) + 1 := by omega
 have hb4 : ¬ (c = i) := by omega
 have hb5 : ¬ ((c : Int) < (n : Int) + 1) := by omega
 have hb6 : (n : Int) + 1 ≤ (c : Int) := by omega
 have hcp1 : ∀ ty dc sc, (Builtin.copy_ #[22, 22] ty #[.slice (some ⟨g, (i + 1) * 5, none⟩) (n - i) dc, .slice (some ⟨g, i * 5, none⟩) (n + 1 - i) sc]).run Try.prog w.drew = .ok (goInt (Nat.min (n + 1 - i) (n - i))) (w.drew.setCells g ((i + 1) * 5) (cs.drop (i * 5))) := fun ty dc sc =>
  Ins.copy_cells w.drew _ _ ty 26 5 g ((i + 1) * 5) (n - i) dc ⟨g, i * 5, none⟩ (n + 1 - i) sc (cs.drop (i * 5)) Try.underlying22 hsz (by rw [hdl]; simp only [Nat.min_def]; split <;> omega)
   (fun j v hj => by rw [Addr.add_lit]; exact hcs (i * 5 + j) v (by rwa [List.getElem?_drop] at hj))
   (fun j hj => hsp _ (by omega)) (fun j hj => hfz _) (fun v hv => h1c v (List.mem_of_mem_drop hv))
 obtain ⟨W1, hW1⟩ : ∃ W1, W1 = w.drew.setCells g ((i + 1) * 5) (cs.drop (i * 5)) := ⟨_, rfl⟩
 have hsp1 : ∀ k, k < n * 5 + 5 → (W1.cell? ⟨g, k, none⟩).isSome = true := fun k hk => by
  rw [hW1]
  exact isSome_setCells g (cs.drop (i * 5)) ((i + 1) * 5) w.drew (fun j hj => hsp _ (by rw [hdl] at hj; omega)) k (hsp k hk)
 have hcp2 : ∀ (W : World), (∀ x, W.cell? x = W1.cell? x) → (∀ x, W.frozen? x = W1.frozen? x) → ∀ ty dc, (Builtin.copy_ #[22, 22] ty #[.slice (some ⟨g, i * 5, none⟩) (n + 1 - i) dc, .slice (some ⟨vb, 0, none⟩) 1 vc]).run Try.prog W = .ok (goInt (Nat.min 1 (n + 1 - i))) (W.setCells g (i * 5) vs) := fun W hWc hWf ty dc =>
  Ins.copy_cells W _ _ ty 26 5 g (i * 5) (n + 1 - i) dc ⟨vb, 0, none⟩ 1 vc vs Try.underlying22 hsz (by rw [hvl]; simp only [Nat.min_def]; split <;> omega)
   (fun j v hj => by
    rw [Addr.add_lit, hWc, hW1, World.cell?_setCells_out g _ _ _ _ (fun h _ => absurd h hvb), Nat.zero_add]
    exact hvs j v hj)
   (fun j hj => by rw [hWc]; exact hsp1 _ (by omega)) (fun j hj => by rw [hWf, hW1, World.frozen?_setCells]; exact hfz _) h1v
 rw [← hW1] at hcp1 ⊢
 go_enter Try.func43, Try.ntmps43
 go_wp2_with (simp only [hov])
 go_region_law_o (refine step_copy_runI rfl _ _ 22 22 rfl _ _ (by simp [Act.eval, Act.put]) (by simp [Act.eval, Act.put]) (hcp1 _ _ _) ?_)
 go_wp2_with (at_builtin; refine wpList_copy_runI _ rfl _ _ 22 22 rfl _ _ rfl rfl (hcp2 _ (fun _ => rfl) (fun _ => rfl) _ _) ?_)
 go_ret
 exact ⟨rfl, by rw [hW1]⟩
set_option maxHeartbeats 4000000 in
set_option maxRecDepth 100000 in
theorem slices_Insert.grow (g n c i vb vc : Nat) (cs vs : List Value) (w : World) (hi : i < n) (hnc : n ≤ c) (hroom : c < n + 1) (hbig : (n + 1) * 72 ≤ 140737488355328) (hcl : cs.length = n * 5) (hvl : vs.length = 5)
 (hcs : ∀ j v, cs[j]? = some v → w.cell? ⟨g, j, none⟩ = some v) (hvs : ∀ j v, vs[j]? = some v → w.cell? ⟨vb, j, none⟩ = some v) (h1c : ∀ v ∈ cs, v.oneCell' = true) (h1v : ∀ v ∈ vs, v.oneCell' = true) :
 Calls Try.prog 43 #[.slice (some ⟨g, 0, none⟩) n c, .int .i64 i, .slice (some ⟨vb, 0, none⟩) 1 vc] w fun e w' =>
  ∃ (G : Nat) (ROW : Array Value), n + 1 ≤ G ∧ G ≤ 9223372036854775807 ∧ ROW.size = G * 5 ∧ ROW.toList.take (i * 5) = cs.take (i * 5) ∧ e = .returned (.slice (some ⟨w.heap.size, 0, none⟩) (n + 1) G) ∧
  w' = (((w.alloc (.cells ROW 26)).drew.setCells w.heap.size (i * 5) vs).drew).setCells w.heap.size ((i + 1) * 5) (cs.drop (i * 5)) := by
 have mixed : Try.prog.follows .mixedOrders = true := by kernel_rfl
 have hz2 : ¬ ((i : Int) = (n : Int)) := by omega
 have hz3 : (c : Int) < (n : Int) + 1 := by omega
 have hinfo : (Try.prog.info? 26).map (fun i => (i.zero, i.size, i.bytes)) = some (some (.agg #[(.int .i64 0), (.int .i64 0), (.int .i64 0), (.slice none 0 0), (.slice none 0 0)]), 5, 72) := by kernel_rfl
 obtain ⟨i0, hi0, hz0, hzs, hzb⟩ := info_parts hinfo
 have hsz : (Try.prog.info? 26).map (·.size) = some 5 := by kernel_rfl
 obtain ⟨Z, hZ⟩ : ∃ Z : Value, Z = (.agg #[(.int .i64 0), (.int .i64 0), (.int .i64 0), (.slice none 0 0), (.slice none 0 0)]) := ⟨_, rfl⟩
 have hZs : Z.cells.size = 5 := by rw [hZ]; rfl
 rw [← hZ] at hz0
 have hbw : g < w.heap.size := block_lt_of_cell (hcs 0 _ (List.getElem?_eq_getElem (by omega)))
 have hvw : vb < w.heap.size := block_lt_of_cell (hvs 0 _ (List.getElem?_eq_getElem (by omega)))
 have hik : i + (n + 1 - i) = n + 1 := by omega
 have hkk : (n : Int) + 1 - (i : Int) = ((n + 1 - i : Nat) : Int) := by omega
 have htl : (cs.take (i * 5)).length = i * 5 := by rw [List.length_take]; omega
 have hold : (Builtin.firstCells i0.size i (.slice (some ⟨g, 0, none⟩) i c)).run Try.prog w.drew = .ok (cs.take (i * 5)).toArray w.drew := by
  rw [hzs]
  exact run_firstCells_some w.drew 5 i ⟨g, 0, none⟩ i c (cs.take (i * 5)) (by rw [htl]) (fun j v hj => by
   rw [Addr.add_lit, Nat.zero_add]
   rw [List.getElem?_take] at hj
   split at hj
   · exact hcs j v hj
   · cases hj)
 have hrz : ∀ ty, (Builtin.append_ #[22, 3] ty #[.slice (some ⟨g, 0, none⟩) i c, .int .i64 ((n : Int) + 1 - (i : Int))]).run Try.prog w =
  .ok (.slice (some ⟨w.heap.size, 0, none⟩) (n + 1) (grownCap w (n + 1) c 26)) (w.drew.alloc (.cells ((cs.take (i * 5)).toArray ++ Builtin.zeroCells Z.cells (n + 1 - i) ++ Builtin.zeroCells Z.cells (grownCap w (n + 1) c 26 - (n + 1))) 26)) := fun ty => by
  have h := Lib.run_append_grow_zeros w 22 3 ty 26 i0 _ .i64 .i64 Try.underlying22 Try.underlying3 hi0 hz0 (some ⟨g, 0, none⟩) i c (cs.take (i * 5)) hold (n + 1 - i) (by omega) (by omega) (by omega) (by omega) (by rw [hzb]; omega) (by rw [hzb, hik]; exact growslice_fits hroom hbig)
  rw [hik] at h
  rw [hkk]
  exact h
 obtain ⟨G, hG⟩ : ∃ G, G = grownCap w (n + 1) c 26 := ⟨_, rfl⟩
 obtain ⟨ROW, hROW⟩ : ∃ ROW : Array Value, ROW = (cs.take (i * 5)).toArray ++ Builtin.zeroCells Z.cells (n + 1 - i) ++ Builtin.zeroCells Z.cells (G - (n + 1)) := ⟨_, rfl⟩
 have hGn : n + 1 ≤ G := by rw [hG]; exact grownCap_ge w _ _ _
 have hG63 : G ≤ 9223372036854775807 := by
  have := grownCap_le_maxLen w (n + 1) c 26 (by unfold maxLen; omega)
  rw [← hG] at this
  unfold maxLen at this
  omega
 rw [← hG] at hrz
 rw [← hROW] at hrz
 have hRs : ROW.size = G * 5 := by
  rw [hROW, Array.size_append, Array.size_append]
  simp only [Builtin.zeroCells, Array.size_map, Array.size_range, hZs, List.size_toArray, htl]
  omega
 have hRt : ROW.toList.take (i * 5) = cs.take (i * 5) := by
  rw [hROW, Array.toList_append, Array.toList_append, List.append_assoc]
  exact List.take_left' htl
 refine Calls.mono (R := fun e w' => e = .returned (.slice (some ⟨w.heap.size, 0, none⟩) (n + 1) G) ∧ w' = (((w.alloc (.cells ROW 26)).drew.setCells w.heap.size (i * 5) vs).drew).setCells w.heap.size ((i + 1) * 5) (cs.drop (i * 5))) ?_ (fun e w' h => ⟨G, ROW, hGn, hG63, hRs, hRt, h.1, h.2⟩)
 clear hinfo hZ hROW hold hRt
 obtain ⟨W1, hW1⟩ : ∃ W1, W1 = w.drew.alloc (.cells ROW 26) := ⟨_, rfl⟩
 rw [← hW1] at hrz
 have hN : ∀ j, j < (n + 1) * 5 → (W1.cell? ⟨w.heap.size, j, none⟩).isSome = true := fun j hj => by
  rw [hW1, World.cell?_alloc_at (w := w.drew) ROW _ w.heap.size j rfl, Array.getElem?_eq_getElem (by omega)]; rfl
 have hNf : ∀ j, W1.frozen? ⟨w.heap.size, j, none⟩ = false := fun j => by rw [hW1]; exact World.frozen?_alloc_at (w := w.drew) ROW _ w.heap.size j rfl
 have hOb : ∀ j v, w.cell? ⟨g, j, none⟩ = some v → W1.cell? ⟨g, j, none⟩ = some v := fun j v h => by rw [hW1, World.cell?_alloc_past (w := w.drew) _ g j hbw]; exact h
 have hOv : ∀ j v, w.cell? ⟨vb, j, none⟩ = some v → W1.cell? ⟨vb, j, none⟩ = some v := fun j v h => by rw [hW1, World.cell?_alloc_past (w := w.drew) _ vb j hvw]; exact h
 have hcpA : ∀ (W : World), (∀ x, W.cell? x = W1.cell? x) → (∀ x, W.frozen? x = W1.frozen? x) → ∀ ty dc, (Builtin.copy_ #[22, 22] ty #[.slice (some ⟨w.heap.size, i * 5, none⟩) (n + 1 - i) dc, .slice (some ⟨vb, 0, none⟩) 1 vc]).run Try.prog W = .ok (goInt (Nat.min 1 (n + 1 - i))) (W.setCells w.heap.size (i * 5) vs) := fun W hWc hWf ty dc =>
  Ins.copy_cells W _ _ ty 26 5 w.heap.size (i * 5) (n + 1 - i) dc ⟨vb, 0, none⟩ 1 vc vs Try.underlying22 hsz (by rw [hvl]; simp only [Nat.min_def]; split <;> omega)
   (fun j v hj => by rw [Addr.add_lit, hWc, Nat.zero_add]; exact hOv _ v (hvs j v hj))
   (fun j hj => by rw [hWc]; exact hN _ (by omega)) (fun j hj => by rw [hWf]; exact hNf _) h1v
 have hGi : ¬ (G = i) := by omega
 have hGim : ¬ (G = i + 1) := by omega
 have hci : ¬ (c = i) := by omega
 have hbN : g ≠ w.heap.size := by omega
 have hdl : (cs.drop (i * 5)).length = (n - i) * 5 := by rw [List.length_drop, hcl]; omega
 have hcpB : ∀ (W : World), (∀ x, W.cell? x = (W1.setCells w.heap.size (i * 5) vs).cell? x) → (∀ x, W.frozen? x = (W1.setCells w.heap.size (i * 5) vs).frozen? x) → ∀ ty dc sc, (Builtin.copy_ #[22, 22] ty #[.slice (some ⟨w.heap.size, (i + 1) * 5, none⟩) (n - i) dc, .slice (some ⟨g, i * 5, none⟩) (n - i) sc]).run Try.prog W = .ok (goInt (Nat.min (n - i) (n - i))) (W.setCells w.heap.size ((i + 1) * 5) (cs.drop (i * 5))) := fun W hWc hWf ty dc sc =>
  Ins.copy_cells W _ _ ty 26 5 w.heap.size ((i + 1) * 5) (n - i) dc ⟨g, i * 5, none⟩ (n - i) sc (cs.drop (i * 5)) Try.underlying22 hsz (by rw [hdl]; simp only [Nat.min_def]; split <;> omega)
   (fun j v hj => by
    rw [Addr.add_lit, hWc, World.cell?_setCells_out _ _ _ _ _ (fun h _ => absurd h hbN)]
    exact hOb _ v (hcs (i * 5 + j) v (by rwa [List.getElem?_drop] at hj)))
   (fun j hj => by rw [hWc]; exact isSome_setCells w.heap.size vs (i * 5) W1 (fun t ht => hN _ (by omega)) _ (hN _ (by omega)))
   (fun j hj => by rw [hWf, World.frozen?_setCells]; exact hNf _) (fun v hv => h1c v (List.mem_of_mem_drop hv))
 subst hW1
 have hE1 : ∀ x, ((w.alloc (.cells ROW 26)).drew).cell? x = (w.drew.alloc (.cells ROW 26)).cell? x := fun x => rfl
 have hE2 : ∀ x, ((w.alloc (.cells ROW 26)).drew).frozen? x = (w.drew.alloc (.cells ROW 26)).frozen? x := fun x => rfl
 have hF1 : ∀ x, (((w.alloc (.cells ROW 26)).drew.setCells w.heap.size (i * 5) vs).drew).cell? x = ((w.drew.alloc (.cells ROW 26)).setCells w.heap.size (i * 5) vs).cell? x := fun x => rfl
 have hF2 : ∀ x, (((w.alloc (.cells ROW 26)).drew.setCells w.heap.size (i * 5) vs).drew).frozen? x = ((w.drew.alloc (.cells ROW 26)).setCells w.heap.size (i * 5) vs).frozen? x := fun x => rfl
 have hw1 : IntKind.i64.wrap ((i : Int) + 1) = (i : Int) + 1 := by rw [IntKind.wrap_i64]; omega
 have hw2 : IntKind.i64.wrap ((n : Int) + 1) = (n : Int) + 1 := by rw [IntKind.wrap_i64]; omega
 have hw3 : IntKind.i64.wrap ((n : Int) + 1 - (i : Int)) = (n : Int) + 1 - (i : Int) := by rw [IntKind.wrap_i64]; omega
 have hb1 : (0 : Int) ≤ (i : Int) + 1 := by omega
 have hin : i ≤ n := by omega
 have hic : i ≤ c := by omega
 have hb3 : (i : Int) ≤ (n : Int) := by omega
 clear hkk hik hG
 go_enter Try.func43, Try.ntmps43
 go_wp2_with (first
  | (at_builtin; refine Lib.wpList_append_run _ rfl _ _ _ _ rfl _ _ rfl rfl _ _ (hrz _) ?_)
  | (at_builtin; refine wpList_copy_runI _ rfl _ _ 22 22 rfl _ _ rfl rfl (hcpA _ hE1 hE2 _ _) ?_)
  | (at_builtin; refine wpList_copy_runI _ rfl _ _ 22 22 rfl _ _ rfl rfl (hcpB _ (fun _ => rfl) (fun _ => rfl) _ _ _) ?_))
 go_region_law_o (refine step_copy_runI rfl _ _ 22 22 rfl (.slice (some ⟨w.heap.size, (i + 1) * 5, none⟩) (n - i) (G - (i + 1))) (.slice (some ⟨g, i * 5, none⟩) (n - i) (c - i)) (by simp [Act.eval, Act.put]) (by simp [Act.eval, Act.put]) (hcpB _ hF1 hF2 3 (G - (i + 1)) (c - i)) ?_)
 go_wp2
 go_ret
 exact ⟨rfl, rfl⟩
set_option maxHeartbeats 4000000 in
set_option maxRecDepth 100000 in
theorem slices_Insert.back (base : Nat) (ok okp : Nat → Prop) (A : Option Addr) (c : Nat) (xs ys : List S26) (A1 : Option Addr) (c1 : Nat) (w0 w : World) (HO : Kd.N k26 26 w base ok (.slice A xs.length c) xs) (HY : Kd.N k26 26 w base okp (.slice A1 1 c1) ys)
 (hokp : ∀ k, okp k → ok k ∧ some k ≠ (Value.slice A xs.length c).ownBlock) (hfresh : ∀ k, w.heap.size ≤ k → ok k) (HB : Below base w0 w) (hbase : base ≤ w.heap.size) (hl : (xs.length + 1) * 72 ≤ 140737488355328) :
 Calls Try.prog 43 #[.slice A xs.length c, .int .i64 (xs.length : Int), .slice A1 1 c1] w fun e w' => ∃ v1 : Value, e = .returned v1 ∧ Kd.N k26 26 w' base ok v1 (xs ++ ys) ∧ Below base w0 w' ∧ w.grownBy w' (Value.slice A xs.length c).ownBlock ∧ (v1.ownBlock = (Value.slice A xs.length c).ownBlock ∨ ∃ b, v1.ownBlock = some b ∧ w.heap.size ≤ b) := by
 have mixed : Try.prog.follows .mixedOrders = true := by kernel_rfl
 have hinfo : (Try.prog.info? 26).map (fun i => (i.zero, i.size, i.bytes)) = some (some (.agg #[(.int .i64 0), (.int .i64 0), (.int .i64 0), (.slice none 0 0), (.slice none 0 0)]), 5, 72) := by kernel_rfl
 have hF := Aside0.mk (Kd.N_F HY)
 have HO1 := Aside0.mk HO
 have HB1 := Aside0.mk HB
 have hq1 := Aside0.mk hokp
 have hq2 := Aside0.mk hfresh
 have hnc := (Kd.N_reads' HO).2.1
 clear HO HY HB hokp hfresh
 rcases Nat.eq_or_lt_of_le hnc with he | he
 · subst he
   clear hnc
   go_enter Try.func43, Try.ntmps43
   go_wp2_with (at_builtin; refine Kd.N_append_rows k26 base rfl (.tmp 23) (.tmp 24) 22 26 _ 72 rfl Try.underlying22 hinfo rfl (by decide) (by omega) (.slice A xs.length xs.length) xs ys A1 1 c1 ok okp rfl rfl HO1.out hF.out hq1.out hq2.out HB1.out hbase hl ?_; intro v1 w1 h1 h2 h3 h4)
   go_ret
   exact ⟨_, rfl, h1, h2, h3, h4⟩
 · have hcn : ¬ (c = xs.length) := by omega
   go_enter Try.func43, Try.ntmps43
   go_wp2_with (at_builtin; refine Kd.N_append_rows k26 base rfl (.tmp 23) (.tmp 24) 22 26 _ 72 rfl Try.underlying22 hinfo rfl (by decide) (by omega) (.slice A xs.length c) xs ys A1 1 c1 ok okp rfl rfl HO1.out hF.out hq1.out hq2.out HB1.out hbase hl ?_; intro v1 w1 h1 h2 h3 h4)
   go_ret
   exact ⟨_, rfl, h1, h2, h3, h4⟩
set_option maxHeartbeats 2000000 in
theorem slices_Insert.calls (base : Nat) (ok okp : Nat → Prop) (v : Value) (xs ys : List S26) (v2 : Value) (i : Int) (w0 w : World) (HO : Kd.N k26 26 w base ok v xs) (HY : Kd.N k26 26 w base okp v2 ys) (hy : ys.length = 1)
 (hokp : ∀ k, okp k → ok k ∧ some k ≠ v.ownBlock) (hfresh : ∀ k, w.heap.size ≤ k → ok k) (HB : Below base w0 w) (hbase : base ≤ w.heap.size) (hl : (xs.length + ys.length) * 72 ≤ 140737488355328) (h0 : 0 ≤ i) (h1 : i ≤ (xs.length : Int)) :
 Calls Try.prog 43 #[v, .int .i64 i, v2] w fun e w' => ∃ v1 : Value, e = .returned v1 ∧ Kd.N k26 26 w' base ok v1 (xs.take i.toNat ++ ys ++ xs.drop i.toNat) ∧ Below base w0 w' ∧ w.grownBy w' v.ownBlock ∧ (v1.ownBlock = v.ownBlock ∨ ∃ b, v1.ownBlock = some b ∧ w.heap.size ≤ b) := by
 obtain ⟨y0, rfl⟩ : ∃ y0, ys = [y0] := List.length_eq_one_iff.1 hy
 obtain ⟨i, rfl⟩ := Int.eq_ofNat_of_zero_le h0
 obtain ⟨vb, c1, rfl, hvb1, hvb2, curv, hvh⟩ := Kd.N_form HY (by simp)
 obtain ⟨A, c, rfl⟩ := Kd.N_slice HO
 have hil : i ≤ xs.length := by omega
 rw [show ((i : Int)).toNat = i from rfl]
 rcases Nat.eq_or_lt_of_le hil with he | he
 · subst he
   rw [List.take_length, List.drop_length, List.append_nil]
   exact slices_Insert.back base ok okp A c xs [y0] (some ⟨vb, 0, none⟩) c1 w0 w HO HY hokp hfresh HB hbase (by simpa using hl)
 · obtain ⟨g, cap, e, hg1, hg2, curg, hgh⟩ := Kd.N_form HO (by omega)
   injection e with e1 _ e3
   subst e1
   have hne : vb ≠ g := by
    have := (hokp vb (HY.1 vb (by simp [Value.ownBlock]))).2
    intro e; exact this (by simp [Value.ownBlock, e])
   obtain ⟨hown, rows, hlr, hR, hfk⟩ := HO
   obtain ⟨hownY, rowsY, hlrY, hRY, hfkY⟩ := HY
   obtain ⟨r, rfl⟩ : ∃ r, rowsY = [r] := List.length_eq_one_iff.1 (by rw [hlrY]; rfl)
   have hf2 : Kd.FK k26 w okp y0 r := Kd.FK_mono (hfkY 0 y0 r rfl rfl) (fun k hk => hk.1)
   obtain ⟨cur, hh, hbg, hn, hnc, hcm, hcs, hreps⟩ := Ins.raw_open (sz := 5) hR
   obtain ⟨cury, hhy, hby, hny, hncy, hcmy, hcsy, hrepsy⟩ := Ins.raw_open (sz := 5) hRY
   have hcul : cur.toList.length = c * 5 := (Array.length_toList ..).trans hcs
   have hcyl : cury.toList.length = c1 * 5 := (Array.length_toList ..).trans hcsy
   have hncy1 : 1 ≤ c1 := hncy
   have hcl : (cur.toList.take (xs.length * 5)).length = xs.length * 5 := by rw [List.length_take, hcul]; omega
   have hvl : (cury.toList.take (1 * 5)).length = 5 := by rw [List.length_take, hcyl]; omega
   have hcs1 : ∀ j v, (cur.toList.take (xs.length * 5))[j]? = some v → w.cell? ⟨g, j, none⟩ = some v := fun j v hj => by
    rw [List.getElem?_take] at hj
    split at hj
    · rw [cell_of_row w g _ cur 26 (0, 0) hh, ← Array.getElem?_toList]; exact hj
    · cases hj
   have hvs1 : ∀ j v, (cury.toList.take (1 * 5))[j]? = some v → w.cell? ⟨vb, j, none⟩ = some v := fun j v hj => by
    rw [List.getElem?_take] at hj
    split at hj
    · rw [cell_of_row w vb _ cury 26 (0, 0) hhy, ← Array.getElem?_toList]; exact hj
    · cases hj
   have hir := Ins.reps_ins (i := i) hreps hrepsy (by omega)
   have hrl : xs.length + 1 = (rows.take i ++ [r] ++ rows.drop i).length := by simp; omega
   have hgo : (Value.slice (some ⟨g, 0, none⟩) xs.length c).ownBlock = some g := rfl
   by_cases hroom : xs.length + 1 ≤ c
   · refine (slices_Insert.shift g xs.length c i vb c1 _ _ w he hroom hcm hne hcl hvl hcs1 (fun j hj => by rw [cell_of_row w g _ cur 26 (0, 0) hh, Array.getElem?_eq_getElem (by omega)]; rfl) (fun j => blk_frozen hh _) hvs1 (Ins.reps_one hreps) (Ins.reps_one hrepsy) 26 26 cury.size cur.size (by simp [World.shape?, hhy]) (by simp [World.shape?, hh]) (by omega) (fun j => blk_frozen hhy _)).mono ?_
     rintro e w' ⟨rfl, rfl⟩
     have hgr := Ins.set2_grown w g ((i + 1) * 5) (i * 5) ((cur.toList.take (xs.length * 5)).drop (i * 5)) (cury.toList.take (1 * 5))
     obtain ⟨c2, g1, g2, g3⟩ := Ins.two_sets (W := w.drew) hh (i * 5) 5 (xs.length * 5) (cury.toList.take (1 * 5)) hvl (by omega) (by omega)
     rw [show i * 5 + 5 = (i + 1) * 5 by omega] at g1
     have g4 : c2.toList.take ((xs.length + 1) * 5) = (cur.toList.take (xs.length * 5)).take (i * 5) ++ cury.toList.take (1 * 5) ++ (cur.toList.take (xs.length * 5)).drop (i * 5) := by rw [show (xs.length + 1) * 5 = xs.length * 5 + 5 by omega]; exact g3
     refine ⟨_, rfl, ?_, HB.grown hgr hbase (fun k hk => by injection hk with hk; subst hk; exact hbg), hgr, .inl rfl⟩
     exact Ins.N_inserted hown hlr hfk hf2 hokp hfresh hil (Ins.raw_close (n := xs.length + 1) g1 hbg hrl hroom hcm (by rw [g2]; exact hcs) g4 hir) hgr (.inl rfl)
   · refine (slices_Insert.grow g xs.length c i vb c1 _ _ w he hnc (by omega) (by simpa using hl) hcl hvl hcs1 hvs1 (Ins.reps_one hreps) (Ins.reps_one hrepsy)).mono ?_
     rintro e w' ⟨G, ROW, q1, q2, q3, q4, rfl, rfl⟩
     have hgr := Ins.lay_grown w (.cells ROW 26) (some g) (i * 5) ((i + 1) * 5) (cury.toList.take (1 * 5)) ((cur.toList.take (xs.length * 5)).drop (i * 5))
     have hdl : ((cur.toList.take (xs.length * 5)).drop (i * 5)).length = (xs.length - i) * 5 := by rw [List.length_drop, hcl]; omega
     obtain ⟨c2, g1, g2, g3⟩ := Ins.two_lays (W := (w.alloc (.cells ROW 26)).drew) (g := w.heap.size) (e := 26) (R := ROW) (by show (w.heap.push _)[w.heap.size]? = _; rw [Array.getElem?_push, if_pos rfl]) (i * 5) 5 (cury.toList.take (1 * 5)) ((cur.toList.take (xs.length * 5)).drop (i * 5)) hvl (by rw [hdl]; omega)
     rw [show i * 5 + 5 = (i + 1) * 5 by omega] at g1 g3
     have hat : (Value.slice (some ⟨w.heap.size, 0, none⟩) (xs.length + 1) G).ownBlock = (Value.slice (some ⟨g, 0, none⟩) xs.length c).ownBlock ∨ ∃ b, (Value.slice (some ⟨w.heap.size, 0, none⟩) (xs.length + 1) G).ownBlock = some b ∧ w.heap.size ≤ b := .inr ⟨w.heap.size, rfl, Nat.le_refl _⟩
     refine ⟨_, rfl, ?_, HB.grown hgr hbase (fun k hk => by injection hk with hk; subst hk; exact hbg), hgr, hat⟩
     refine Ins.N_inserted hown hlr hfk hf2 hokp hfresh hil (Ins.raw_close (n := xs.length + 1) g1 hbase hrl q1 q2 (by rw [g2]; exact q3) ?_ hir) hgr hat
     rw [q4, hdl, show (i + 1) * 5 + (xs.length - i) * 5 = (xs.length + 1) * 5 by omega] at g3
     exact g3

/-! ### slices_Clone: function 44 -/
def slices_Clone.f (l0 : List (S26)) : Option ((List (S26))) := (some (([] : List (S26)) : List (S26))).bind fun y163 => (if y163.length + l0.length < 1954687338268 then (some (y163 ++ l0)) else (none))
set_option maxHeartbeats 8000000 in
set_option maxRecDepth 100000 in
theorem slices_Clone.callsN (P0_ : Nat → Prop) (A0 : Option Addr) (c0 : Nat) (l0 : List (S26)) (r : List (S26)) (w : World) (hs0 : Kd.V k26 26 w w.heap.size (fun k_ => P0_ k_) (.slice A0 l0.length c0) l0) (h : slices_Clone.f l0 = some r) (hnn : A0.isNone = false) :
 Calls Try.prog 44 #[.slice A0 l0.length c0] w fun e w' => ∃ v0_ : Value, e = .returned (v0_) ∧ Kd.N k26 26 w' w.heap.size (fun k_ => (P0_ k_ ∨ w.heap.size ≤ k_)) v0_ r ∧ Below w.heap.size w w' := by
 have heql : ∀ W : World, (binOp .eql 22 (.slice A0 l0.length c0) (.slice none 0 0)).run Try.prog W = .ok (.bool false) W := fun W => by rw [Lib.run_eql_slice_nil W 22 26 A0 l0.length c0 0 0 Try.underlying22]; rw [hnn]
 clear hnn
 have HO0 := Aside0.mk (show Kd.V k26 26 w w.heap.size (fun k_ => (P0_ k_ ∨ w.heap.size ≤ k_)) (.slice A0 l0.length c0) l0 from Kd.V_mono hs0 (fun k_ hk => .inl hk))
 have HB := Aside0.mk (Below.refl w.heap.size w)
 have H : ((some (([] : List (S26)) : List (S26))).bind fun y163 => (if y163.length + l0.length < 1954687338268 then (some (y163 ++ l0)) else (none))) = some r := h
 clear h
 obtain ⟨y163, hy163⟩ : ∃ y_ : List (S26), y_ = (([] : List (S26))) := ⟨_, rfl⟩
 replace H : (if y163.length + l0.length < 1954687338268 then (some (y163 ++ l0)) else (none)) = some r := by first | (rw [hy163]; with_reducible exact H) | (have H2_ := (Option.bind_some _ _).symm.trans H; rw [hy163]; with_reducible exact H2_) | (have H2_ := (Option.bind_some _ _).symm.trans H; with_reducible exact H2_) | with_reducible exact H | (rw [hy163]; exact H) | exact H
 have Ny163 := Aside0.mk hy163
 clear hy163
 by_cases c2 : y163.length + l0.length < 1954687338268
 · rw [if_pos c2] at H
   have LMc2 := Aside0.mk c2
   clear c2
   obtain ⟨y166, hy166⟩ : ∃ y_ : List (S26), y_ = (y163 ++ l0) := ⟨_, rfl⟩
   replace H : (some y166) = some r := by first | (rw [hy166]; with_reducible exact H) | (have H2_ := (Option.bind_some _ _).symm.trans H; rw [hy166]; with_reducible exact H2_) | (have H2_ := (Option.bind_some _ _).symm.trans H; with_reducible exact H2_) | with_reducible exact H | (rw [hy166]; exact H) | exact H
   have Ny166 := Aside0.mk hy166
   clear hy166
   obtain rfl := Option.some.inj H
   go_enter Try.func44, Try.ntmps44
   go_wp2_with (first | ((with_reducible refine gate_dst (N := 5) rfl ?_); refine Kd.N_lit k26 _ 26 ?hg (N' := 5) ?hd (xs := ([] : List (S26))) (inner := []) (ok := (fun k_ => (P0_ k_ ∨ w.heap.size ≤ k_))) (okp := (fun k_ => (P0_ k_ ∨ w.heap.size ≤ k_))) ?hr ?hp (fun _ hk => hk) ((show ∀ k_, w.heap.size ≤ k_ → (fun k_ => (P0_ k_ ∨ w.heap.size ≤ k_)) k_ from fun k_ hk => (.inr (Nat.le_trans bsz_ hk))) _ (Nat.le_refl _)) (Below.refl _ _) (Nat.le_refl _) (by simp) ?_; (case hd => rfl); (case hg => rfl); (case hr => first | (go_simp; done) | (go_simp; rfl)); (case hp => exact (Reps.none _ _)); intro v164 w3 ho4 hb hg_ hnew_; clear hg_ hnew_; (first | rw [← Ny163.out] at ho4 | (simp only [Int.reduceToNat] at ho4; rw [← Ny163.out] at ho4)); replace HO0 := Aside0.mk (Kd.V_elder' (vq_ HO0) (Kd.N_base ho4) hb); replace HO165 := Aside0.mk (Kd.N_lower ho4 bsz_); replace HB := Aside0.mk (bst_ hb); clear hb ho4) | ((with_reducible refine gate_builtin (b := .append) (xs := #[.tmp 5, .tmp 6]) rfl ?_); at_builtin; refine Kd.N_append_rows k26 (w0 := w) w.heap.size rfl (.tmp 5) (.tmp 6) 22 26 (.agg #[(.int .i64 0), (.int .i64 0), (.int .i64 0), (.slice none 0 0), (.slice none 0 0)]) 72 rfl Try.underlying22 info26 rfl (by decide) (by omega) v164 y163 l0 _ _ _ (fun k_ => (P0_ k_ ∨ w.heap.size ≤ k_)) (fun k_ => ((fun k_ => (P0_ k_ ∨ w.heap.size ≤ k_))) k_ ∧ some k_ ≠ (v164 : Value).ownBlock) rfl rfl ?aO ?aR (fun _ hk => hk) ?aF ?aB ?aS ?aL ?_; (case aR => exact (by skip; exact Kd.V_F (e := 0) (base := 0) (Kd.V_mono (ok' := (fun k_ => ((fun k_ => (P0_ k_ ∨ w.heap.size ≤ k_))) k_ ∧ some k_ ≠ (v164 : Value).ownBlock)) (HO0.out) (fun k_ hk => ⟨hk.1, hk.2⟩)))); (case aB => exact bsv_); (case aF => exact (fun k_ hk => (.inr (Nat.le_trans bsz_ hk)))); (case aO => exact (nq_ HO165)); (case aS => exact bsz_); (case aL => have := LMc2.out; omega); intro v167 w5 ho hb hg hat; rw [← Ny166.out] at ho; replace HO0 := Aside0.mk (Kd.V_afterv (ok := (fun k_ => (P0_ k_ ∨ w.heap.size ≤ k_))) (vq_ HO0) hg hat); replace HB := Aside0.mk (hb); replace HO168 := Aside0.mk (ho); clear HO165; clear ho hb hg hat))
   go_ret
   exact ⟨_, by first | rfl | (simp [errW_none, errW_some] <;> rfl) | (simp [*, errW_none, errW_some] <;> rfl), nq_ HO168, bsv_⟩
 · rw [if_neg c2] at H
   exact absurd H (by simp)

set_option maxHeartbeats 2000000 in
theorem slices_Clone.calls (P0_ : Nat → Prop) (A0 : Option Addr) (c0 : Nat) (l0 : List (S26)) (r : List (S26)) (w : World) (hs0 : Kd.V k26 26 w w.heap.size (fun k_ => P0_ k_) (.slice A0 l0.length c0) l0) (h : slices_Clone.f l0 = some r) :
 Calls Try.prog 44 #[.slice A0 l0.length c0] w fun e w' => ∃ v0_ : Value, e = .returned (v0_) ∧ Kd.N k26 26 w' w.heap.size (fun k_ => (P0_ k_ ∨ w.heap.size ≤ k_)) v0_ r ∧ Below w.heap.size w w' := by
 cases hA : A0 with
 | some ad => subst hA; exact slices_Clone.callsN P0_ (some ad) c0 l0 r w hs0 h rfl
 | none =>
  subst hA
  obtain rfl : l0 = [] := by
   rcases Nat.eq_zero_or_pos l0.length with h0 | h0
   · exact List.length_eq_zero_iff.1 h0
   · obtain ⟨ad, c, e0, _⟩ := Kd.C_get (Kd.V_reads' hs0).2.2 z26 0 (by omega) (by omega)
     cases e0
  obtain rfl : [] = r := by simpa [slices_Clone.f] using h
  have heql : ∀ W : World, (binOp .eql 22 (.slice none 0 c0) (.slice none 0 0)).run Try.prog W = .ok (.bool true) W := fun W => by rw [Lib.run_eql_slice_nil W 22 26 none 0 c0 0 0 Try.underlying22]; rfl
  clear hs0 h
  simp only [List.length_nil]
  go_enter Try.func44, Try.ntmps44
  go_wp2
  go_ret
  exact ⟨_, rfl, by first | exact Kd.R_nil _ _ _ _ _ | exact Kd.N_nil _ _ _ _ _ | exact Kd.V_nil _ _ _ _ _, Below.refl _ _⟩

end Go.Proofs.Ytjnkpocfmpbpoaa.Se
