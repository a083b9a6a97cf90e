-- PRINTED by print.py (a twelfth state) out of the translation. Not trusted: Lean checks it.
import Derived.Test.YtjnkpocfmpbpoaaFx0
import Derived.Test.YtjnkpocfmpbpoaaFx6
namespace Go.Proofs.Ytjnkpocfmpbpoaa.F
open Go.Proofs.Ytjnkpocfmpbpoaa.Ho
open Go.RowKit Go.Proofs.YtjnkpocfmpbpoaaW.PrintWords Go.Proofs.YtjnkpocfmpbpoaaW.PrintLast Go.Proofs.YtjnkpocfmpbpoaaW.PrintMore
attribute [local go_sem] max2_int min2_int max_two min_two max_three min_three max_four min_four   -- for this text's walks alone
set_option linter.unusedVariables false
set_option linter.unusedSimpArgs false

-- NOT PRINTED: function 73 (slices_BinarySearchFunc)

/-! ### cmp_isNaN: function 99 -/
def cmp_isNaN.f (a0 : Int) : Option (Bool) := some (a0 != a0)
set_option maxHeartbeats 8000000 in
set_option maxRecDepth 100000 in
theorem cmp_isNaN.calls (a0 : Int) (r : Bool) (w : World) (h : cmp_isNaN.f a0 = some r) :
 Calls Try.prog 99 #[.int .i64 a0] w fun e w' => e = .returned (.bool r) ∧ Drawn0 w w' := by
 have H : (some (a0 != a0)) = some r := h
 clear h
 obtain rfl := Option.some.inj H
 go_enter Try.func99, Try.ntmps99
 go_wp2
 go_ret
 exact ⟨by first | rfl | (simp; done) | (simp [*]; done), by repeat (first | exact Drawn0.refl _ | apply Drawn0.step)⟩

/-! ### cmp_Compare: function 75 -/
def cmp_Compare.f (a0 : Int) (a1 : Int) : Option (Int) := (cmp_isNaN.f a0).bind fun t155 => ((cmp_isNaN.f a1).bind fun t156 => (if t155 = true then (if t156 = true then (some 0) else (some (-1))) else (if t156 = true then (some 1) else (if a0 < a1 then (some (-1)) else (if a0 > a1 then (some 1) else (some 0))))))
set_option maxHeartbeats 8000000 in
set_option maxRecDepth 100000 in
theorem cmp_Compare.calls (a0 : Int) (a1 : Int) (r : Int) (w : World) (h : cmp_Compare.f a0 a1 = some r) :
 Calls Try.prog 75 #[.int .i64 a0, .int .i64 a1] w fun e w' => e = .returned (.int .i64 r) ∧ Drawn0 w w' := by
 have H : ((cmp_isNaN.f a0).bind fun t155 => ((cmp_isNaN.f a1).bind fun t156 => (if t155 = true then (if t156 = true then (some 0) else (some (-1))) else (if t156 = true then (some 1) else (if a0 < a1 then (some (-1)) else (if a0 > a1 then (some 1) else (some 0))))))) = some r := h
 clear h
 obtain ⟨t155, A3, H⟩ := bd_ H
 obtain ⟨t156, A4, H⟩ := bd_ H
 by_cases c5 : t155 = true
 · subst c5
   rw [if_pos rfl] at H
   by_cases c6 : t156 = true
   · subst c6
     rw [if_pos rfl] at H
     obtain rfl := Option.some.inj H
     go_enter Try.func75, Try.ntmps75
     go_wp2_with (first | ((with_reducible refine gate_callee (f := 99) rfl ?_); refine goesL_ (some 8) rfl rfl Try.func99 (by kernel_rfl) rfl #[.int .i64 a0] rfl mp_ ?_; (with_reducible refine (cmp_isNaN.calls a0 true _ A3.out).mono ?_); rintro e w' ⟨rfl, ⟨nd, rfl⟩⟩; refine ⟨_, rfl, ?_⟩) | ((with_reducible refine gate_callee (f := 99) rfl ?_); refine goesL_ (some 10) rfl rfl Try.func99 (by kernel_rfl) rfl #[.int .i64 a1] rfl mp_ ?_; (with_reducible refine (cmp_isNaN.calls a1 true _ A4.out).mono ?_); rintro e w' ⟨rfl, ⟨nd, rfl⟩⟩; refine ⟨_, rfl, ?_⟩))
     go_ret
     exact ⟨by first | rfl | (simp; done) | (simp [*]; done), by repeat (first | exact Drawn0.refl _ | apply Drawn0.step)⟩
   · replace c6 := Bool.eq_false_iff.mpr c6
     subst c6
     rw [if_neg (show ¬ (false = true) by decide)] at H
     obtain rfl := Option.some.inj H
     go_enter Try.func75, Try.ntmps75
     go_wp2_with (first | ((with_reducible refine gate_callee (f := 99) rfl ?_); refine goesL_ (some 8) rfl rfl Try.func99 (by kernel_rfl) rfl #[.int .i64 a0] rfl mp_ ?_; (with_reducible refine (cmp_isNaN.calls a0 true _ A3.out).mono ?_); rintro e w' ⟨rfl, ⟨nd, rfl⟩⟩; refine ⟨_, rfl, ?_⟩) | ((with_reducible refine gate_callee (f := 99) rfl ?_); refine goesL_ (some 10) rfl rfl Try.func99 (by kernel_rfl) rfl #[.int .i64 a1] rfl mp_ ?_; (with_reducible refine (cmp_isNaN.calls a1 false _ A4.out).mono ?_); rintro e w' ⟨rfl, ⟨nd, rfl⟩⟩; refine ⟨_, rfl, ?_⟩))
     go_ret
     exact ⟨by first | rfl | (simp; done) | (simp [*]; done), by repeat (first | exact Drawn0.refl _ | apply Drawn0.step)⟩
 · replace c5 := Bool.eq_false_iff.mpr c5
   subst c5
   rw [if_neg (show ¬ (false = true) by decide)] at H
   by_cases c7 : t156 = true
   · subst c7
     rw [if_pos rfl] at H
     obtain rfl := Option.some.inj H
     go_enter Try.func75, Try.ntmps75
     go_wp2_with (first | ((with_reducible refine gate_callee (f := 99) rfl ?_); refine goesL_ (some 8) rfl rfl Try.func99 (by kernel_rfl) rfl #[.int .i64 a0] rfl mp_ ?_; (with_reducible refine (cmp_isNaN.calls a0 false _ A3.out).mono ?_); rintro e w' ⟨rfl, ⟨nd, rfl⟩⟩; refine ⟨_, rfl, ?_⟩) | ((with_reducible refine gate_callee (f := 99) rfl ?_); refine goesL_ (some 10) rfl rfl Try.func99 (by kernel_rfl) rfl #[.int .i64 a1] rfl mp_ ?_; (with_reducible refine (cmp_isNaN.calls a1 true _ A4.out).mono ?_); rintro e w' ⟨rfl, ⟨nd, rfl⟩⟩; refine ⟨_, rfl, ?_⟩))
     go_ret
     exact ⟨by first | rfl | (simp; done) | (simp [*]; done), by repeat (first | exact Drawn0.refl _ | apply Drawn0.step)⟩
   · replace c7 := Bool.eq_false_iff.mpr c7
     subst c7
     rw [if_neg (show ¬ (false = true) by decide)] at H
     by_cases c8 : a0 < a1
     · rw [if_pos c8] at H
       have c8b0 : decide (a0 < a1) = true := decide_eq_true c8
       clear c8
       obtain rfl := Option.some.inj H
       go_enter Try.func75, Try.ntmps75
       go_wp2_with (first | ((with_reducible refine gate_callee (f := 99) rfl ?_); refine goesL_ (some 8) rfl rfl Try.func99 (by kernel_rfl) rfl #[.int .i64 a0] rfl mp_ ?_; (with_reducible refine (cmp_isNaN.calls a0 false _ A3.out).mono ?_); rintro e w' ⟨rfl, ⟨nd, rfl⟩⟩; refine ⟨_, rfl, ?_⟩) | ((with_reducible refine gate_callee (f := 99) rfl ?_); refine goesL_ (some 10) rfl rfl Try.func99 (by kernel_rfl) rfl #[.int .i64 a1] rfl mp_ ?_; (with_reducible refine (cmp_isNaN.calls a1 false _ A4.out).mono ?_); rintro e w' ⟨rfl, ⟨nd, rfl⟩⟩; refine ⟨_, rfl, ?_⟩))
       go_ret
       exact ⟨by first | rfl | (simp; done) | (simp [*]; done), by repeat (first | exact Drawn0.refl _ | apply Drawn0.step)⟩
     · rw [if_neg c8] at H
       have c8b0 : decide (a0 < a1) = false := decide_eq_false c8
       clear c8
       by_cases c9 : a0 > a1
       · rw [if_pos c9] at H
         have c9b0 : decide (a1 < a0) = true := decide_eq_true c9
         clear c9
         obtain rfl := Option.some.inj H
         go_enter Try.func75, Try.ntmps75
         go_wp2_with (first | ((with_reducible refine gate_callee (f := 99) rfl ?_); refine goesL_ (some 8) rfl rfl Try.func99 (by kernel_rfl) rfl #[.int .i64 a0] rfl mp_ ?_; (with_reducible refine (cmp_isNaN.calls a0 false _ A3.out).mono ?_); rintro e w' ⟨rfl, ⟨nd, rfl⟩⟩; refine ⟨_, rfl, ?_⟩) | ((with_reducible refine gate_callee (f := 99) rfl ?_); refine goesL_ (some 10) rfl rfl Try.func99 (by kernel_rfl) rfl #[.int .i64 a1] rfl mp_ ?_; (with_reducible refine (cmp_isNaN.calls a1 false _ A4.out).mono ?_); rintro e w' ⟨rfl, ⟨nd, rfl⟩⟩; refine ⟨_, rfl, ?_⟩))
         go_ret
         exact ⟨by first | rfl | (simp; done) | (simp [*]; done), by repeat (first | exact Drawn0.refl _ | apply Drawn0.step)⟩
       · rw [if_neg c9] at H
         have c9b0 : decide (a1 < a0) = false := decide_eq_false c9
         clear c9
         obtain rfl := Option.some.inj H
         go_enter Try.func75, Try.ntmps75
         go_wp2_with (first | ((with_reducible refine gate_callee (f := 99) rfl ?_); refine goesL_ (some 8) rfl rfl Try.func99 (by kernel_rfl) rfl #[.int .i64 a0] rfl mp_ ?_; (with_reducible refine (cmp_isNaN.calls a0 false _ A3.out).mono ?_); rintro e w' ⟨rfl, ⟨nd, rfl⟩⟩; refine ⟨_, rfl, ?_⟩) | ((with_reducible refine gate_callee (f := 99) rfl ?_); refine goesL_ (some 10) rfl rfl Try.func99 (by kernel_rfl) rfl #[.int .i64 a1] rfl mp_ ?_; (with_reducible refine (cmp_isNaN.calls a1 false _ A4.out).mono ?_); rintro e w' ⟨rfl, ⟨nd, rfl⟩⟩; refine ⟨_, rfl, ?_⟩))
         go_ret
         exact ⟨by first | rfl | (simp; done) | (simp [*]; done), by repeat (first | exact Drawn0.refl _ | apply Drawn0.step)⟩

/-! ### sleep_place_1: function 74 -/
def sleep_place_1.f (a0_0 : Int) (a0_1 : Int) (a0_2 : Int) (l0_3 : List (S62)) (l0_4 : List (S80)) (a1 : Int) : Option (Int) := (cmp_Compare.f a0_0 a1).bind fun t158 => (some t158)
set_option maxHeartbeats 8000000 in
set_option maxRecDepth 100000 in
theorem sleep_place_1.calls (a0_0 : Int) (a0_1 : Int) (a0_2 : Int) (A0_3 : Option Addr) (c0_3 : Nat) (l0_3 : List (S62)) (A0_4 : Option Addr) (c0_4 : Nat) (l0_4 : List (S80)) (a1 : Int) (r : Int) (w : World) (hr0_3 : Kd.C k62 w A0_3 l0_3.length l0_3) (hc0_3 : l0_3.length ≤ c0_3) (hr0_4 : Kd.C k80 w A0_4 l0_4.length l0_4) (hc0_4 : l0_4.length ≤ c0_4) (h : sleep_place_1.f a0_0 a0_1 a0_2 l0_3 l0_4 a1 = some r) :
 Calls Try.prog 74 #[.agg #[.int .i64 a0_0, .int .i64 a0_1, .int .i64 a0_2, .slice A0_3 l0_3.length c0_3, .slice A0_4 l0_4.length c0_4], .int .i64 a1] w fun e w' => e = .returned (.int .i64 r) ∧ Below w.heap.size w w' := by
 have hu26 := Try.underlying26
 have HR0_3 := ak hr0_3
 have HC0_3 := ak hc0_3
 clear hr0_3 hc0_3
 have HR0_4 := ak hr0_4
 have HC0_4 := ak hc0_4
 clear hr0_4 hc0_4
 have HB := ak (Below.refl w.heap.size w)
 have H : ((cmp_Compare.f a0_0 a1).bind fun t158 => (some t158)) = some r := h
 clear h
 obtain ⟨t158, A3, H⟩ := bd_ H
 obtain rfl := Option.some.inj H
 go_enter Try.func74, Try.ntmps74
 go_wp2_with (first | ((with_reducible refine gate_dst (N := 2) rfl ?_); refine box_event ?hg (N := 2) ?hd (cs := #[.int .i64 a0_0, .int .i64 a0_1, .int .i64 a0_2, .slice A0_3 l0_3.length c0_3, .slice A0_4 l0_4.length c0_4]) (t := 26) ?hr ?_; (case hd => rfl); (case hg => rfl); (case hr => first | (go_simp; done) | (go_simp; rfl)); intro gb157 hg w4 hbox hb; replace BK157 := ak (hbox); replace GW157 := ak ((by rw [hg]; exact bsz_ : w.heap.size ≤ gb157)); replace HB := ak (bst_ hb); replace GE157 := GW157; clear hb hbox hg; obtain ⟨hcz5_0, hcz5_1, hcz5_2, hcz5_3, hcz5_4, hfz5_0, hfz5_1, hfz5_2, hfz5_3, hfz5_4⟩ := bz5_ BK157) | ((with_reducible refine gate_callee (f := 75) rfl ?_); refine goesL_ (some 8) rfl rfl Try.func75 (by kernel_rfl) rfl #[.int .i64 a0_0, .int .i64 a1] rfl mp_ ?_; (with_reducible refine (cmp_Compare.calls a0_0 a1 t158 _ A3.out).mono ?_); rintro e w' ⟨rfl, ⟨nd, rfl⟩⟩; refine ⟨_, rfl, ?_⟩))
 go_ret
 exact ⟨by first | rfl | (simp [errW_none, errW_some] <;> rfl) | (simp [*, errW_none, errW_some] <;> rfl), bsw_⟩

/-! ### slices_BinarySearchFunc_at_sleep_place_1: function 73 -/
def slices_BinarySearchFunc_at_sleep_place_1.l0 : Nat → List (S26) → Int → Int → Int → Int → Option (Int × Bool)
 | 0, _, _, _, _, _ => none
 | k + 1, x0, x1, x8, x9, x10 => if x9 < x10 then (if 0 ≤ (wrap64 ((IntKind.u64.wrap (wrap64 (x9 + x10))) / 2)) then (if (wrap64 ((IntKind.u64.wrap (wrap64 (x9 + x10))) / 2)) < (x0.length : Int) then ((sleep_place_1.f ((rd_T26 x0 (wrap64 ((IntKind.u64.wrap (wrap64 (x9 + x10))) / 2))).f0) ((rd_T26 x0 (wrap64 ((IntKind.u64.wrap (wrap64 (x9 + x10))) / 2))).f1) ((rd_T26 x0 (wrap64 ((IntKind.u64.wrap (wrap64 (x9 + x10))) / 2))).f2) ((rd_T26 x0 (wrap64 ((IntKind.u64.wrap (wrap64 (x9 + x10))) / 2))).f3) ((rd_T26 x0 (wrap64 ((IntKind.u64.wrap (wrap64 (x9 + x10))) / 2))).f4) x1).bind fun t160 => (if t160 < 0 then (slices_BinarySearchFunc_at_sleep_place_1.l0 k x0 x1 x8 (wrap64 ((wrap64 ((IntKind.u64.wrap (wrap64 (x9 + x10))) / 2)) + 1)) x10) else (slices_BinarySearchFunc_at_sleep_place_1.l0 k x0 x1 x8 x9 (wrap64 ((IntKind.u64.wrap (wrap64 (x9 + x10))) / 2))))) else (none)) else (none)) else (if x9 < x8 then (if 0 ≤ x9 then (if x9 < (x0.length : Int) then ((sleep_place_1.f ((rd_T26 x0 x9).f0) ((rd_T26 x0 x9).f1) ((rd_T26 x0 x9).f2) ((rd_T26 x0 x9).f3) ((rd_T26 x0 x9).f4) x1).bind fun t162 => (some (x9, (t162 == 0)))) else (none)) else (none)) else (some (x9, false)))
def slices_BinarySearchFunc_at_sleep_place_1.f (k : Nat) (l0 : List (S26)) (a1 : Int)  : Option (Int × Bool) := slices_BinarySearchFunc_at_sleep_place_1.l0 k l0 a1 (l0.length : Int) 0 (l0.length : Int)
theorem slices_BinarySearchFunc_at_sleep_place_1.mono_l : ∀ k, (∀ y0 y1 y2 y3 y4, LeO (slices_BinarySearchFunc_at_sleep_place_1.l0 k y0 y1 y2 y3 y4) (slices_BinarySearchFunc_at_sleep_place_1.l0 (k + 1) y0 y1 y2 y3 y4))
 | 0 => fun _ _ _ _ _ r h => by simp [slices_BinarySearchFunc_at_sleep_place_1.l0] at h
 | k + 1 => by
  have ih0 := slices_BinarySearchFunc_at_sleep_place_1.mono_l k
  · intro y0 y1 y2 y3 y4
    unfold slices_BinarySearchFunc_at_sleep_place_1.l0
    repeat' first
    | (with_reducible exact ih0 _ _ _ _ _)
    | (with_reducible exact LeO.refl _)
    | (with_reducible exact LeO.none _)
    | (with_reducible refine LeO.ite ?_ ?_)
    | (with_reducible refine LeO.bind ?_ (fun _ => ?_))
    | exact ih0 _ _ _ _ _
    | exact LeO.none _
    | refine LeO.ite ?_ ?_
    | refine LeO.bind ?_ (fun _ => ?_)
theorem slices_BinarySearchFunc_at_sleep_place_1.mono : ∀ a0 a1 k, LeO (slices_BinarySearchFunc_at_sleep_place_1.f k a0 a1) (slices_BinarySearchFunc_at_sleep_place_1.f (k + 1) a0 a1) := by
 intro a0 a1 k
 have ih0 := slices_BinarySearchFunc_at_sleep_place_1.mono_l k
 unfold slices_BinarySearchFunc_at_sleep_place_1.f
 repeat' first
  | (with_reducible exact ih0 _ _ _ _ _)
  | (with_reducible exact LeO.refl _)
  | (with_reducible exact LeO.none _)
  | (with_reducible refine LeO.ite ?_ ?_)
  | (with_reducible refine LeO.bind ?_ (fun _ => ?_))
  | exact ih0 _ _ _ _ _
  | exact LeO.none _
  | refine LeO.ite ?_ ?_
  | refine LeO.bind ?_ (fun _ => ?_)
set_option maxHeartbeats 8000000 in
set_option maxRecDepth 100000 in
theorem slices_BinarySearchFunc_at_sleep_place_1.calls (k : Nat) (A0 : Option Addr) (c0 : Nat) (l0 : List (S26)) (a1 : Int)  (r1 : Int) (r2 : Bool) (w : World) (hr0 : Kd.C k26 w A0 l0.length l0) (hc0 : l0.length ≤ c0) (h : slices_BinarySearchFunc_at_sleep_place_1.f k l0 a1 = some (r1, r2)) :
 Calls Try.prog 73 #[.slice A0 l0.length c0, .int .i64 a1, .func (.func 74) #[] #[]] w fun e w' => e = .returned (.tuple #[.int .i64 r1, .bool r2]) ∧ Below w.heap.size w w' := by
 have hu26 := Try.underlying26
 have HR0 := ak hr0
 have HC0 := ak hc0
 clear hr0 hc0
 have HB := ak (Below.refl w.heap.size w)
 have H : (slices_BinarySearchFunc_at_sleep_place_1.l0 k l0 a1 (l0.length : Int) 0 (l0.length : Int)) = some (r1, r2) := h
 clear h
 have H' := ak H
 clear H
 go_enter Try.func73, Try.ntmps73
 go_wp2
 go_loopg [9, 10] k (fun kq v9 v10 w' => ∃ (x9_1 : Int) (x10_1 : Int), v9 = .int .i64 x9_1 ∧ v10 = .int .i64 x10_1 ∧ Aside0 (slices_BinarySearchFunc_at_sleep_place_1.l0 kq l0 a1 (l0.length : Int) x9_1 x10_1 = some (r1, r2)) ∧ Aside0 (kq ≤ k) ∧ Aside0 (Below w.heap.size w w'))
 case atStart => exact ⟨(0), ((l0.length : Int)), (by first | rfl | (simp; done) | (simp [*]; done)), (by first | rfl | (simp; done) | (simp [*]; done)), H', ⟨Nat.le_refl _⟩, ⟨bsv_⟩⟩
 case round =>
  clear H'
  try clear p2
  obtain ⟨x9_1, x10_1, rfl, rfl, HA, HK1, HB⟩ := hrel
  cases gk with
  | zero => exact absurd HA.out (by simp [slices_BinarySearchFunc_at_sleep_place_1.l0])
  | succ k1 =>
   have H := HA.out
   clear HA
   simp only [slices_BinarySearchFunc_at_sleep_place_1.l0] at H
   by_cases c4 : x9_1 < x10_1
   · rw [if_pos c4] at H
     have c4b0 : decide (x9_1 < x10_1) = true := decide_eq_true c4
     clear c4
     obtain ⟨ji5, hji5⟩ : ∃ j_ : Int, (wrap64 ((IntKind.u64.wrap (wrap64 (x9_1 + x10_1))) / 2)) = j_ := ⟨_, rfl⟩
     replace H : (if 0 ≤ (ji5) then (if (ji5) < (l0.length : Int) then ((sleep_place_1.f ((rd_T26 l0 (ji5)).f0) ((rd_T26 l0 (ji5)).f1) ((rd_T26 l0 (ji5)).f2) ((rd_T26 l0 (ji5)).f3) ((rd_T26 l0 (ji5)).f4) a1).bind fun t160 => (if t160 < 0 then (slices_BinarySearchFunc_at_sleep_place_1.l0 k1 l0 a1 (l0.length : Int) (wrap64 ((ji5) + 1)) x10_1) else (slices_BinarySearchFunc_at_sleep_place_1.l0 k1 l0 a1 (l0.length : Int) x9_1 ji5))) else (none)) else (none)) = some (r1, r2) := by first | (rw [hji5] at H; exact H) | (simp only [hji5] at H ⊢; exact H)
     have hji5w : (IntKind.i64.wrap ((IntKind.u64.wrap (wrap64 (x9_1 + x10_1))) / 2)) = ji5 := (i64_w _).trans hji5
     by_cases c6 : 0 ≤ (ji5)
     · rw [if_pos c6] at H
       have c6b0 : decide (0 ≤ (ji5)) = true := decide_eq_true c6
       clear c6
       by_cases c7 : (ji5) < (l0.length : Int)
       · rw [if_pos c7] at H
         have c7b0 : decide ((ji5) < (l0.length : Int)) = true := decide_eq_true c7
         clear c7
         obtain ⟨t160, A8, H⟩ := bd_ H
         by_cases c9 : t160 < 0
         · rw [if_pos c9] at H
           have c9b0 : decide (t160 < 0) = true := decide_eq_true c9
           clear c9
           have H' := ak H
           clear H
           have p159 : 0 ≤ ((ji5) : Int) := oda_
           have q159 : (ji5) < (l0.length : Int) := oda_
           obtain ⟨ad159, A159_3, c159_3, A159_4, c159_4, e159, hx159_0, hx159_1, hx159_2, hx159_3, hx159_4, hl159_3, hi159_3, hl159_4, hi159_4⟩ := at_T26 HR0.out (ji5) p159 q159
           cases e159
           replace hx159_0 := bl_ HB hx159_0
           replace hx159_1 := bl_ HB hx159_1
           replace hx159_2 := bl_ HB hx159_2
           replace hx159_3 := bl_ HB hx159_3
           replace hx159_4 := bl_ HB hx159_4
           have HR159_3 := ak hi159_3
           have HC159_3 := ak hl159_3
           clear hi159_3 hl159_3
           have HR159_4 := ak hi159_4
           have HC159_4 := ak hl159_4
           clear hi159_4 hl159_4
           replace p159 := eq_true p159
           replace q159 := eq_true q159
           go_wp2_with (first | (go_at_call 74; (with_reducible refine (sleep_place_1.calls ((rd_T26 l0 (ji5)).f0) ((rd_T26 l0 (ji5)).f1) ((rd_T26 l0 (ji5)).f2) _ _ ((rd_T26 l0 (ji5)).f3) _ _ ((rd_T26 l0 (ji5)).f4) a1 t160 _ ?side1 ?side2 ?side3 ?side4 A8.out).mono ?_); (case side1 => repeat (first | exact (Kd.C_below HR159_3.out HB.out) | with_reducible first | refine Kd.C_alloc ?_ _ | refine Kd.C_drewN ?_ _ | refine Kd.C_drew ?_)); (case side2 => exact HC159_3.out); (case side3 => repeat (first | exact (Kd.C_below HR159_4.out HB.out) | with_reducible first | refine Kd.C_alloc ?_ _ | refine Kd.C_drewN ?_ _ | refine Kd.C_drew ?_)); (case side4 => exact HC159_4.out); rintro e w10 ⟨rfl, hb⟩; replace HB := ak (bst_ hb); (try clear hb); (try clear hb2); (try clear hk); (try clear hi)))
           go_roundg k1
           case measure => have := HK1.out; omega
           case rel => exact ⟨(wrap64 ((ji5) + 1)), (x10_1), (by first | rfl | (simp; done) | (simp only [← hji5] <;> (first | rfl | simp)) | (simp [*]; done)), (by first | rfl | (simp; done) | (simp [*]; done)), H', ⟨by have := HK1.out; omega⟩, ⟨bsv_⟩⟩
         · rw [if_neg c9] at H
           have c9b0 : decide (t160 < 0) = false := decide_eq_false c9
           clear c9
           have H' := ak H
           clear H
           have p159 : 0 ≤ ((ji5) : Int) := oda_
           have q159 : (ji5) < (l0.length : Int) := oda_
           obtain ⟨ad159, A159_3, c159_3, A159_4, c159_4, e159, hx159_0, hx159_1, hx159_2, hx159_3, hx159_4, hl159_3, hi159_3, hl159_4, hi159_4⟩ := at_T26 HR0.out (ji5) p159 q159
           cases e159
           replace hx159_0 := bl_ HB hx159_0
           replace hx159_1 := bl_ HB hx159_1
           replace hx159_2 := bl_ HB hx159_2
           replace hx159_3 := bl_ HB hx159_3
           replace hx159_4 := bl_ HB hx159_4
           have HR159_3 := ak hi159_3
           have HC159_3 := ak hl159_3
           clear hi159_3 hl159_3
           have HR159_4 := ak hi159_4
           have HC159_4 := ak hl159_4
           clear hi159_4 hl159_4
           replace p159 := eq_true p159
           replace q159 := eq_true q159
           go_wp2_with (first | (go_at_call 74; (with_reducible refine (sleep_place_1.calls ((rd_T26 l0 (ji5)).f0) ((rd_T26 l0 (ji5)).f1) ((rd_T26 l0 (ji5)).f2) _ _ ((rd_T26 l0 (ji5)).f3) _ _ ((rd_T26 l0 (ji5)).f4) a1 t160 _ ?side1 ?side2 ?side3 ?side4 A8.out).mono ?_); (case side1 => repeat (first | exact (Kd.C_below HR159_3.out HB.out) | with_reducible first | refine Kd.C_alloc ?_ _ | refine Kd.C_drewN ?_ _ | refine Kd.C_drew ?_)); (case side2 => exact HC159_3.out); (case side3 => repeat (first | exact (Kd.C_below HR159_4.out HB.out) | with_reducible first | refine Kd.C_alloc ?_ _ | refine Kd.C_drewN ?_ _ | refine Kd.C_drew ?_)); (case side4 => exact HC159_4.out); rintro e w11 ⟨rfl, hb⟩; replace HB := ak (bst_ hb); (try clear hb); (try clear hb2); (try clear hk); (try clear hi)))
           go_roundg k1
           case measure => have := HK1.out; omega
           case rel => exact ⟨(x9_1), (ji5), (by first | rfl | (simp; done) | (simp [*]; done)), (by first | rfl | (simp; done) | (simp only [← hji5] <;> (first | rfl | simp)) | (simp [*]; done)), H', ⟨by have := HK1.out; omega⟩, ⟨bsv_⟩⟩
       · rw [if_neg c7] at H
         exact absurd H (by simp)
     · rw [if_neg c6] at H
       exact absurd H (by simp)
   · rw [if_neg c4] at H
     have c4b0 : decide (x9_1 < x10_1) = false := decide_eq_false c4
     clear c4
     by_cases c12 : x9_1 < (l0.length : Int)
     · rw [if_pos c12] at H
       have c12b0 : decide (x9_1 < (l0.length : Int)) = true := decide_eq_true c12
       clear c12
       by_cases c13 : 0 ≤ x9_1
       · rw [if_pos c13] at H
         have c13b0 : decide (0 ≤ x9_1) = true := decide_eq_true c13
         clear c13
         by_cases c14 : x9_1 < (l0.length : Int)
         · rw [if_pos c14] at H
           have c14b0 : decide (x9_1 < (l0.length : Int)) = true := decide_eq_true c14
           clear c14
           obtain ⟨t162, A15, H⟩ := bd_ H
           simp only [Option.some.injEq, Prod.mk.injEq] at H
           obtain ⟨rfl, rfl⟩ := H
           have p161 : 0 ≤ (x9_1 : Int) := oda_
           have q161 : x9_1 < (l0.length : Int) := oda_
           obtain ⟨ad161, A161_3, c161_3, A161_4, c161_4, e161, hx161_0, hx161_1, hx161_2, hx161_3, hx161_4, hl161_3, hi161_3, hl161_4, hi161_4⟩ := at_T26 HR0.out x9_1 p161 q161
           cases e161
           replace hx161_0 := bl_ HB hx161_0
           replace hx161_1 := bl_ HB hx161_1
           replace hx161_2 := bl_ HB hx161_2
           replace hx161_3 := bl_ HB hx161_3
           replace hx161_4 := bl_ HB hx161_4
           have HR161_3 := ak hi161_3
           have HC161_3 := ak hl161_3
           clear hi161_3 hl161_3
           have HR161_4 := ak hi161_4
           have HC161_4 := ak hl161_4
           clear hi161_4 hl161_4
           replace p161 := eq_true p161
           replace q161 := eq_true q161
           go_wp2_with (first | (go_at_call 74; (with_reducible refine (sleep_place_1.calls ((rd_T26 l0 x9_1).f0) ((rd_T26 l0 x9_1).f1) ((rd_T26 l0 x9_1).f2) _ _ ((rd_T26 l0 x9_1).f3) _ _ ((rd_T26 l0 x9_1).f4) a1 t162 _ ?side1 ?side2 ?side3 ?side4 A15.out).mono ?_); (case side1 => repeat (first | exact (Kd.C_below HR161_3.out HB.out) | with_reducible first | refine Kd.C_alloc ?_ _ | refine Kd.C_drewN ?_ _ | refine Kd.C_drew ?_)); (case side2 => exact HC161_3.out); (case side3 => repeat (first | exact (Kd.C_below HR161_4.out HB.out) | with_reducible first | refine Kd.C_alloc ?_ _ | refine Kd.C_drewN ?_ _ | refine Kd.C_drew ?_)); (case side4 => exact HC161_4.out); rintro e w16 ⟨rfl, hb⟩; replace HB := ak (bst_ hb); (try clear hb); (try clear hb2); (try clear hk); (try clear hi)))
           go_ret2
           exact ⟨by first | rfl | (simp [errW_none, errW_some] <;> rfl) | (simp [*, errW_none, errW_some] <;> rfl), bsv_⟩
         · rw [if_neg c14] at H
           exact absurd H (by simp)
       · rw [if_neg c13] at H
         exact absurd H (by simp)
     · rw [if_neg c12] at H
       have c12b0 : decide (x9_1 < (l0.length : Int)) = false := decide_eq_false c12
       clear c12
       simp only [Option.some.injEq, Prod.mk.injEq] at H
       obtain ⟨rfl, rfl⟩ := H
       go_wp2
       go_ret2
       exact ⟨by first | rfl | (simp [errW_none, errW_some] <;> rfl) | (simp [*, errW_none, errW_some] <;> rfl), bsv_⟩

/-! ### sleep_place: function 42 -/
def sleep_place.f (k : Nat) (l0 : List (S26)) (a1 : Int) : Option (Int × Bool) := (slices_BinarySearchFunc_at_sleep_place_1.f k l0 a1).bind fun bt163 => (some (bt163.1, bt163.2))
theorem sleep_place.mono : ∀ a0 a1 k, LeO (sleep_place.f k a0 a1) (sleep_place.f (k + 1) a0 a1) := by
 intro a0 a1 k
 unfold sleep_place.f
 repeat' first
  | (with_reducible exact slices_BinarySearchFunc_at_sleep_place_1.mono _ _ _)
  | (with_reducible exact LeO.refl _)
  | (with_reducible exact LeO.none _)
  | (with_reducible refine LeO.ite ?_ ?_)
  | (with_reducible refine LeO.bind ?_ (fun _ => ?_))
  | exact slices_BinarySearchFunc_at_sleep_place_1.mono _ _ _
  | exact LeO.none _
  | refine LeO.ite ?_ ?_
  | refine LeO.bind ?_ (fun _ => ?_)
set_option maxHeartbeats 8000000 in
set_option maxRecDepth 100000 in
theorem sleep_place.calls (k : Nat) (A0 : Option Addr) (c0 : Nat) (l0 : List (S26)) (a1 : Int) (r1 : Int) (r2 : Bool) (w : World) (hr0 : Kd.C k26 w A0 l0.length l0) (hc0 : l0.length ≤ c0) (h : sleep_place.f k l0 a1 = some (r1, r2)) :
 Calls Try.prog 42 #[.slice A0 l0.length c0, .int .i64 a1] w fun e w' => e = .returned (.tuple #[.int .i64 r1, .bool r2]) ∧ Below w.heap.size w w' := by
 have HR0 := ak hr0
 have HC0 := ak hc0
 clear hr0 hc0
 have HB := ak (Below.refl w.heap.size w)
 have H : ((slices_BinarySearchFunc_at_sleep_place_1.f k l0 a1).bind fun bt163 => (some (bt163.1, bt163.2))) = some (r1, r2) := h
 clear h
 replace H := Option.bind_eq_some_iff.mp H
 obtain ⟨⟨t163, t164⟩, A30, H⟩ := H
 have A3 := ak A30
 clear A30
 simp only [Option.some.injEq, Prod.mk.injEq] at H
 obtain ⟨rfl, rfl⟩ := H
 go_enter Try.func42, Try.ntmps42
 go_wp2_with (first | ((with_reducible refine gate_callee (f := 73) rfl ?_); refine goesL_ (some 8) rfl rfl Try.func73 (by kernel_rfl) rfl #[.slice A0 l0.length c0, .int .i64 a1, .func (.func 74) #[] #[]] rfl mp_ ?_; (with_reducible refine (slices_BinarySearchFunc_at_sleep_place_1.calls k _ _ l0 a1 t163 t164 _ ?side1 ?side2 A3.out).mono ?_); (case side1 => repeat (first | exact HR0.out | with_reducible first | refine Kd.C_alloc ?_ _ | refine Kd.C_drewN ?_ _ | refine Kd.C_drew ?_)); (case side2 => exact HC0.out); rintro e w4 ⟨rfl, hb⟩; refine ⟨_, rfl, ?_⟩; replace HB := ak (bst_ hb); (try clear hb); (try clear hb2); (try clear hk); (try clear hi)))
 go_ret2
 exact ⟨by first | rfl | (simp [errW_none, errW_some] <;> rfl) | (simp [*, errW_none, errW_some] <;> rfl), bsv_⟩

/-! ### slices_Clone_44: function 44 -/
def slices_Clone_44.f (l0 : List (S26)) : Option ((List (S26))) := (some (([] : List (S26)) : List (S26))).bind fun y165 => (if y165.length + l0.length < 1954687338268 then (some (y165 ++ l0)) else (none))
set_option maxHeartbeats 8000000 in
set_option maxRecDepth 100000 in
theorem slices_Clone_44.callsN (P0_ : Nat → Prop) (A0 : Option Addr) (c0 : Nat) (l0 : List (S26)) (r : List (S26)) (w : World) (hs0 : Kd.V k26 26 w w.heap.size (fun k_ => P0_ k_) (.slice A0 l0.length c0) l0) (h : slices_Clone_44.f l0 = some r) (hnn : A0.isNone = false) :
 Calls Try.prog 44 #[.slice A0 l0.length c0] w fun e w' => ∃ v0_ : Value, e = .returned (v0_) ∧ Kd.N k26 26 w' w.heap.size (fun k_ => (P0_ k_ ∨ w.heap.size ≤ k_)) v0_ r ∧ Below w.heap.size w w' := by
 have heql : ∀ W : World, (binOp .eql 22 (.slice A0 l0.length c0) (.slice none 0 0)).run Try.prog W = .ok (.bool false) W := fun W => by rw [Lib.run_eql_slice_nil W 22 26 A0 l0.length c0 0 0 Try.underlying22]; rw [hnn]
 clear hnn
 have HO0 := ak (show Kd.V k26 26 w w.heap.size (fun k_ => (P0_ k_ ∨ w.heap.size ≤ k_)) (.slice A0 l0.length c0) l0 from Kd.V_mono hs0 (fun k_ hk => .inl hk))
 have HB := ak (Below.refl w.heap.size w)
 have H : ((some (([] : List (S26)) : List (S26))).bind fun y165 => (if y165.length + l0.length < 1954687338268 then (some (y165 ++ l0)) else (none))) = some r := h
 clear h
 obtain ⟨y165, hy165⟩ : ∃ y_ : List (S26), y_ = (([] : List (S26))) := ⟨_, rfl⟩
 replace H : (if y165.length + l0.length < 1954687338268 then (some (y165 ++ l0)) else (none)) = some r := by first | (rw [hy165]; with_reducible exact H) | (have H2_ := (Option.bind_some _ _).symm.trans H; rw [hy165]; with_reducible exact H2_) | (have H2_ := (Option.bind_some _ _).symm.trans H; with_reducible exact H2_) | with_reducible exact H | (rw [hy165]; exact H) | exact H
 have Ny165 := ak hy165
 clear hy165
 by_cases c2 : y165.length + l0.length < 1954687338268
 · rw [if_pos c2] at H
   have LMc2 := ak c2
   clear c2
   obtain ⟨y168, hy168⟩ : ∃ y_ : List (S26), y_ = (y165 ++ l0) := ⟨_, rfl⟩
   replace H : (some y168) = some r := by first | (rw [hy168]; with_reducible exact H) | (have H2_ := (Option.bind_some _ _).symm.trans H; rw [hy168]; with_reducible exact H2_) | (have H2_ := (Option.bind_some _ _).symm.trans H; with_reducible exact H2_) | with_reducible exact H | (rw [hy168]; exact H) | exact H
   have Ny168 := ak hy168
   clear hy168
   obtain rfl := Option.some.inj H
   go_enter Try.func44, Try.ntmps44
   go_wp2_with (first | ((with_reducible refine gate_dst (N := 5) rfl ?_); refine Kd.N_lit k26 _ 26 ?hg (N' := 5) ?hd (xs := ([] : List (S26))) (inner := []) (ok := (fun k_ => (P0_ k_ ∨ w.heap.size ≤ k_))) (okp := (fun k_ => (P0_ k_ ∨ w.heap.size ≤ k_))) ?hr ?hp (fun _ hk => hk) ((show ∀ k_, w.heap.size ≤ k_ → (fun k_ => (P0_ k_ ∨ w.heap.size ≤ k_)) k_ from fun k_ hk => (.inr (Nat.le_trans bsz_ hk))) _ (Nat.le_refl _)) (Below.refl _ _) (Nat.le_refl _) (by simp) ?_; (case hd => rfl); (case hg => rfl); (case hr => first | (go_simp; done) | (go_simp; rfl)); (case hp => exact (Reps.none _ _)); intro v166 w3 ho4 hb hg_ hnew_; clear hg_ hnew_; (first | rw [← Ny165.out] at ho4 | (simp only [Int.reduceToNat] at ho4; rw [← Ny165.out] at ho4)); replace HO0 := ak (Kd.V_elder' (vq_ HO0) (Kd.N_base ho4) hb); replace HO167 := ak (Kd.N_lower ho4 bsz_); replace HB := ak (bst_ hb); clear hb ho4) | ((with_reducible refine gate_builtin (b := .append) (xs := #[.tmp 5, .tmp 6]) rfl ?_); at_builtin; refine Kd.N_append_rows k26 (w0 := w) w.heap.size rfl (.tmp 5) (.tmp 6) 22 26 (.agg #[(.int .i64 0), (.int .i64 0), (.int .i64 0), (.slice none 0 0), (.slice none 0 0)]) 72 rfl Try.underlying22 info26 rfl (by decide) (by omega) v166 y165 l0 _ _ _ (fun k_ => (P0_ k_ ∨ w.heap.size ≤ k_)) (fun k_ => ((fun k_ => (P0_ k_ ∨ w.heap.size ≤ k_))) k_ ∧ some k_ ≠ (v166 : Value).ownBlock) rfl rfl ?aO ?aR (fun _ hk => hk) ?aF ?aB ?aS ?aL ?_; (case aR => exact (by skip; exact Kd.V_F (e := 0) (base := 0) (Kd.V_mono (ok' := (fun k_ => ((fun k_ => (P0_ k_ ∨ w.heap.size ≤ k_))) k_ ∧ some k_ ≠ (v166 : Value).ownBlock)) (HO0.out) (fun k_ hk => ⟨hk.1, hk.2⟩)))); (case aB => exact bsv_); (case aF => exact (fun k_ hk => (.inr (Nat.le_trans bsz_ hk)))); (case aO => exact (nq_ HO167)); (case aS => exact bsz_); (case aL => have := LMc2.out; omega); intro v169 w5 ho hb hg hat; rw [← Ny168.out] at ho; replace HO0 := ak (Kd.V_afterv (ok := (fun k_ => (P0_ k_ ∨ w.heap.size ≤ k_))) (vq_ HO0) hg hat); replace HB := ak (hb); replace HO170 := ak (ho); clear HO167; clear ho hb hg hat))
   go_ret
   exact ⟨_, by first | rfl | (simp [errW_none, errW_some] <;> rfl) | (simp [*, errW_none, errW_some] <;> rfl), nq_ HO170, bsv_⟩
 · rw [if_neg c2] at H
   exact absurd H (by simp)

set_option maxHeartbeats 2000000 in
theorem slices_Clone_44.calls (P0_ : Nat → Prop) (A0 : Option Addr) (c0 : Nat) (l0 : List (S26)) (r : List (S26)) (w : World) (hs0 : Kd.V k26 26 w w.heap.size (fun k_ => P0_ k_) (.slice A0 l0.length c0) l0) (h : slices_Clone_44.f l0 = some r) :
 Calls Try.prog 44 #[.slice A0 l0.length c0] w fun e w' => ∃ v0_ : Value, e = .returned (v0_) ∧ Kd.N k26 26 w' w.heap.size (fun k_ => (P0_ k_ ∨ w.heap.size ≤ k_)) v0_ r ∧ Below w.heap.size w w' := by
 cases hA : A0 with
 | some ad => subst hA; exact slices_Clone_44.callsN P0_ (some ad) c0 l0 r w hs0 h rfl
 | none =>
  subst hA
  obtain rfl : l0 = [] := by
   rcases Nat.eq_zero_or_pos l0.length with h0 | h0
   · exact List.length_eq_zero_iff.1 h0
   · obtain ⟨ad, c, e0, _⟩ := Kd.C_get (Kd.V_reads' hs0).2.2 z26 0 (by omega) (by omega)
     cases e0
  obtain rfl : [] = r := by simpa [slices_Clone_44.f] using h
  have heql : ∀ W : World, (binOp .eql 22 (.slice none 0 c0) (.slice none 0 0)).run Try.prog W = .ok (.bool true) W := fun W => by rw [Lib.run_eql_slice_nil W 22 26 none 0 c0 0 0 Try.underlying22]; rfl
  clear hs0 h
  simp only [List.length_nil]
  go_enter Try.func44, Try.ntmps44
  go_wp2
  go_ret
  exact ⟨_, rfl, by first | exact Kd.R_nil _ _ _ _ _ | exact Kd.N_nil _ _ _ _ _ | exact Kd.V_nil _ _ _ _ _, Below.refl _ _⟩

/-! ### slices_Delete: function 47: the library's -/
set_option maxHeartbeats 4000000 in
set_option maxRecDepth 100000 in
theorem slices_Delete.calls (base : Nat) (ok : Nat → Prop) (g n cap : Nat) (l0 : List (S26)) (i j : Int) (w0 w : World) (HB : Below base w0 w) (hbase : base ≤ w.heap.size) (ho0 : Kd.N k26 26 w base ok (.slice (some ⟨g, 0, none⟩) n cap) l0) (h0 : 0 ≤ i) (h1 : i < (n : Int)) (hj : j = i + 1) :
 Calls Try.prog 47 #[.slice (some ⟨g, 0, none⟩) n cap, .int .i64 i, .int .i64 j] w fun e w' => e = .returned (.slice (some ⟨g, 0, none⟩) (n - 1) cap) ∧ Kd.N k26 26 w' base ok (.slice (some ⟨g, 0, none⟩) (n - 1) cap) (l0.eraseIdx i.toNat) ∧ Below base w0 w' ∧ w.grownBy w' (some g) := by
 obtain ⟨hn, hnc, hC0⟩ := Kd.N_reads' ho0
 obtain ⟨k, rfl⟩ := Int.eq_ofNat_of_zero_le h0
 subst hj
 have hcm : cap ≤ 9223372036854775807 := Dl.N_cap ho0
 have hkn : k < n := by omega
 have H0 := ak (Kd.N_drew ho0)
 have HB0 := ak (below_drew HB)
 have hic : decide ((k : Int) = (k : Int) + 1) = false := decide_eq_false (by omega)
 have hle : n ≤ cap := hnc
 have hbg : base ≤ g := Dl.N_base ho0
 clear hn hnc ho0 h0 h1 hC0
 have hkc : k ≤ cap := by omega
 have hk1 : k + 1 ≤ cap := by omega
 have hz1 : 0 ≤ (k : Int) + 1 := by omega
 have hz2 : (k : Int) + 1 ≤ (n : Int) := by omega
 have mixed : Try.prog.follows .mixedOrders = true := by kernel_rfl
 go_enter Try.func47, Try.ntmps47
 go_wp2_with fail
 go_region_law_o (refine Kd.N_delete_step k26 base (by rfl) (.tmp 22) (.tmp 25) 22 26 rfl Try.underlying22 (by kernel_rfl) (g := g) (n := n) (c := cap) (k := k) rfl rfl ?hA ?hm H0.out hkn HB0.out (by exact hbase) ?_; (case hA => simp only [Option.map_some, Addr.add]; first | done | rfl | (split <;> simp <;> rfl)); (case hm => rfl); intro w1 hr1 hb1 hg1)
 have hn1 : 0 < n := by omega
 have hk2 : (n - 1) * 5 + 5 ≤ cap * 5 := by omega
 have hcl : ∀ ty c, (Builtin.clear_ #[22] ty #[.slice (some ⟨g, (n - 1) * 5, none⟩) 1 c]).run Try.prog w1 = .ok (.tuple #[]) (w1.setCells g ((n - 1) * 5) [(.int .i64 0), (.int .i64 0), (.int .i64 0), (.slice none 0 0), (.slice none 0 0)]) := fun ty c =>
  Dl.clear_one w1 22 26 ty _ Try.underlying22 Try.zeroValue26 (by decide) g ((n - 1) * 5) c (fun j hj => (Dl.N_cells hr1 _ (by show (n - 1) * 5 + j < cap * 5; have : j < 5 := hj; omega)).1) (fun j hj => (Dl.N_cells hr1 _ (by show (n - 1) * 5 + j < cap * 5; have : j < 5 := hj; omega)).2)
 have hr2 := ak (Dl.N_tail hr1 [(.int .i64 0), (.int .i64 0), (.int .i64 0), (.slice none 0 0), (.slice none 0 0)] ((n - 1) * 5) (by show (n - 1) * 5 ≤ _; omega) (by show (n - 1) * 5 + 5 ≤ cap * 5; omega))
 have hz3 : ((n - 1 : Nat) : Int) ≤ n := by omega
 have hz4 : n - 1 ≤ n := by omega
 have hz5 : ¬ cap = n - 1 := by omega
 have hz6 : n - (n - 1) = 1 := by omega
 have hb2 := ak (hb1.grown (Dl.set_grown w1 g ((n - 1) * 5) [(.int .i64 0), (.int .i64 0), (.int .i64 0), (.slice none 0 0), (.slice none 0 0)]) (Nat.le_trans hbase (Dl.grown_trans (Dl.drew_grown w _) hg1).size) (fun q hq => by injection hq with hq; subst hq; exact hbg))
 have hg2 := ak (Dl.grown_trans (Dl.grown_trans (Dl.drew_grown w _) hg1) (Dl.set_grown w1 g ((n - 1) * 5) [(.int .i64 0), (.int .i64 0), (.int .i64 0), (.slice none 0 0), (.slice none 0 0)]))
 clear hr1 H0 HB0 HB hbase hb1 hg1
 go_wp2
 all_goals (go_ret; first | exact ⟨rfl, hr2.out, hb2.out, hg2.out⟩ | (have hq_ : cap = k + 1 := (by assumption); have hr3 := hr2.out; rw [hq_] at hr3; exact ⟨rfl, hr3, hb2.out, hg2.out⟩))

/-! ### sleep_Drop: function 20 -/
def sleep_Drop.l0 : Nat → List (S26) → List (S26) → List Int → Int → Int → Option ((List (S26)) × Int)
 | 0, _, _, _, _, _ => none
 | k + 1, x0, x6, x17, x18, x19 => if x19 < x18 then (if 0 ≤ x19 then (if x19 < (x17.length : Int) then ((sleep_place.f k x6 (rd x17 x19)).bind fun bt176 => (if bt176.2 = true then (if 0 ≤ bt176.1 then (if bt176.1 < (x6.length : Int) then (sleep_Drop.l0 k x0 (x6.eraseIdx (bt176.1 : Int).toNat) x17 x18 (wrap64 (x19 + 1))) else (none)) else (none)) else (some (x0, 3)))) else (none)) else (none)) else (some (x6, 0))
def sleep_Drop.f (k : Nat) (l0 : List (S26)) (l1 : List Int) : Option ((List (S26)) × Int) := (slices_Clone_44.f l0).bind fun t171 => ((sleep_Right.f k l0).bind fun t174 => (if t174 = true then (sleep_Drop.l0 k l0 t171 l1 (l1.length : Int) 0) else (some (l0, 1))))
theorem sleep_Drop.mono_l : ∀ k, (∀ y0 y1 y2 y3 y4, LeO (sleep_Drop.l0 k y0 y1 y2 y3 y4) (sleep_Drop.l0 (k + 1) y0 y1 y2 y3 y4))
 | 0 => fun _ _ _ _ _ r h => by simp [sleep_Drop.l0] at h
 | k + 1 => by
  have ih0 := sleep_Drop.mono_l k
  · intro y0 y1 y2 y3 y4
    unfold sleep_Drop.l0
    repeat' first
    | (with_reducible exact ih0 _ _ _ _ _)
    | (with_reducible exact sleep_Right.mono _ _)
    | (with_reducible exact sleep_place.mono _ _ _)
    | (with_reducible exact LeO.refl _)
    | (with_reducible exact LeO.none _)
    | (with_reducible refine LeO.ite ?_ ?_)
    | (with_reducible refine LeO.bind ?_ (fun _ => ?_))
    | exact ih0 _ _ _ _ _
    | exact sleep_Right.mono _ _
    | exact sleep_place.mono _ _ _
    | exact LeO.none _
    | refine LeO.ite ?_ ?_
    | refine LeO.bind ?_ (fun _ => ?_)
theorem sleep_Drop.mono : ∀ a0 a1 k, LeO (sleep_Drop.f k a0 a1) (sleep_Drop.f (k + 1) a0 a1) := by
 intro a0 a1 k
 have ih0 := sleep_Drop.mono_l k
 unfold sleep_Drop.f
 repeat' first
  | (with_reducible exact ih0 _ _ _ _ _)
  | (with_reducible exact sleep_Right.mono _ _)
  | (with_reducible exact sleep_place.mono _ _ _)
  | (with_reducible exact LeO.refl _)
  | (with_reducible exact LeO.none _)
  | (with_reducible refine LeO.ite ?_ ?_)
  | (with_reducible refine LeO.bind ?_ (fun _ => ?_))
  | exact ih0 _ _ _ _ _
  | exact sleep_Right.mono _ _
  | exact sleep_place.mono _ _ _
  | exact LeO.none _
  | refine LeO.ite ?_ ?_
  | refine LeO.bind ?_ (fun _ => ?_)
set_option maxHeartbeats 8000000 in
set_option maxRecDepth 100000 in
theorem sleep_Drop.calls (k : Nat) (P0_ : Nat → Prop) (A0 : Option Addr) (c0 : Nat) (l0 : List (S26)) (A1 : Option Addr) (c1 : Nat) (l1 : List Int) (r1 : List (S26)) (r2 : Int) (w : World) (hs0 : Kd.V k26 26 w w.heap.size (fun k_ => P0_ k_) (.slice A0 l0.length c0) l0) (hr1 : Kd.C (Kd.int .i64) w A1 l1.length l1) (hc1 : l1.length ≤ c1) (h : sleep_Drop.f k l0 l1 = some (r1, r2)) :
 Calls Try.prog 20 #[.slice A0 l0.length c0, .slice A1 l1.length c1] w fun e w' => ∃ v0_ : Value, e = .returned (.tuple #[v0_, .int .i64 r2]) ∧ Kd.V k26 26 w' w.heap.size (fun k_ => (P0_ k_ ∨ w.heap.size ≤ k_)) v0_ r1 ∧ Below w.heap.size w w' := by
 have HO0 := ak (show Kd.V k26 26 w w.heap.size (fun k_ => (P0_ k_ ∨ w.heap.size ≤ k_)) (.slice A0 l0.length c0) l0 from Kd.V_mono hs0 (fun k_ hk => .inl hk))
 have HR1 := ak hr1
 have HC1 := ak hc1
 clear hr1 hc1
 have HB := ak (Below.refl w.heap.size w)
 have H : ((slices_Clone_44.f l0).bind fun t171 => ((sleep_Right.f k l0).bind fun t174 => (if t174 = true then (sleep_Drop.l0 k l0 t171 l1 (l1.length : Int) 0) else (some (l0, 1))))) = some (r1, r2) := h
 clear h
 obtain ⟨t171, A3, H⟩ := bd_ H
 obtain ⟨t174, A4, H⟩ := bd_ H
 by_cases c5 : t174 = true
 · subst c5
   rw [if_pos rfl] at H
   have H' := ak H
   clear H
   go_enter Try.func20, Try.ntmps20
   go_wp2_with (first | ((with_reducible refine gate_callee (f := 44) rfl ?_); refine goesL_ (some 12) rfl rfl Try.func44 (by kernel_rfl) rfl #[.slice A0 l0.length c0] rfl mp_ ?_; (with_reducible refine (slices_Clone_44.calls (fun k_ => (P0_ k_ ∨ w.heap.size ≤ k_)) _ _ l0 t171 _ ?side1 A3.out).mono ?_); (case side1 => exact HO0.out); rintro e w6 ⟨v172, rfl, ho0, hb⟩; refine ⟨_, rfl, ?_⟩; replace HO0 := ak (Kd.V_elder' (vq_ HO0) (Kd.N_base ho0) hb); replace HO173 := ak (Kd.N_lower (Kd.N_mono (ok' := fun k_ => (P0_ k_ ∨ w.heap.size ≤ k_)) ho0 (fun k_ hk_ => Or.elim hk_ (fun hs_ => hs_) (fun hn_ => (.inr (Nat.le_trans bsz_ hn_))))) bsz_); replace HB := ak (bst_ hb); (try clear hb); (try clear hb2); (try clear hk); (try clear hi); (try clear ho0)) | ((with_reducible refine gate_callee (f := 26) rfl ?_); refine goesL_ (some 14) rfl rfl Try.func26 (by kernel_rfl) rfl #[.slice A0 l0.length c0] rfl mp_ ?_; (with_reducible refine (sleep_Right.calls k _ _ l0 true _ ?side1 ?side2 A4.out).mono ?_); (case side1 => exact vc_ HO0); (case side2 => exact vl_ HO0); rintro e w7 ⟨rfl, hb⟩; refine ⟨_, rfl, ?_⟩; replace HO0 := vb_ HO0 hb; replace HO173 := nb_ HO173 hb; replace HB := ak (bst_ hb); (try clear hb); (try clear hb2); (try clear hk); (try clear hi)))
   go_loopg [6, 19] k (fun kq v6 v19 w' => ∃ (x6_1 : List (S26)) (x19_1 : Int), v19 = .int .i64 x19_1 ∧ Aside0 (sleep_Drop.l0 kq l0 x6_1 l1 (l1.length : Int) x19_1 = some (r1, r2)) ∧ Aside0 (kq ≤ k) ∧ Aside0 (Kd.V k26 26 w' w.heap.size (fun k_ => (P0_ k_ ∨ w.heap.size ≤ k_) ∧ some k_ ≠ (v6 : Value).ownBlock) (.slice A0 l0.length c0) l0) ∧ Aside0 (Kd.N k26 26 w' w.heap.size (fun k_ => (P0_ k_ ∨ w.heap.size ≤ k_)) v6 x6_1) ∧ Aside0 (Below w.heap.size w w'))
   case atStart => exact ⟨(t171), (0), (by first | rfl | (simp; done) | (simp [*]; done)), H', ⟨Nat.le_refl _⟩, ⟨vq_ HO0⟩, ⟨nq_ HO173⟩, ⟨bsv_⟩⟩
   case round =>
    clear H'
    try clear c1
    try clear c2
    try clear p2
    try clear c4
    try clear c5
    obtain ⟨x6_1, x19_1, rfl, HA, HK1, HO_0, HO_6, HB⟩ := hrel
    cases gk with
    | zero => exact absurd HA.out (by simp [sleep_Drop.l0])
    | succ k1 =>
     have H := HA.out
     clear HA
     simp only [sleep_Drop.l0] at H
     by_cases c8 : x19_1 < (l1.length : Int)
     · rw [if_pos c8] at H
       have c8b0 : decide (x19_1 < (l1.length : Int)) = true := decide_eq_true c8
       clear c8
       by_cases c9 : 0 ≤ x19_1
       · rw [if_pos c9] at H
         have c9b0 : decide (0 ≤ x19_1) = true := decide_eq_true c9
         clear c9
         by_cases c10 : x19_1 < (l1.length : Int)
         · rw [if_pos c10] at H
           have c10b0 : decide (x19_1 < (l1.length : Int)) = true := decide_eq_true c10
           clear c10
           replace H := Option.bind_eq_some_iff.mp H
           obtain ⟨⟨t176, t177⟩, A110, H⟩ := H
           have A11 := ak A110
           clear A110
           by_cases c12 : t177 = true
           · subst c12
             rw [if_pos rfl] at H
             by_cases c13 : 0 ≤ t176
             · rw [if_pos c13] at H
               have c13b0 : decide (0 ≤ t176) = true := decide_eq_true c13
               clear c13
               by_cases c14 : t176 < (x6_1.length : Int)
               · rw [if_pos c14] at H
                 have c14b0 : decide (t176 < (x6_1.length : Int)) = true := decide_eq_true c14
                 clear c14
                 obtain ⟨y178, hy178⟩ : ∃ y_ : List (S26), y_ = (x6_1.eraseIdx (t176 : Int).toNat) := ⟨_, rfl⟩
                 replace H : (sleep_Drop.l0 k1 l0 y178 l1 (l1.length : Int) (wrap64 (x19_1 + 1))) = some (r1, r2) := by first | (rw [hy178]; with_reducible exact H) | (have H2_ := (Option.bind_some _ _).symm.trans H; rw [hy178]; with_reducible exact H2_) | (have H2_ := (Option.bind_some _ _).symm.trans H; with_reducible exact H2_) | with_reducible exact H | (rw [hy178]; exact H) | exact H
                 have Ny178 := ak hy178
                 clear hy178
                 have H' := ak H
                 clear H
                 have p175 : 0 ≤ (x19_1 : Int) := oda_
                 have q175 : x19_1 < (l1.length : Int) := oda_
                 obtain ⟨ad175, e175, hx175_0⟩ := Kd.at_int HR1.out x19_1 p175 q175
                 cases e175
                 replace hx175_0 := bl_ HB hx175_0
                 replace p175 := eq_true p175
                 replace q175 := eq_true q175
                 obtain ⟨Ao15, co15, eo15⟩ := Kd.N_slice HO_6.out
                 subst eo15
                 go_wp2_with (first | ((with_reducible refine gate_callee (f := 42) rfl ?_); refine goesL_ (some 26) rfl rfl Try.func42 (by kernel_rfl) rfl #[.slice Ao15 x6_1.length co15, .int .i64 (rd l1 x19_1)] rfl mp_ ?_; (with_reducible refine (sleep_place.calls k1 _ _ x6_1 (rd l1 x19_1) t176 true _ ?side1 ?side2 A11.out).mono ?_); (case side1 => repeat (first | exact (Kd.N_reads' HO_6.out).2.2 | with_reducible first | refine Kd.C_alloc ?_ _ | refine Kd.C_drewN ?_ _ | refine Kd.C_drew ?_)); (case side2 => exact (Kd.N_reads' HO_6.out).2.1); rintro e w16 ⟨rfl, hb⟩; refine ⟨_, rfl, ?_⟩; replace HO_0 := vb_ HO_0 hb; replace HO_6 := nb_ HO_6 hb; replace HB := ak (bst_ hb); (try clear hb); (try clear hb2); (try clear hk); (try clear hi)) | ((with_reducible refine gate_callee (f := 47) rfl ?_); have hj_ : 0 ≤ (t176 : Int) := oda_; have hl_ : (t176 : Int) < (x6_1.length : Int) := oda_; have hh_ := (Kd.N_reads' HO_6.out).2.1; have hb_ := (Kd.N_reads' HO_6.out).2.2.2.1; have hy1_ := hb_; have hk_ := hb_; have h0_ := hb_; obtain ⟨gd18, cap_, ev_, _⟩ := Kd.N_form HO_6.out (by omega); injection ev_ with ea_ eb_ ec_; subst ea_; clear eb_ ec_; refine goesL_ (some 36) rfl rfl Try.func47 (by kernel_rfl) rfl #[.slice (some ⟨gd18, 0, none⟩) x6_1.length co15, .int .i64 (t176), .int .i64 (wrap64 (t176 + 1))] rfl mp_ ?_; refine (slices_Delete.calls w.heap.size _ gd18 x6_1.length co15 x6_1 (t176) _ w _ bsv_ bsz_ (nq_ HO_6) hj_ hl_ ?hjj).mono ?_; (case hjj => unfold wrap64; omega); rintro e w17 ⟨rfl, ho, hb, hg⟩; refine ⟨_, rfl, ?_⟩; clear hj_ hl_ hh_ hb_ hk_ h0_; rw [← Ny178.out] at ho; clear hy1_; have hn_ : x6_1.length - 1 = y178.length := (by have := (Kd.N_reads' ho).1; omega); rw [hn_] at ho ⊢; clear hn_; replace HO_0 := ak (Kd.V_afterv (v := (.slice (some ⟨gd18, 0, none⟩) x6_1.length co15)) (v1 := .slice (some ⟨gd18, 0, none⟩) y178.length co15) (ok := (fun k_ => (P0_ k_ ∨ w.heap.size ≤ k_))) (vq_ HO_0) hg (.inl rfl)); replace HO_6 := ak (ho); replace HB := ak (hb); clear ho hb hg))
                 go_roundg k1
                 case measure => have := HK1.out; omega
                 case rel => exact ⟨(y178), (wrap64 (x19_1 + 1)), (by first | rfl | (simp; done) | (simp [*]; done)), H', ⟨by have := HK1.out; omega⟩, ⟨vq_ HO_0⟩, ⟨nq_ HO_6⟩, ⟨bsv_⟩⟩
               · rw [if_neg c14] at H
                 exact absurd H (by simp)
             · rw [if_neg c13] at H
               exact absurd H (by simp)
           · replace c12 := Bool.eq_false_iff.mpr c12
             subst c12
             rw [if_neg (show ¬ (false = true) by decide)] at H
             simp only [Option.some.injEq, Prod.mk.injEq] at H
             obtain ⟨rfl, rfl⟩ := H
             have p175 : 0 ≤ (x19_1 : Int) := oda_
             have q175 : x19_1 < (l1.length : Int) := oda_
             obtain ⟨ad175, e175, hx175_0⟩ := Kd.at_int HR1.out x19_1 p175 q175
             cases e175
             replace hx175_0 := bl_ HB hx175_0
             replace p175 := eq_true p175
             replace q175 := eq_true q175
             obtain ⟨Ao19, co19, eo19⟩ := Kd.N_slice HO_6.out
             subst eo19
             go_wp2_with (first | ((with_reducible refine gate_callee (f := 42) rfl ?_); refine goesL_ (some 26) rfl rfl Try.func42 (by kernel_rfl) rfl #[.slice Ao19 x6_1.length co19, .int .i64 (rd l1 x19_1)] rfl mp_ ?_; (with_reducible refine (sleep_place.calls k1 _ _ x6_1 (rd l1 x19_1) t176 false _ ?side1 ?side2 A11.out).mono ?_); (case side1 => repeat (first | exact (Kd.N_reads' HO_6.out).2.2 | with_reducible first | refine Kd.C_alloc ?_ _ | refine Kd.C_drewN ?_ _ | refine Kd.C_drew ?_)); (case side2 => exact (Kd.N_reads' HO_6.out).2.1); rintro e w20 ⟨rfl, hb⟩; refine ⟨_, rfl, ?_⟩; replace HO_0 := vb_ HO_0 hb; replace HO_6 := nb_ HO_6 hb; replace HB := ak (bst_ hb); (try clear hb); (try clear hb2); (try clear hk); (try clear hi)))
             go_ret2
             exact ⟨_, by first | rfl | (simp [errW_none, errW_some] <;> rfl) | (simp [*, errW_none, errW_some] <;> rfl), Kd.V_mono (vq_ HO_0) (fun _ hk => hk.1), bsv_⟩
         · rw [if_neg c10] at H
           exact absurd H (by simp)
       · rw [if_neg c9] at H
         exact absurd H (by simp)
     · rw [if_neg c8] at H
       have c8b0 : decide (x19_1 < (l1.length : Int)) = false := decide_eq_false c8
       clear c8
       simp only [Option.some.injEq, Prod.mk.injEq] at H
       obtain ⟨rfl, rfl⟩ := H
       go_wp2
       go_ret2
       exact ⟨_, by first | rfl | (simp [errW_none, errW_some] <;> rfl) | (simp [*, errW_none, errW_some] <;> rfl), Kd.N_V (nq_ HO_6), bsv_⟩
 · replace c5 := Bool.eq_false_iff.mpr c5
   subst c5
   rw [if_neg (show ¬ (false = true) by decide)] at H
   simp only [Option.some.injEq, Prod.mk.injEq] at H
   obtain ⟨rfl, rfl⟩ := H
   go_enter Try.func20, Try.ntmps20
   go_wp2_with (first | ((with_reducible refine gate_callee (f := 44) rfl ?_); refine goesL_ (some 12) rfl rfl Try.func44 (by kernel_rfl) rfl #[.slice A0 l0.length c0] rfl mp_ ?_; (with_reducible refine (slices_Clone_44.calls (fun k_ => (P0_ k_ ∨ w.heap.size ≤ k_)) _ _ l0 t171 _ ?side1 A3.out).mono ?_); (case side1 => exact HO0.out); rintro e w21 ⟨v172, rfl, ho0, hb⟩; refine ⟨_, rfl, ?_⟩; replace HO0 := ak (Kd.V_elder' (vq_ HO0) (Kd.N_base ho0) hb); replace HO173 := ak (Kd.N_lower (Kd.N_mono (ok' := fun k_ => (P0_ k_ ∨ w.heap.size ≤ k_)) ho0 (fun k_ hk_ => Or.elim hk_ (fun hs_ => hs_) (fun hn_ => (.inr (Nat.le_trans bsz_ hn_))))) bsz_); replace HB := ak (bst_ hb); (try clear hb); (try clear hb2); (try clear hk); (try clear hi); (try clear ho0)) | ((with_reducible refine gate_callee (f := 26) rfl ?_); refine goesL_ (some 14) rfl rfl Try.func26 (by kernel_rfl) rfl #[.slice A0 l0.length c0] rfl mp_ ?_; (with_reducible refine (sleep_Right.calls k _ _ l0 false _ ?side1 ?side2 A4.out).mono ?_); (case side1 => exact vc_ HO0); (case side2 => exact vl_ HO0); rintro e w22 ⟨rfl, hb⟩; refine ⟨_, rfl, ?_⟩; replace HO0 := vb_ HO0 hb; replace HO173 := nb_ HO173 hb; replace HB := ak (bst_ hb); (try clear hb); (try clear hb2); (try clear hk); (try clear hi)))
   go_ret2
   exact ⟨_, by first | rfl | (simp [errW_none, errW_some] <;> rfl) | (simp [*, errW_none, errW_some] <;> rfl), Kd.V_mono (vq_ HO0) (fun _ hk => hk.1), bsv_⟩

/-! ### sleep_Find: function 23 -/
def sleep_Find.f (k : Nat) (l0 : List (S26)) (a1 : Int) : Option (Int × Int × Int × (List (S62)) × (List (S80)) × Int) := (sleep_Right.f k l0).bind fun t182 => (if t182 = true then ((sleep_place.f k l0 a1).bind fun bt183 => (if bt183.2 = true then (if 0 ≤ bt183.1 then (if bt183.1 < (l0.length : Int) then (some ((rd_T26 l0 bt183.1).f0, (rd_T26 l0 bt183.1).f1, (rd_T26 l0 bt183.1).f2, (rd_T26 l0 bt183.1).f3, (rd_T26 l0 bt183.1).f4, 0)) else (none)) else (none)) else (some (0, 0, 0, ([] : List (S62)), ([] : List (S80)), 3)))) else (some (0, 0, 0, ([] : List (S62)), ([] : List (S80)), 1)))
theorem sleep_Find.mono : ∀ a0 a1 k, LeO (sleep_Find.f k a0 a1) (sleep_Find.f (k + 1) a0 a1) := by
 intro a0 a1 k
 unfold sleep_Find.f
 repeat' first
  | (with_reducible exact sleep_Right.mono _ _)
  | (with_reducible exact sleep_place.mono _ _ _)
  | (with_reducible exact LeO.refl _)
  | (with_reducible exact LeO.none _)
  | (with_reducible refine LeO.ite ?_ ?_)
  | (with_reducible refine LeO.bind ?_ (fun _ => ?_))
  | exact sleep_Right.mono _ _
  | exact sleep_place.mono _ _ _
  | exact LeO.none _
  | refine LeO.ite ?_ ?_
  | refine LeO.bind ?_ (fun _ => ?_)
set_option maxHeartbeats 8000000 in
set_option maxRecDepth 100000 in
theorem sleep_Find.calls (k : Nat) (P0_ : Nat → Prop) (A0 : Option Addr) (c0 : Nat) (l0 : List (S26)) (a1 : Int) (r1 : Int) (r2 : Int) (r3 : Int) (r4 : List (S62)) (r5 : List (S80)) (r6 : Int) (w : World) (hs0 : Kd.V k26 26 w w.heap.size (fun k_ => P0_ k_) (.slice A0 l0.length c0) l0) (h : sleep_Find.f k l0 a1 = some (r1, r2, r3, r4, r5, r6)) :
 Calls Try.prog 23 #[.slice A0 l0.length c0, .int .i64 a1] w fun e w' => ∃ v3_ v4_ : Value, e = .returned (.tuple #[.agg #[.int .i64 r1, .int .i64 r2, .int .i64 r3, v3_, v4_], .int .i64 r6]) ∧ Kd.V k62 62 w' w.heap.size (fun k_ => (P0_ k_ ∨ w.heap.size ≤ k_)) v3_ r4 ∧ Kd.V k80 80 w' w.heap.size (fun k_ => (P0_ k_ ∨ w.heap.size ≤ k_)) v4_ r5 ∧ Below w.heap.size w w' := by
 have hu26 := Try.underlying26
 have HO0 := ak (show Kd.V k26 26 w w.heap.size (fun k_ => (P0_ k_ ∨ w.heap.size ≤ k_)) (.slice A0 l0.length c0) l0 from Kd.V_mono hs0 (fun k_ hk => .inl hk))
 have HB := ak (Below.refl w.heap.size w)
 have H : ((sleep_Right.f k l0).bind fun t182 => (if t182 = true then ((sleep_place.f k l0 a1).bind fun bt183 => (if bt183.2 = true then (if 0 ≤ bt183.1 then (if bt183.1 < (l0.length : Int) then (some ((rd_T26 l0 bt183.1).f0, (rd_T26 l0 bt183.1).f1, (rd_T26 l0 bt183.1).f2, (rd_T26 l0 bt183.1).f3, (rd_T26 l0 bt183.1).f4, 0)) else (none)) else (none)) else (some (0, 0, 0, ([] : List (S62)), ([] : List (S80)), 3)))) else (some (0, 0, 0, ([] : List (S62)), ([] : List (S80)), 1)))) = some (r1, r2, r3, r4, r5, r6) := h
 clear h
 obtain ⟨t182, A3, H⟩ := bd_ H
 by_cases c4 : t182 = true
 · subst c4
   rw [if_pos rfl] at H
   replace H := Option.bind_eq_some_iff.mp H
   obtain ⟨⟨t183, t184⟩, A50, H⟩ := H
   have A5 := ak A50
   clear A50
   by_cases c6 : t184 = true
   · subst c6
     rw [if_pos rfl] at H
     by_cases c7 : 0 ≤ t183
     · rw [if_pos c7] at H
       have c7b0 : decide (0 ≤ t183) = true := decide_eq_true c7
       clear c7
       by_cases c8 : t183 < (l0.length : Int)
       · rw [if_pos c8] at H
         have c8b0 : decide (t183 < (l0.length : Int)) = true := decide_eq_true c8
         clear c8
         simp only [Option.some.injEq, Prod.mk.injEq] at H
         obtain ⟨rfl, rfl, rfl, rfl, rfl, rfl⟩ := H
         go_enter Try.func23, Try.ntmps23
         go_wp2_with (first | ((with_reducible refine gate_dst (N := 4) rfl ?_); refine box_event ?hg (N := 4) ?hd (cs := #[.int .i64 0, .int .i64 0, .int .i64 0, .slice none 0 0, .slice none 0 0]) (t := 26) ?hr ?_; (case hd => rfl); (case hg => rfl); (case hr => first | (go_simp; done) | (go_simp; rfl)); intro gb181 hg w9 hbox hb; replace HO0 := ak (Kd.V_below (Kd.V_elderB (vq_ HO0) gb181 (Nat.le_of_eq hg.symm)) hb); replace BK181 := ak (hbox); replace GW181 := ak ((by rw [hg]; exact bsz_ : w.heap.size ≤ gb181)); replace HB := ak (bst_ hb); replace GE181 := GW181; clear hb hbox hg) | ((with_reducible refine gate_callee (f := 26) rfl ?_); refine goesL_ (some 9) rfl rfl Try.func26 (by kernel_rfl) rfl #[.slice A0 l0.length c0] rfl mp_ ?_; (with_reducible refine (sleep_Right.calls k _ _ l0 true _ ?side1 ?side2 A3.out).mono ?_); (case side1 => exact vc_ HO0); (case side2 => exact vl_ HO0); rintro e w10 ⟨rfl, hb⟩; refine ⟨_, rfl, ?_⟩; replace HO0 := vb_ HO0 hb; replace BK181 := bb_ BK181 hb; replace HB := ak (below_step bsw_ hb); (try clear hb); (try clear hb2); (try clear hk); (try clear hi)) | ((with_reducible refine gate_callee (f := 42) rfl ?_); refine goesL_ (some 15) rfl rfl Try.func42 (by kernel_rfl) rfl #[.slice A0 l0.length c0, .int .i64 a1] rfl mp_ ?_; (with_reducible refine (sleep_place.calls k _ _ l0 a1 t183 true _ ?side1 ?side2 A5.out).mono ?_); (case side1 => exact vc_ HO0); (case side2 => exact vl_ HO0); rintro e w11 ⟨rfl, hb⟩; refine ⟨_, rfl, ?_⟩; replace HO0 := vb_ HO0 hb; replace BK181 := bb_ BK181 hb; replace HB := ak (below_step bsw_ hb); (try clear hb); (try clear hb2); (try clear hk); (try clear hi); have p185 : 0 ≤ (t183 : Int) := oda_; have q185 : t183 < (l0.length : Int) := oda_; obtain ⟨ad185, A185_3, c185_3, A185_4, c185_4, e185, hx185_0, hx185_1, hx185_2, hx185_3, hx185_4, hl185_3, hi185_3, hl185_4, hi185_4⟩ := at_T26 (Kd.V_reads' HO0.out).2.2 t183 p185 q185; cases e185; obtain ⟨ce185, hce185, hMe185, hcc185⟩ := Kd.V_get HO0.out z26 t183 p185 (by first | exact q185 | exact oda_ | (have e_ := (Kd.V_reads' HO0.out).1; omega)); obtain ⟨ua185_3, uc185_3, ua185_4, uc185_4, rfl, ul185_3, ge185_3, ul185_4, ge185_4⟩ := k26_openF hMe185; have hv185_3 := hcc185 3 _ rfl; rw [add_field _ _ 3 (by omega)] at hv185_3; replace hv185_3 := Option.some.inj (hv185_3.symm.trans hx185_3); injection hv185_3 with hva_ hvn_ hvc_; rw [hva_] at ge185_3; rw [hvc_] at ul185_3; have HL185_3 := ak (show Kd.V k62 62 _ w.heap.size _ _ ((rd_T26 l0 t183).f3) from Kd.V_mk ul185_3 ge185_3); clear hva_ hvn_ hvc_ ge185_3 ul185_3; have hv185_4 := hcc185 4 _ rfl; rw [add_field _ _ 4 (by omega)] at hv185_4; replace hv185_4 := Option.some.inj (hv185_4.symm.trans hx185_4); injection hv185_4 with hva_ hvn_ hvc_; rw [hva_] at ge185_4; rw [hvc_] at ul185_4; have HL185_4 := ak (show Kd.V k80 80 _ w.heap.size _ _ ((rd_T26 l0 t183).f4) from Kd.V_mk ul185_4 ge185_4); clear hva_ hvn_ hvc_ ge185_4 ul185_4; clear hcc185 hce185; have HR185_3 := ak hi185_3; have HC185_3 := ak hl185_3; clear hi185_3 hl185_3; have HR185_4 := ak hi185_4; have HC185_4 := ak hl185_4; clear hi185_4 hl185_4; replace p185 := eq_true p185; replace q185 := eq_true q185; obtain ⟨hcz12_0, hcz12_1, hcz12_2, hcz12_3, hcz12_4, hfz12_0, hfz12_1, hfz12_2, hfz12_3, hfz12_4⟩ := bz5_ BK181))
         refine bodyPost_ret (results_ct rfl _ _ gb181 26 #[.int .i64 ((rd_T26 l0 t183).f0), .int .i64 ((rd_T26 l0 t183).f1), .int .i64 ((rd_T26 l0 t183).f2), .slice A185_3 ((rd_T26 l0 t183).f3).length c185_3, .slice A185_4 ((rd_T26 l0 t183).f4).length c185_4] (0, 0) _ rfl (by (with_reducible repeat (first | refine blk_drewN ?_ _ | refine blk_drew ?_ | refine blk_alloc ?_ _)); refine blk_put (cs := #[.int .i64 ((rd_T26 l0 t183).f0), .int .i64 ((rd_T26 l0 t183).f1), .int .i64 ((rd_T26 l0 t183).f2), .slice A185_3 ((rd_T26 l0 t183).f3).length c185_3, .slice none 0 0]) ?_ 4 _ rfl; (with_reducible repeat (first | refine blk_drewN ?_ _ | refine blk_drew ?_ | refine blk_alloc ?_ _)); refine blk_put (cs := #[.int .i64 ((rd_T26 l0 t183).f0), .int .i64 ((rd_T26 l0 t183).f1), .int .i64 ((rd_T26 l0 t183).f2), .slice none 0 0, .slice none 0 0]) ?_ 3 _ rfl; (with_reducible repeat (first | refine blk_drewN ?_ _ | refine blk_drew ?_ | refine blk_alloc ?_ _)); refine blk_put (cs := #[.int .i64 ((rd_T26 l0 t183).f0), .int .i64 ((rd_T26 l0 t183).f1), .int .i64 0, .slice none 0 0, .slice none 0 0]) ?_ 2 _ rfl; (with_reducible repeat (first | refine blk_drewN ?_ _ | refine blk_drew ?_ | refine blk_alloc ?_ _)); refine blk_put (cs := #[.int .i64 ((rd_T26 l0 t183).f0), .int .i64 0, .int .i64 0, .slice none 0 0, .slice none 0 0]) ?_ 1 _ rfl; (with_reducible repeat (first | refine blk_drewN ?_ _ | refine blk_drew ?_ | refine blk_alloc ?_ _)); refine blk_put (cs := #[.int .i64 0, .int .i64 0, .int .i64 0, .slice none 0 0, .slice none 0 0]) ?_ 0 _ rfl; (with_reducible repeat (first | refine blk_drewN ?_ _ | refine blk_drew ?_ | refine blk_alloc ?_ _)); exact BK181.out) Try.underlying26 rfl (by kernel_rfl)) rfl ?_
         exact ⟨_, _, by first | rfl | (simp [errW_none, errW_some] <;> rfl) | (simp [*, errW_none, errW_some] <;> rfl), by (with_reducible repeat (first | apply Kd.V_alloc | apply Kd.V_drewN | apply Kd.V_drew)); exact Kd.V_mono (Kd.V_far (p := ⟨gb181, 4, none⟩) (Kd.V_far (p := ⟨gb181, 3, none⟩) (Kd.V_far (p := ⟨gb181, 2, none⟩) (Kd.V_far (p := ⟨gb181, 1, none⟩) (Kd.V_far (p := ⟨gb181, 0, none⟩) (Kd.V_mono HL185_3.out (fun k_ hk => (⟨hk, hk.2⟩ : _ ∧ k_ ≠ gb181))) (fun _ hk => hk.2) (.int .i64 ((rd_T26 l0 t183).f0))) (fun _ hk => hk.2) (.int .i64 ((rd_T26 l0 t183).f1))) (fun _ hk => hk.2) (.int .i64 ((rd_T26 l0 t183).f2))) (fun _ hk => hk.2) (.slice A185_3 ((rd_T26 l0 t183).f3).length c185_3)) (fun _ hk => hk.2) (.slice A185_4 ((rd_T26 l0 t183).f4).length c185_4)) (fun _ hk => hk.1.1), by (with_reducible repeat (first | apply Kd.V_alloc | apply Kd.V_drewN | apply Kd.V_drew)); exact Kd.V_mono (Kd.V_far (p := ⟨gb181, 4, none⟩) (Kd.V_far (p := ⟨gb181, 3, none⟩) (Kd.V_far (p := ⟨gb181, 2, none⟩) (Kd.V_far (p := ⟨gb181, 1, none⟩) (Kd.V_far (p := ⟨gb181, 0, none⟩) (Kd.V_mono HL185_4.out (fun k_ hk => (⟨hk, hk.2⟩ : _ ∧ k_ ≠ gb181))) (fun _ hk => hk.2) (.int .i64 ((rd_T26 l0 t183).f0))) (fun _ hk => hk.2) (.int .i64 ((rd_T26 l0 t183).f1))) (fun _ hk => hk.2) (.int .i64 ((rd_T26 l0 t183).f2))) (fun _ hk => hk.2) (.slice A185_3 ((rd_T26 l0 t183).f3).length c185_3)) (fun _ hk => hk.2) (.slice A185_4 ((rd_T26 l0 t183).f4).length c185_4)) (fun _ hk => hk.1.1), bsw_⟩
       · rw [if_neg c8] at H
         exact absurd H (by simp)
     · rw [if_neg c7] at H
       exact absurd H (by simp)
   · replace c6 := Bool.eq_false_iff.mpr c6
     subst c6
     rw [if_neg (show ¬ (false = true) by decide)] at H
     simp only [Option.some.injEq, Prod.mk.injEq] at H
     obtain ⟨rfl, rfl, rfl, rfl, rfl, rfl⟩ := H
     go_enter Try.func23, Try.ntmps23
     go_wp2_with (first | ((with_reducible refine gate_dst (N := 4) rfl ?_); refine box_event ?hg (N := 4) ?hd (cs := #[.int .i64 0, .int .i64 0, .int .i64 0, .slice none 0 0, .slice none 0 0]) (t := 26) ?hr ?_; (case hd => rfl); (case hg => rfl); (case hr => first | (go_simp; done) | (go_simp; rfl)); intro gb181 hg w13 hbox hb; replace HO0 := ak (Kd.V_below (Kd.V_elderB (vq_ HO0) gb181 (Nat.le_of_eq hg.symm)) hb); replace BK181 := ak (hbox); replace GW181 := ak ((by rw [hg]; exact bsz_ : w.heap.size ≤ gb181)); replace HB := ak (bst_ hb); replace GE181 := GW181; clear hb hbox hg) | ((with_reducible refine gate_callee (f := 26) rfl ?_); refine goesL_ (some 9) rfl rfl Try.func26 (by kernel_rfl) rfl #[.slice A0 l0.length c0] rfl mp_ ?_; (with_reducible refine (sleep_Right.calls k _ _ l0 true _ ?side1 ?side2 A3.out).mono ?_); (case side1 => exact vc_ HO0); (case side2 => exact vl_ HO0); rintro e w14 ⟨rfl, hb⟩; refine ⟨_, rfl, ?_⟩; replace HO0 := vb_ HO0 hb; replace BK181 := bb_ BK181 hb; replace HB := ak (below_step bsw_ hb); (try clear hb); (try clear hb2); (try clear hk); (try clear hi)) | ((with_reducible refine gate_callee (f := 42) rfl ?_); refine goesL_ (some 15) rfl rfl Try.func42 (by kernel_rfl) rfl #[.slice A0 l0.length c0, .int .i64 a1] rfl mp_ ?_; (with_reducible refine (sleep_place.calls k _ _ l0 a1 t183 false _ ?side1 ?side2 A5.out).mono ?_); (case side1 => exact vc_ HO0); (case side2 => exact vl_ HO0); rintro e w15 ⟨rfl, hb⟩; refine ⟨_, rfl, ?_⟩; replace HO0 := vb_ HO0 hb; replace BK181 := bb_ BK181 hb; replace HB := ak (below_step bsw_ hb); (try clear hb); (try clear hb2); (try clear hk); (try clear hi); obtain ⟨hcz16_0, hcz16_1, hcz16_2, hcz16_3, hcz16_4, hfz16_0, hfz16_1, hfz16_2, hfz16_3, hfz16_4⟩ := bz5_ BK181))
     refine bodyPost_ret (results_ct rfl _ _ gb181 26 #[.int .i64 0, .int .i64 0, .int .i64 0, .slice none 0 0, .slice none 0 0] (0, 0) _ rfl (by (with_reducible repeat (first | refine blk_drewN ?_ _ | refine blk_drew ?_ | refine blk_alloc ?_ _)); refine blk_put (cs := #[.int .i64 0, .int .i64 0, .int .i64 0, .slice none 0 0, .slice none 0 0]) ?_ 4 _ rfl; (with_reducible repeat (first | refine blk_drewN ?_ _ | refine blk_drew ?_ | refine blk_alloc ?_ _)); refine blk_put (cs := #[.int .i64 0, .int .i64 0, .int .i64 0, .slice none 0 0, .slice none 0 0]) ?_ 3 _ rfl; (with_reducible repeat (first | refine blk_drewN ?_ _ | refine blk_drew ?_ | refine blk_alloc ?_ _)); refine blk_put (cs := #[.int .i64 0, .int .i64 0, .int .i64 0, .slice none 0 0, .slice none 0 0]) ?_ 2 _ rfl; (with_reducible repeat (first | refine blk_drewN ?_ _ | refine blk_drew ?_ | refine blk_alloc ?_ _)); refine blk_put (cs := #[.int .i64 0, .int .i64 0, .int .i64 0, .slice none 0 0, .slice none 0 0]) ?_ 1 _ rfl; (with_reducible repeat (first | refine blk_drewN ?_ _ | refine blk_drew ?_ | refine blk_alloc ?_ _)); refine blk_put (cs := #[.int .i64 0, .int .i64 0, .int .i64 0, .slice none 0 0, .slice none 0 0]) ?_ 0 _ rfl; (with_reducible repeat (first | refine blk_drewN ?_ _ | refine blk_drew ?_ | refine blk_alloc ?_ _)); exact BK181.out) Try.underlying26 rfl (by kernel_rfl)) rfl ?_
     exact ⟨_, _, by first | rfl | (simp [errW_none, errW_some] <;> rfl) | (simp [*, errW_none, errW_some] <;> rfl), Kd.V_mono (Kd.V_nil _ _ _ _ _) (fun k_ hk => by first | exact ⟨(.inr (hk.1)), hk.2⟩ | exact (.inr (hk))), Kd.V_mono (Kd.V_nil _ _ _ _ _) (fun k_ hk => by first | exact ⟨(.inr (hk.1)), hk.2⟩ | exact (.inr (hk))), bsw_⟩
 · replace c4 := Bool.eq_false_iff.mpr c4
   subst c4
   rw [if_neg (show ¬ (false = true) by decide)] at H
   simp only [Option.some.injEq, Prod.mk.injEq] at H
   obtain ⟨rfl, rfl, rfl, rfl, rfl, rfl⟩ := H
   go_enter Try.func23, Try.ntmps23
   go_wp2_with (first | ((with_reducible refine gate_dst (N := 4) rfl ?_); refine box_event ?hg (N := 4) ?hd (cs := #[.int .i64 0, .int .i64 0, .int .i64 0, .slice none 0 0, .slice none 0 0]) (t := 26) ?hr ?_; (case hd => rfl); (case hg => rfl); (case hr => first | (go_simp; done) | (go_simp; rfl)); intro gb181 hg w17 hbox hb; replace HO0 := ak (Kd.V_below (Kd.V_elderB (vq_ HO0) gb181 (Nat.le_of_eq hg.symm)) hb); replace BK181 := ak (hbox); replace GW181 := ak ((by rw [hg]; exact bsz_ : w.heap.size ≤ gb181)); replace HB := ak (bst_ hb); replace GE181 := GW181; clear hb hbox hg) | ((with_reducible refine gate_callee (f := 26) rfl ?_); refine goesL_ (some 9) rfl rfl Try.func26 (by kernel_rfl) rfl #[.slice A0 l0.length c0] rfl mp_ ?_; (with_reducible refine (sleep_Right.calls k _ _ l0 false _ ?side1 ?side2 A3.out).mono ?_); (case side1 => exact vc_ HO0); (case side2 => exact vl_ HO0); rintro e w18 ⟨rfl, hb⟩; refine ⟨_, rfl, ?_⟩; replace HO0 := vb_ HO0 hb; replace BK181 := bb_ BK181 hb; replace HB := ak (below_step bsw_ hb); (try clear hb); (try clear hb2); (try clear hk); (try clear hi); obtain ⟨hcz19_0, hcz19_1, hcz19_2, hcz19_3, hcz19_4, hfz19_0, hfz19_1, hfz19_2, hfz19_3, hfz19_4⟩ := bz5_ BK181))
   refine bodyPost_ret (results_ct rfl _ _ gb181 26 #[.int .i64 0, .int .i64 0, .int .i64 0, .slice none 0 0, .slice none 0 0] (0, 0) _ rfl (by (with_reducible repeat (first | refine blk_drewN ?_ _ | refine blk_drew ?_ | refine blk_alloc ?_ _)); refine blk_put (cs := #[.int .i64 0, .int .i64 0, .int .i64 0, .slice none 0 0, .slice none 0 0]) ?_ 4 _ rfl; (with_reducible repeat (first | refine blk_drewN ?_ _ | refine blk_drew ?_ | refine blk_alloc ?_ _)); refine blk_put (cs := #[.int .i64 0, .int .i64 0, .int .i64 0, .slice none 0 0, .slice none 0 0]) ?_ 3 _ rfl; (with_reducible repeat (first | refine blk_drewN ?_ _ | refine blk_drew ?_ | refine blk_alloc ?_ _)); refine blk_put (cs := #[.int .i64 0, .int .i64 0, .int .i64 0, .slice none 0 0, .slice none 0 0]) ?_ 2 _ rfl; (with_reducible repeat (first | refine blk_drewN ?_ _ | refine blk_drew ?_ | refine blk_alloc ?_ _)); refine blk_put (cs := #[.int .i64 0, .int .i64 0, .int .i64 0, .slice none 0 0, .slice none 0 0]) ?_ 1 _ rfl; (with_reducible repeat (first | refine blk_drewN ?_ _ | refine blk_drew ?_ | refine blk_alloc ?_ _)); refine blk_put (cs := #[.int .i64 0, .int .i64 0, .int .i64 0, .slice none 0 0, .slice none 0 0]) ?_ 0 _ rfl; (with_reducible repeat (first | refine blk_drewN ?_ _ | refine blk_drew ?_ | refine blk_alloc ?_ _)); exact BK181.out) Try.underlying26 rfl (by kernel_rfl)) rfl ?_
   exact ⟨_, _, by first | rfl | (simp [errW_none, errW_some] <;> rfl) | (simp [*, errW_none, errW_some] <;> rfl), Kd.V_mono (Kd.V_nil _ _ _ _ _) (fun k_ hk => by first | exact ⟨(.inr (hk.1)), hk.2⟩ | exact (.inr (hk))), Kd.V_mono (Kd.V_nil _ _ _ _ _) (fun k_ hk => by first | exact ⟨(.inr (hk.1)), hk.2⟩ | exact (.inr (hk))), bsw_⟩

-- NOT PRINTED: function 82 (slices_IndexFunc_82)

-- NOT PRINTED: function 49 (slices_ContainsFunc_49)

/-! ### slices_Index: function 83 -/
def slices_Index.l0 : Nat → List Int → Int → Int → Int → Option (Int)
 | 0, _, _, _, _ => none
 | k + 1, x0, x1, x7, x8 => if x8 < x7 then (if 0 ≤ x8 then (if x8 < (x0.length : Int) then (if x1 = (rd x0 x8) then (some x8) else (slices_Index.l0 k x0 x1 x7 (wrap64 (x8 + 1)))) else (none)) else (none)) else (some (-1))
def slices_Index.f (k : Nat) (l0 : List Int) (a1 : Int) : Option (Int) := slices_Index.l0 k l0 a1 (l0.length : Int) 0
theorem slices_Index.mono_l : ∀ k, (∀ y0 y1 y2 y3, LeO (slices_Index.l0 k y0 y1 y2 y3) (slices_Index.l0 (k + 1) y0 y1 y2 y3))
 | 0 => fun _ _ _ _ r h => by simp [slices_Index.l0] at h
 | k + 1 => by
  have ih0 := slices_Index.mono_l k
  · intro y0 y1 y2 y3
    unfold slices_Index.l0
    repeat' first
    | (with_reducible exact ih0 _ _ _ _)
    | (with_reducible exact LeO.refl _)
    | (with_reducible exact LeO.none _)
    | (with_reducible refine LeO.ite ?_ ?_)
    | (with_reducible refine LeO.bind ?_ (fun _ => ?_))
    | exact ih0 _ _ _ _
    | exact LeO.none _
    | refine LeO.ite ?_ ?_
    | refine LeO.bind ?_ (fun _ => ?_)
theorem slices_Index.mono : ∀ a0 a1 k, LeO (slices_Index.f k a0 a1) (slices_Index.f (k + 1) a0 a1) := by
 intro a0 a1 k
 have ih0 := slices_Index.mono_l k
 unfold slices_Index.f
 repeat' first
  | (with_reducible exact ih0 _ _ _ _)
  | (with_reducible exact LeO.refl _)
  | (with_reducible exact LeO.none _)
  | (with_reducible refine LeO.ite ?_ ?_)
  | (with_reducible refine LeO.bind ?_ (fun _ => ?_))
  | exact ih0 _ _ _ _
  | exact LeO.none _
  | refine LeO.ite ?_ ?_
  | refine LeO.bind ?_ (fun _ => ?_)
set_option maxHeartbeats 8000000 in
set_option maxRecDepth 100000 in
theorem slices_Index.calls (k : Nat) (A0 : Option Addr) (c0 : Nat) (l0 : List Int) (a1 : Int) (r : Int) (w : World) (hr0 : Kd.C (Kd.int .i64) w A0 l0.length l0) (hc0 : l0.length ≤ c0) (h : slices_Index.f k l0 a1 = some r) :
 Calls Try.prog 83 #[.slice A0 l0.length c0, .int .i64 a1] w fun e w' => e = .returned (.int .i64 r) ∧ Drawn0 w w' := by
 have HR0 := ak hr0
 have HC0 := ak hc0
 clear hr0 hc0
 have H : (slices_Index.l0 k l0 a1 (l0.length : Int) 0) = some r := h
 clear h
 have H' := ak H
 clear H
 go_enter Try.func83, Try.ntmps83
 go_wp2
 go_loopg [8] k (fun kq v8 w' => ∃ (x8_1 : Int), v8 = .int .i64 x8_1 ∧ Aside0 (slices_Index.l0 kq l0 a1 (l0.length : Int) x8_1 = some r) ∧ Aside0 (kq ≤ k) ∧ Drawn0 w w')
 case atStart => exact ⟨(0), (by first | rfl | (simp; done) | (simp [*]; done)), H', ⟨Nat.le_refl _⟩, by repeat (first | exact Drawn0.refl _ | apply Drawn0.step)⟩
 case round =>
  clear H'
  try clear p2
  obtain ⟨x8_1, rfl, HA, HK1, ⟨m1, rfl⟩⟩ := hrel
  cases gk with
  | zero => exact absurd HA.out (by simp [slices_Index.l0])
  | succ k1 =>
   have H := HA.out
   clear HA
   simp only [slices_Index.l0] at H
   by_cases c3 : x8_1 < (l0.length : Int)
   · rw [if_pos c3] at H
     have c3b0 : decide (x8_1 < (l0.length : Int)) = true := decide_eq_true c3
     clear c3
     by_cases c4 : 0 ≤ x8_1
     · rw [if_pos c4] at H
       have c4b0 : decide (0 ≤ x8_1) = true := decide_eq_true c4
       clear c4
       by_cases c5 : x8_1 < (l0.length : Int)
       · rw [if_pos c5] at H
         have c5b0 : decide (x8_1 < (l0.length : Int)) = true := decide_eq_true c5
         clear c5
         by_cases c6 : a1 = (rd l0 x8_1)
         · rw [if_pos c6] at H
           have c6b0 : (a1 == (rd l0 x8_1)) = true := beq_iff_eq.mpr c6
           have c6b1 : (a1 != (rd l0 x8_1)) = false := bne_eq_false_iff_eq.mpr c6
           clear c6
           obtain rfl := Option.some.inj H
           have p186 : 0 ≤ (x8_1 : Int) := oda_
           have q186 : x8_1 < (l0.length : Int) := oda_
           obtain ⟨ad186, e186, hx186_0⟩ := Kd.at_int HR0.out x8_1 p186 q186
           cases e186
           replace p186 := eq_true p186
           replace q186 := eq_true q186
           go_wp2
           go_ret
           exact ⟨by first | rfl | (simp; done) | (simp [*]; done), by repeat (first | exact Drawn0.refl _ | apply Drawn0.step)⟩
         · rw [if_neg c6] at H
           have c6b0 : (a1 == (rd l0 x8_1)) = false := beq_eq_false_iff_ne.mpr c6
           have c6b1 : (a1 != (rd l0 x8_1)) = true := bne_iff_ne.mpr c6
           have H' := ak H
           clear H
           have p186 : 0 ≤ (x8_1 : Int) := oda_
           have q186 : x8_1 < (l0.length : Int) := oda_
           obtain ⟨ad186, e186, hx186_0⟩ := Kd.at_int HR0.out x8_1 p186 q186
           cases e186
           replace p186 := eq_true p186
           replace q186 := eq_true q186
           go_wp2
           go_roundg k1
           case measure => have := HK1.out; omega
           case rel => exact ⟨(wrap64 (x8_1 + 1)), (by first | rfl | (simp; done) | (simp [*]; done)), H', ⟨by have := HK1.out; omega⟩, by repeat (first | exact Drawn0.refl _ | apply Drawn0.step)⟩
       · rw [if_neg c5] at H
         exact absurd H (by simp)
     · rw [if_neg c4] at H
       exact absurd H (by simp)
   · rw [if_neg c3] at H
     have c3b0 : decide (x8_1 < (l0.length : Int)) = false := decide_eq_false c3
     clear c3
     obtain rfl := Option.some.inj H
     go_wp2
     go_ret
     exact ⟨by first | rfl | (simp; done) | (simp [*]; done), by repeat (first | exact Drawn0.refl _ | apply Drawn0.step)⟩

/-! ### slices_Contains: function 52 -/
def slices_Contains.f (k : Nat) (l0 : List Int) (a1 : Int) : Option (Bool) := (slices_Index.f k l0 a1).bind fun t187 => (some (decide (t187 ≥ 0)))
theorem slices_Contains.mono : ∀ a0 a1 k, LeO (slices_Contains.f k a0 a1) (slices_Contains.f (k + 1) a0 a1) := by
 intro a0 a1 k
 unfold slices_Contains.f
 repeat' first
  | (with_reducible exact slices_Index.mono _ _ _)
  | (with_reducible exact LeO.refl _)
  | (with_reducible exact LeO.none _)
  | (with_reducible refine LeO.ite ?_ ?_)
  | (with_reducible refine LeO.bind ?_ (fun _ => ?_))
  | exact slices_Index.mono _ _ _
  | exact LeO.none _
  | refine LeO.ite ?_ ?_
  | refine LeO.bind ?_ (fun _ => ?_)
set_option maxHeartbeats 8000000 in
set_option maxRecDepth 100000 in
theorem slices_Contains.calls (k : Nat) (A0 : Option Addr) (c0 : Nat) (l0 : List Int) (a1 : Int) (r : Bool) (w : World) (hr0 : Kd.C (Kd.int .i64) w A0 l0.length l0) (hc0 : l0.length ≤ c0) (h : slices_Contains.f k l0 a1 = some r) :
 Calls Try.prog 52 #[.slice A0 l0.length c0, .int .i64 a1] w fun e w' => e = .returned (.bool r) ∧ Drawn0 w w' := by
 have HR0 := ak hr0
 have HC0 := ak hc0
 clear hr0 hc0
 have H : ((slices_Index.f k l0 a1).bind fun t187 => (some (decide (t187 ≥ 0)))) = some r := h
 clear h
 obtain ⟨t187, A3, H⟩ := bd_ H
 obtain rfl := Option.some.inj H
 go_enter Try.func52, Try.ntmps52
 go_wp2_with (first | ((with_reducible refine gate_callee (f := 83) rfl ?_); refine goesL_ (some 7) rfl rfl Try.func83 (by kernel_rfl) rfl #[.slice A0 l0.length c0, .int .i64 a1] rfl mp_ ?_; (with_reducible refine (slices_Index.calls k _ _ l0 a1 t187 _ ?side1 ?side2 A3.out).mono ?_); (case side1 => repeat (first | exact HR0.out | with_reducible first | refine Kd.C_alloc ?_ _ | refine Kd.C_drewN ?_ _ | refine Kd.C_drew ?_)); (case side2 => exact HC0.out); rintro e w' ⟨rfl, ⟨nd, rfl⟩⟩; refine ⟨_, rfl, ?_⟩))
 go_ret
 exact ⟨by first | rfl | (simp; done) | (simp [*]; done), by repeat (first | exact Drawn0.refl _ | apply Drawn0.step)⟩

end Go.Proofs.Ytjnkpocfmpbpoaa.F
