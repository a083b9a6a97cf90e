-- PRINTED by print.py (a twelfth state) out of the translation. Not trusted: Lean checks it.
import Derived.Test.YtpeblomhhofhkaaHx0
import Derived.Test.YtpeblomhhofhkaaHx13
namespace Go.Proofs.Ytpeblomhhofhkaa.H
open Go.Proofs.Ytpeblomhhofhkaa.Ho
open Go.RowKit Go.Proofs.YtpeblomhhofhkaaW.PrintWords Go.Proofs.YtpeblomhhofhkaaW.PrintLast Go.Proofs.YtpeblomhhofhkaaW.PrintMore
attribute [local go_sem] max2_int min2_int max_two min_two max_three min_three max_four min_four   -- for this text's walks alone
set_option linter.unusedVariables false
set_option linter.unusedSimpArgs false

/-! ### handshakerref08_Check: function 14 -/
def handshakerref08_Check.l0 : Nat → List (S62) → Int → Option (Int)
 | 0, _, _ => none
 | k + 1, x0, x3 => if x3 < (x0.length : Int) then (if 0 ≤ x3 then ((handshakerref08_one.f k ((rd_T62 x0 x3).f0) ((rd_T62 x0 x3).f1) ((rd_T62 x0 x3).f2) ((rd_T62 x0 x3).f3)).bind fun t286 => (if t286 = true then (handshakerref08_Check.l0 k x0 (wrap64 (x3 + 1))) else (some 1))) else (none)) else ((handshakerref08_well.f k x0 0 (x0.length : Int)).bind fun bt287 => (if bt287.2 = true then (if bt287.1 > 6 then (some 5) else (some 0)) else (some 2)))
def handshakerref08_Check.f (k : Nat) (l0 : List (S62)) : Option (Int) := if (l0.length : Int) > 24 then (some 1) else (handshakerref08_Check.l0 k l0 0)
theorem handshakerref08_Check.mono_l : ∀ k, (∀ y0 y1, LeO (handshakerref08_Check.l0 k y0 y1) (handshakerref08_Check.l0 (k + 1) y0 y1))
 | 0 => fun _ _ r h => by simp [handshakerref08_Check.l0] at h
 | k + 1 => by
  have ih0 := handshakerref08_Check.mono_l k
  · intro y0 y1
    unfold handshakerref08_Check.l0
    repeat' first
    | (with_reducible exact ih0 _ _)
    | (with_reducible exact handshakerref08_one.mono _ _ _ _ _)
    | (with_reducible exact handshakerref08_well.mono _ _ _ _)
    | (with_reducible exact LeO.refl _)
    | (with_reducible exact LeO.none _)
    | (with_reducible refine LeO.ite ?_ ?_)
    | (with_reducible refine LeO.bind ?_ (fun _ => ?_))
    | exact ih0 _ _
    | exact handshakerref08_one.mono _ _ _ _ _
    | exact handshakerref08_well.mono _ _ _ _
    | exact LeO.none _
    | refine LeO.ite ?_ ?_
    | refine LeO.bind ?_ (fun _ => ?_)
theorem handshakerref08_Check.mono : ∀ a0 k, LeO (handshakerref08_Check.f k a0) (handshakerref08_Check.f (k + 1) a0) := by
 intro a0 k
 have ih0 := handshakerref08_Check.mono_l k
 unfold handshakerref08_Check.f
 repeat' first
  | (with_reducible exact ih0 _ _)
  | (with_reducible exact handshakerref08_one.mono _ _ _ _ _)
  | (with_reducible exact handshakerref08_well.mono _ _ _ _)
  | (with_reducible exact LeO.refl _)
  | (with_reducible exact LeO.none _)
  | (with_reducible refine LeO.ite ?_ ?_)
  | (with_reducible refine LeO.bind ?_ (fun _ => ?_))
  | exact ih0 _ _
  | exact handshakerref08_one.mono _ _ _ _ _
  | exact handshakerref08_well.mono _ _ _ _
  | exact LeO.none _
  | refine LeO.ite ?_ ?_
  | refine LeO.bind ?_ (fun _ => ?_)
set_option maxHeartbeats 8000000 in
set_option maxRecDepth 100000 in
theorem handshakerref08_Check.calls (k : Nat) (A0 : Option Addr) (c0 : Nat) (l0 : List (S62)) (r : Int) (w : World) (hr0 : Kd.C k62 w A0 l0.length l0) (hc0 : l0.length ≤ c0) (h : handshakerref08_Check.f k l0 = some r) :
 Calls Try.prog 14 #[.slice A0 l0.length c0] w fun e w' => e = .returned (.int .i64 r) ∧ Below w.heap.size w w' := by
 have hu62 := Try.underlying62
 have HR0 := ak hr0
 have HC0 := ak hc0
 clear hr0 hc0
 have HB := ak (Below.refl w.heap.size w)
 have H : (if (l0.length : Int) > 24 then (some 1) else (handshakerref08_Check.l0 k l0 0)) = some r := h
 clear h
 by_cases c2 : (l0.length : Int) > 24
 · rw [if_pos c2] at H
   have c2b0 : decide (24 < (l0.length : Int)) = true := decide_eq_true c2
   have c2b1 : decide (24 < l0.length) = true := decide_eq_true (by omega)
   clear c2
   obtain rfl := Option.some.inj H
   go_enter Try.func14, Try.ntmps14
   go_wp2
   go_ret
   exact ⟨by first | rfl | (simp [errW_none, errW_some] <;> rfl) | (simp [*, errW_none, errW_some] <;> rfl), bsv_⟩
 rw [if_neg c2] at H
 have c2b0 : decide (24 < (l0.length : Int)) = false := decide_eq_false c2
 have c2b1 : decide (24 < l0.length) = false := decide_eq_false (by omega)
 clear c2
 have H' := ak H
 clear H
 go_enter Try.func14, Try.ntmps14
 go_wp2
 go_loopg [3] k (fun kq v3 w' => ∃ (x3_1 : Int), v3 = .int .i64 x3_1 ∧ Aside0 (handshakerref08_Check.l0 kq l0 x3_1 = some r) ∧ Aside0 (kq ≤ k) ∧ Aside0 (Below w.heap.size w w'))
 case atStart => exact ⟨(0), (by first | rfl | (simp; done) | (simp [*]; done)), H', ⟨Nat.le_refl _⟩, ⟨bsv_⟩⟩
 case round =>
  clear H'
  try clear c1
  try clear c2
  try clear c2b0
  try clear c2b1
  try clear p2
  obtain ⟨x3_1, rfl, HA, HK1, HB⟩ := hrel
  cases gk with
  | zero => exact absurd HA.out (by simp [handshakerref08_Check.l0])
  | succ k1 =>
   have H := HA.out
   clear HA
   simp only [handshakerref08_Check.l0] at H
   by_cases c3 : x3_1 < (l0.length : Int)
   rotate_left
   · rw [if_neg c3] at H
     have c3b0 : decide (x3_1 < (l0.length : Int)) = false := decide_eq_false c3
     clear c3
     replace H := Option.bind_eq_some_iff.mp H
     obtain ⟨⟨t287, t288⟩, A90, H⟩ := H
     have A9 := ak A90
     clear A90
     by_cases c10 : t288 = true
     rotate_left
     · replace c10 := Bool.eq_false_iff.mpr c10
       subst c10
       rw [if_neg (show ¬ (false = true) by decide)] at H
       obtain rfl := Option.some.inj H
       go_wp2_with (first | ((with_reducible refine gate_callee (f := 26) rfl ?_); refine goesL_ (some 27) rfl rfl Try.func26 (by kernel_rfl) rfl #[.slice A0 l0.length c0, .int .i64 0, .int .i64 (l0.length : Int)] rfl mp_ ?_; (with_reducible refine (handshakerref08_well.calls k1 _ _ l0 0 (l0.length : Int) t287 false _ ?side1 ?side2 A9.out).mono ?_); (case side1 => exact cb_ HR0 HB); (case side2 => exact HC0.out); rintro e w14 ⟨rfl, hb⟩; refine ⟨_, rfl, ?_⟩; replace HB := ak (bst_ hb); (try clear hb)))
       go_ret
       exact ⟨by first | rfl | (simp [errW_none, errW_some] <;> rfl) | (simp [*, errW_none, errW_some] <;> rfl), bsv_⟩
     subst c10
     rw [if_pos rfl] at H
     by_cases c11 : t287 > 6
     rotate_left
     · rw [if_neg c11] at H
       have c11b0 : decide (6 < t287) = false := decide_eq_false c11
       clear c11
       obtain rfl := Option.some.inj H
       go_wp2_with (first | ((with_reducible refine gate_callee (f := 26) rfl ?_); refine goesL_ (some 27) rfl rfl Try.func26 (by kernel_rfl) rfl #[.slice A0 l0.length c0, .int .i64 0, .int .i64 (l0.length : Int)] rfl mp_ ?_; (with_reducible refine (handshakerref08_well.calls k1 _ _ l0 0 (l0.length : Int) t287 true _ ?side1 ?side2 A9.out).mono ?_); (case side1 => exact cb_ HR0 HB); (case side2 => exact HC0.out); rintro e w13 ⟨rfl, hb⟩; refine ⟨_, rfl, ?_⟩; replace HB := ak (bst_ hb); (try clear hb)))
       go_ret
       exact ⟨by first | rfl | (simp [errW_none, errW_some] <;> rfl) | (simp [*, errW_none, errW_some] <;> rfl), bsv_⟩
     rw [if_pos c11] at H
     have c11b0 : decide (6 < t287) = true := decide_eq_true c11
     clear c11
     obtain rfl := Option.some.inj H
     go_wp2_with (first | ((with_reducible refine gate_callee (f := 26) rfl ?_); refine goesL_ (some 27) rfl rfl Try.func26 (by kernel_rfl) rfl #[.slice A0 l0.length c0, .int .i64 0, .int .i64 (l0.length : Int)] rfl mp_ ?_; (with_reducible refine (handshakerref08_well.calls k1 _ _ l0 0 (l0.length : Int) t287 true _ ?side1 ?side2 A9.out).mono ?_); (case side1 => exact cb_ HR0 HB); (case side2 => exact HC0.out); rintro e w12 ⟨rfl, hb⟩; refine ⟨_, rfl, ?_⟩; replace HB := ak (bst_ hb); (try clear hb)))
     go_ret
     exact ⟨by first | rfl | (simp [errW_none, errW_some] <;> rfl) | (simp [*, errW_none, errW_some] <;> rfl), bsv_⟩
   rw [if_pos c3] at H
   have c3b0 : decide (x3_1 < (l0.length : Int)) = true := decide_eq_true c3
   clear c3
   by_cases c4 : 0 ≤ x3_1
   rotate_left
   · rw [if_neg c4] at H
     exact absurd H (by simp)
   rw [if_pos c4] at H
   have c4b0 : decide (0 ≤ x3_1) = true := decide_eq_true c4
   clear c4
   obtain ⟨t286, A5, H⟩ := bd_ H
   by_cases c6 : t286 = true
   rotate_left
   · replace c6 := Bool.eq_false_iff.mpr c6
     subst c6
     rw [if_neg (show ¬ (false = true) by decide)] at H
     obtain rfl := Option.some.inj H
     have p285 : 0 ≤ (x3_1 : Int) := oda_
     have q285 : x3_1 < (l0.length : Int) := oda_
     obtain ⟨ad285, A285_3, c285_3, e285, hx285_0, hx285_1, hx285_2, hx285_3, hl285_3, hi285_3⟩ := at_T62 HR0.out x3_1 p285 q285
     cases e285
     replace hx285_0 := bl_ HB hx285_0
     replace hx285_1 := bl_ HB hx285_1
     replace hx285_2 := bl_ HB hx285_2
     replace hx285_3 := bl_ HB hx285_3
     have HR285_3 := ak hi285_3
     have HC285_3 := ak hl285_3
     clear hi285_3 hl285_3
     replace p285 := eq_true p285
     replace q285 := eq_true q285
     go_wp2_with (first | ((with_reducible refine gate_callee (f := 25) rfl ?_); refine goesL_ (some 20) rfl rfl Try.func25 (by kernel_rfl) rfl #[.agg #[.int .i64 ((rd_T62 l0 x3_1).f0), .int .i64 ((rd_T62 l0 x3_1).f1), .int .i64 ((rd_T62 l0 x3_1).f2), .slice A285_3 ((rd_T62 l0 x3_1).f3).length c285_3]] rfl mp_ ?_; (with_reducible refine (handshakerref08_one.calls k1 ((rd_T62 l0 x3_1).f0) ((rd_T62 l0 x3_1).f1) ((rd_T62 l0 x3_1).f2) _ _ ((rd_T62 l0 x3_1).f3) false _ ?side1 ?side2 A5.out).mono ?_); (case side1 => exact cb_ HR285_3 HB); (case side2 => exact HC285_3.out); rintro e w8 ⟨rfl, hb⟩; refine ⟨_, rfl, ?_⟩; replace HB := ak (bst_ hb); (try clear hb)))
     go_ret
     exact ⟨by first | rfl | (simp [errW_none, errW_some] <;> rfl) | (simp [*, errW_none, errW_some] <;> rfl), bsv_⟩
   subst c6
   rw [if_pos rfl] at H
   have H' := ak H
   clear H
   have p285 : 0 ≤ (x3_1 : Int) := oda_
   have q285 : x3_1 < (l0.length : Int) := oda_
   obtain ⟨ad285, A285_3, c285_3, e285, hx285_0, hx285_1, hx285_2, hx285_3, hl285_3, hi285_3⟩ := at_T62 HR0.out x3_1 p285 q285
   cases e285
   replace hx285_0 := bl_ HB hx285_0
   replace hx285_1 := bl_ HB hx285_1
   replace hx285_2 := bl_ HB hx285_2
   replace hx285_3 := bl_ HB hx285_3
   have HR285_3 := ak hi285_3
   have HC285_3 := ak hl285_3
   clear hi285_3 hl285_3
   replace p285 := eq_true p285
   replace q285 := eq_true q285
   go_wp2_with (first | ((with_reducible refine gate_callee (f := 25) rfl ?_); refine goesL_ (some 20) rfl rfl Try.func25 (by kernel_rfl) rfl #[.agg #[.int .i64 ((rd_T62 l0 x3_1).f0), .int .i64 ((rd_T62 l0 x3_1).f1), .int .i64 ((rd_T62 l0 x3_1).f2), .slice A285_3 ((rd_T62 l0 x3_1).f3).length c285_3]] rfl mp_ ?_; (with_reducible refine (handshakerref08_one.calls k1 ((rd_T62 l0 x3_1).f0) ((rd_T62 l0 x3_1).f1) ((rd_T62 l0 x3_1).f2) _ _ ((rd_T62 l0 x3_1).f3) true _ ?side1 ?side2 A5.out).mono ?_); (case side1 => exact cb_ HR285_3 HB); (case side2 => exact HC285_3.out); rintro e w7 ⟨rfl, hb⟩; refine ⟨_, rfl, ?_⟩; replace HB := ak (bst_ hb); (try clear hb)))
   go_roundg k1
   case measure => have := HK1.out; omega
   case rel => exact ⟨(wrap64 (x3_1 + 1)), (by first | rfl | (simp; done) | (simp [*]; done)), H', ⟨by have := HK1.out; omega⟩, ⟨bsv_⟩⟩

/-! ### handshakerref09_four: function 28 -/
def handshakerref09_four.f (a0 : Int) : Option (List Int) := if a0 < 0 then (some (([(wrap64 (Int.tdiv (wrap64 (a0 + 4294967296)) 16777216)) % 256, (Int.tmod (wrap64 (Int.tdiv (wrap64 (a0 + 4294967296)) 65536)) 256) % 256, (Int.tmod (wrap64 (Int.tdiv (wrap64 (a0 + 4294967296)) 256)) 256) % 256, (Int.tmod (wrap64 (a0 + 4294967296)) 256) % 256] : List Int))) else (some (([(wrap64 (Int.tdiv a0 16777216)) % 256, (Int.tmod (wrap64 (Int.tdiv a0 65536)) 256) % 256, (Int.tmod (wrap64 (Int.tdiv a0 256)) 256) % 256, (Int.tmod a0 256) % 256] : List Int)))
set_option maxHeartbeats 8000000 in
set_option maxRecDepth 100000 in
theorem handshakerref09_four.calls (a0 : Int) (r : List Int) (w : World) (h : handshakerref09_four.f a0 = some r) :
 Calls Try.prog 28 #[.int .i64 a0] w fun e w' => ∃ v0_ : Value, e = .returned (v0_) ∧ Kd.R (Kd.int .u8) 5 w' w.heap.size (fun _ => True) v0_ r ∧ Below w.heap.size w w' := by
 have HB := ak (Below.refl w.heap.size w)
 have H : (if a0 < 0 then (some (([(wrap64 (Int.tdiv (wrap64 (a0 + 4294967296)) 16777216)) % 256, (Int.tmod (wrap64 (Int.tdiv (wrap64 (a0 + 4294967296)) 65536)) 256) % 256, (Int.tmod (wrap64 (Int.tdiv (wrap64 (a0 + 4294967296)) 256)) 256) % 256, (Int.tmod (wrap64 (a0 + 4294967296)) 256) % 256] : List Int))) else (some (([(wrap64 (Int.tdiv a0 16777216)) % 256, (Int.tmod (wrap64 (Int.tdiv a0 65536)) 256) % 256, (Int.tmod (wrap64 (Int.tdiv a0 256)) 256) % 256, (Int.tmod a0 256) % 256] : List Int)))) = some r := h
 clear h
 by_cases c2 : a0 < 0
 rotate_left
 · rw [if_neg c2] at H
   have c2b0 : decide (a0 < 0) = false := decide_eq_false c2
   clear c2
   obtain ⟨y292, hy292⟩ : ∃ y_ : List Int, y_ = (([(wrap64 (Int.tdiv a0 16777216)) % 256, (Int.tmod (wrap64 (Int.tdiv a0 65536)) 256) % 256, (Int.tmod (wrap64 (Int.tdiv a0 256)) 256) % 256, (Int.tmod a0 256) % 256] : List Int)) := ⟨_, rfl⟩
   replace H : (some y292) = some r := rh_ hy292 H
   have Ny292 := ak hy292
   clear hy292
   obtain rfl := Option.some.inj H
   go_enter Try.func28, Try.ntmps28
   go_wp2_with (first | ((with_reducible refine gate_dst (N := 21) rfl ?_); refine Kd.R_lit (Kd.int .u8) _ 5 ?hg (N := 21) ?hd (xs := ([(wrap64 (Int.tdiv a0 16777216)) % 256, (Int.tmod (wrap64 (Int.tdiv a0 65536)) 256) % 256, (Int.tmod (wrap64 (Int.tdiv a0 256)) 256) % 256, (Int.tmod a0 256) % 256] : List Int)) (inner := [.int .u8 ((wrap64 (Int.tdiv a0 16777216)) % 256), .int .u8 ((Int.tmod (wrap64 (Int.tdiv a0 65536)) 256) % 256), .int .u8 ((Int.tmod (wrap64 (Int.tdiv a0 256)) 256) % 256), .int .u8 ((Int.tmod a0 256) % 256)]) (ok := fun _ => True) (okp := fun _ => True) ?hr ?hp (fun _ hk => hk) trivial (Below.refl _ _) (Nat.le_refl _) (by simp) ?_; (case hd => rfl); (case hg => rfl); (case hr => first | (go_simp; done) | (go_simp; rfl)); (case hp => exact (Reps.one (show Kd.M (Kd.int .u8) _ _ _ ((wrap64 (Int.tdiv a0 16777216)) % 256) [.int .u8 ((wrap64 (Int.tdiv a0 16777216)) % 256)] from rfl) (Reps.one (show Kd.M (Kd.int .u8) _ _ _ ((Int.tmod (wrap64 (Int.tdiv a0 65536)) 256) % 256) [.int .u8 ((Int.tmod (wrap64 (Int.tdiv a0 65536)) 256) % 256)] from rfl) (Reps.one (show Kd.M (Kd.int .u8) _ _ _ ((Int.tmod (wrap64 (Int.tdiv a0 256)) 256) % 256) [.int .u8 ((Int.tmod (wrap64 (Int.tdiv a0 256)) 256) % 256)] from rfl) (Reps.one (show Kd.M (Kd.int .u8) _ _ _ ((Int.tmod a0 256) % 256) [.int .u8 ((Int.tmod a0 256) % 256)] from rfl) (Reps.none _ _)))))); intro v293 w5 ho6 hb hg_ hnew_; clear hg_ hnew_; (first | rw [← Ny292.out] at ho6 | (simp only [Int.reduceToNat] at ho6; rw [← Ny292.out] at ho6)); replace HO294 := ak (Kd.R_lower ho6 bsz_); replace HB := ak (bst_ hb); clear hb ho6))
   go_ret
   exact ⟨_, by first | rfl | (simp [errW_none, errW_some] <;> rfl) | (simp [*, errW_none, errW_some] <;> rfl), rq_ HO294, bsv_⟩
 rw [if_pos c2] at H
 have c2b0 : decide (a0 < 0) = true := decide_eq_true c2
 clear c2
 obtain ⟨y289, hy289⟩ : ∃ y_ : List Int, y_ = (([(wrap64 (Int.tdiv (wrap64 (a0 + 4294967296)) 16777216)) % 256, (Int.tmod (wrap64 (Int.tdiv (wrap64 (a0 + 4294967296)) 65536)) 256) % 256, (Int.tmod (wrap64 (Int.tdiv (wrap64 (a0 + 4294967296)) 256)) 256) % 256, (Int.tmod (wrap64 (a0 + 4294967296)) 256) % 256] : List Int)) := ⟨_, rfl⟩
 replace H : (some y289) = some r := rh_ hy289 H
 have Ny289 := ak hy289
 clear hy289
 obtain rfl := Option.some.inj H
 go_enter Try.func28, Try.ntmps28
 go_wp2_with (first | ((with_reducible refine gate_dst (N := 21) rfl ?_); refine Kd.R_lit (Kd.int .u8) _ 5 ?hg (N := 21) ?hd (xs := ([(wrap64 (Int.tdiv (wrap64 (a0 + 4294967296)) 16777216)) % 256, (Int.tmod (wrap64 (Int.tdiv (wrap64 (a0 + 4294967296)) 65536)) 256) % 256, (Int.tmod (wrap64 (Int.tdiv (wrap64 (a0 + 4294967296)) 256)) 256) % 256, (Int.tmod (wrap64 (a0 + 4294967296)) 256) % 256] : List Int)) (inner := [.int .u8 ((wrap64 (Int.tdiv (wrap64 (a0 + 4294967296)) 16777216)) % 256), .int .u8 ((Int.tmod (wrap64 (Int.tdiv (wrap64 (a0 + 4294967296)) 65536)) 256) % 256), .int .u8 ((Int.tmod (wrap64 (Int.tdiv (wrap64 (a0 + 4294967296)) 256)) 256) % 256), .int .u8 ((Int.tmod (wrap64 (a0 + 4294967296)) 256) % 256)]) (ok := fun _ => True) (okp := fun _ => True) ?hr ?hp (fun _ hk => hk) trivial (Below.refl _ _) (Nat.le_refl _) (by simp) ?_; (case hd => rfl); (case hg => rfl); (case hr => first | (go_simp; done) | (go_simp; rfl)); (case hp => exact (Reps.one (show Kd.M (Kd.int .u8) _ _ _ ((wrap64 (Int.tdiv (wrap64 (a0 + 4294967296)) 16777216)) % 256) [.int .u8 ((wrap64 (Int.tdiv (wrap64 (a0 + 4294967296)) 16777216)) % 256)] from rfl) (Reps.one (show Kd.M (Kd.int .u8) _ _ _ ((Int.tmod (wrap64 (Int.tdiv (wrap64 (a0 + 4294967296)) 65536)) 256) % 256) [.int .u8 ((Int.tmod (wrap64 (Int.tdiv (wrap64 (a0 + 4294967296)) 65536)) 256) % 256)] from rfl) (Reps.one (show Kd.M (Kd.int .u8) _ _ _ ((Int.tmod (wrap64 (Int.tdiv (wrap64 (a0 + 4294967296)) 256)) 256) % 256) [.int .u8 ((Int.tmod (wrap64 (Int.tdiv (wrap64 (a0 + 4294967296)) 256)) 256) % 256)] from rfl) (Reps.one (show Kd.M (Kd.int .u8) _ _ _ ((Int.tmod (wrap64 (a0 + 4294967296)) 256) % 256) [.int .u8 ((Int.tmod (wrap64 (a0 + 4294967296)) 256) % 256)] from rfl) (Reps.none _ _)))))); intro v290 w3 ho4 hb hg_ hnew_; clear hg_ hnew_; (first | rw [← Ny289.out] at ho4 | (simp only [Int.reduceToNat] at ho4; rw [← Ny289.out] at ho4)); replace HO291 := ak (Kd.R_lower ho4 bsz_); replace HB := ak (bst_ hb); clear hb ho4))
 go_ret
 exact ⟨_, by first | rfl | (simp [errW_none, errW_some] <;> rfl) | (simp [*, errW_none, errW_some] <;> rfl), rq_ HO291, bsv_⟩

/-! ### handshakerref09_Code: function 16 -/
mutual
def handshakerref09_Code.l0 : Nat → List (S62) → List Int → Int → Option (List Int)
 | 0, _, _, _ => none
 | k + 1, x0, x3, x4 => if x4 < (x0.length : Int) then (if 0 ≤ x4 then ((some (([((rd_T62 x0 x4).f0) % 256, ((rd_T62 x0 x4).f1) % 256, ((rd_T62 x0 x4).f2) % 256, ((((rd_T62 x0 x4).f3).length : Int)) % 256] : List Int) : List Int)).bind fun y300 => (if x3.length + y300.length < 140737488355328 then (handshakerref09_Code.l1 k x0 (x3 ++ y300) x4 0 ((rd_T62 x0 x4).f0) ((rd_T62 x0 x4).f1) ((rd_T62 x0 x4).f2) ((rd_T62 x0 x4).f3)) else (none))) else (none)) else (some x3)
def handshakerref09_Code.l1 : Nat → List (S62) → List Int → Int → Int → Int → Int → Int → List (S66) → Option (List Int)
 | 0, _, _, _, _, _, _, _, _ => none
 | k + 1, x0, x3, x4, x6, x300000, x300001, x300002, x300003 => if x6 < (x300003.length : Int) then (if 0 ≤ x6 then (if x3.length < 140737488355328 then ((some (x3 ++ [((rd_T66 x300003 x6).f0) % 256] : List Int)).bind fun y307 => ((handshakerref09_four.f ((rd_T66 x300003 x6).f1)).bind fun t311 => (if y307.length + t311.length < 140737488355328 then (handshakerref09_Code.l1 k x0 (y307 ++ t311) x4 (wrap64 (x6 + 1)) x300000 x300001 x300002 x300003) else (none)))) else (none)) else (none)) else (handshakerref09_Code.l0 k x0 x3 (wrap64 (x4 + 1)))
end
def handshakerref09_Code.f (k : Nat) (l0 : List (S62)) : Option (List Int) := handshakerref09_Code.l0 k l0 (([((l0.length : Int)) % 256] : List Int)) 0
theorem handshakerref09_Code.mono_l : ∀ k, (∀ y0 y1 y2, LeO (handshakerref09_Code.l0 k y0 y1 y2) (handshakerref09_Code.l0 (k + 1) y0 y1 y2)) ∧ (∀ y0 y1 y2 y3 y4 y5 y6 y7, LeO (handshakerref09_Code.l1 k y0 y1 y2 y3 y4 y5 y6 y7) (handshakerref09_Code.l1 (k + 1) y0 y1 y2 y3 y4 y5 y6 y7))
 | 0 => ⟨fun _ _ _ r h => by simp [handshakerref09_Code.l0] at h, fun _ _ _ _ _ _ _ _ r h => by simp [handshakerref09_Code.l1] at h⟩
 | k + 1 => by
  obtain ⟨ih0, ih1⟩ := handshakerref09_Code.mono_l k
  refine ⟨?_, ?_⟩
  all_goals intros
  all_goals first | unfold handshakerref09_Code.l0 | unfold handshakerref09_Code.l1
  all_goals repeat' first | exact LeO.refl _ | exact LeO.none _ | (with_reducible apply ih0) | (with_reducible apply ih1) | (with_reducible refine LeO.ite ?_ ?_) | (with_reducible refine LeO.bind ?_ (fun _ => ?_)) | apply ih0 | apply ih1 | refine LeO.ite ?_ ?_ | refine LeO.bind ?_ (fun _ => ?_)
theorem handshakerref09_Code.mono : ∀ a0 k, LeO (handshakerref09_Code.f k a0) (handshakerref09_Code.f (k + 1) a0) := by
 intro a0 k
 obtain ⟨ih0, ih1⟩ := handshakerref09_Code.mono_l k
 unfold handshakerref09_Code.f
 repeat' first
  | (with_reducible exact ih0 _ _ _)
  | (with_reducible exact ih1 _ _ _ _ _ _ _ _)
  | (with_reducible exact LeO.refl _)
  | (with_reducible exact LeO.none _)
  | (with_reducible refine LeO.ite ?_ ?_)
  | (with_reducible refine LeO.bind ?_ (fun _ => ?_))
  | exact ih0 _ _ _
  | exact ih1 _ _ _ _ _ _ _ _
  | exact LeO.none _
  | refine LeO.ite ?_ ?_
  | refine LeO.bind ?_ (fun _ => ?_)
set_option maxHeartbeats 8000000 in
set_option maxRecDepth 100000 in
theorem handshakerref09_Code.calls (k : Nat) (A0 : Option Addr) (c0 : Nat) (l0 : List (S62)) (r : List Int) (w : World) (hr0 : Kd.C k62 w A0 l0.length l0) (hc0 : l0.length ≤ c0) (h : handshakerref09_Code.f k l0 = some r) :
 Calls Try.prog 16 #[.slice A0 l0.length c0] w fun e w' => ∃ v0_ : Value, e = .returned (v0_) ∧ Kd.R (Kd.int .u8) 5 w' w.heap.size (fun _ => True) v0_ r ∧ Below w.heap.size w w' := by
 have hu62 := Try.underlying62
 have HR0 := ak hr0
 have HC0 := ak hc0
 clear hr0 hc0
 have HB := ak (Below.refl w.heap.size w)
 have H : (handshakerref09_Code.l0 k l0 (([((l0.length : Int)) % 256] : List Int)) 0) = some r := h
 clear h
 obtain ⟨y295, hy295⟩ : ∃ y_ : List Int, y_ = (([((l0.length : Int)) % 256] : List Int)) := ⟨_, rfl⟩
 replace H : (handshakerref09_Code.l0 k l0 y295 0) = some r := rh_ hy295 H
 have Ny295 := ak hy295
 clear hy295
 have H' := ak H
 clear H
 go_enter Try.func16, Try.ntmps16
 go_wp2_with (first | ((with_reducible refine gate_dst (N := 10) rfl ?_); refine Kd.R_lit (Kd.int .u8) _ 5 ?hg (N := 10) ?hd (xs := ([((l0.length : Int)) % 256] : List Int)) (inner := [.int .u8 (((l0.length : Int)) % 256)]) (ok := fun _ => True) (okp := fun _ => True) ?hr ?hp (fun _ hk => hk) trivial (Below.refl _ _) (Nat.le_refl _) (by simp) ?_; (case hd => rfl); (case hg => rfl); (case hr => first | (go_simp; done) | (go_simp; rfl)); (case hp => exact (Reps.one (show Kd.M (Kd.int .u8) _ _ _ (((l0.length : Int)) % 256) [.int .u8 (((l0.length : Int)) % 256)] from rfl) (Reps.none _ _))); intro v296 w2 ho3 hb hg_ hnew_; clear hg_ hnew_; (first | rw [← Ny295.out] at ho3 | (simp only [Int.reduceToNat] at ho3; rw [← Ny295.out] at ho3)); replace HO297 := ak (Kd.R_lower ho3 bsz_); replace HB := ak (bst_ hb); clear hb ho3))
 go_loopg [3, 4] k (fun kq v3 v4 w' => ∃ (x3_1 : List Int) (x4_1 : Int), v4 = .int .i64 x4_1 ∧ Aside0 (handshakerref09_Code.l0 kq l0 x3_1 x4_1 = some r) ∧ Aside0 (kq ≤ k) ∧ Aside0 (Kd.R (Kd.int .u8) 5 w' w.heap.size (fun _ => True) v3 x3_1) ∧ Aside0 (Below w.heap.size w w'))
 case atStart => exact ⟨(y295), (0), (by first | rfl | (simp; done) | (simp [*]; done)), H', ⟨Nat.le_refl _⟩, ⟨rq_ HO297⟩, ⟨bsv_⟩⟩
 case round =>
  clear H'
  try clear c1
  try clear p2
  obtain ⟨x3_1, x4_1, rfl, HA, HK1, HO_3, HB⟩ := hrel
  cases gk with
  | zero => exact absurd HA.out (by simp [handshakerref09_Code.l0])
  | succ k1 =>
   have H := HA.out
   clear HA
   simp only [handshakerref09_Code.l0] at H
   by_cases c4 : x4_1 < (l0.length : Int)
   rotate_left
   · rw [if_neg c4] at H
     have c4b0 : decide (x4_1 < (l0.length : Int)) = false := decide_eq_false c4
     clear c4
     obtain rfl := Option.some.inj H
     go_wp2
     go_ret
     exact ⟨_, by first | rfl | (simp [errW_none, errW_some] <;> rfl) | (simp [*, errW_none, errW_some] <;> rfl), rq_ HO_3, bsv_⟩
   rw [if_pos c4] at H
   have c4b0 : decide (x4_1 < (l0.length : Int)) = true := decide_eq_true c4
   clear c4
   by_cases c5 : 0 ≤ x4_1
   rotate_left
   · rw [if_neg c5] at H
     exact absurd H (by simp)
   rw [if_pos c5] at H
   have c5b0 : decide (0 ≤ x4_1) = true := decide_eq_true c5
   clear c5
   obtain ⟨y300, hy300⟩ : ∃ y_ : List Int, y_ = (([((rd_T62 l0 x4_1).f0) % 256, ((rd_T62 l0 x4_1).f1) % 256, ((rd_T62 l0 x4_1).f2) % 256, ((((rd_T62 l0 x4_1).f3).length : Int)) % 256] : List Int)) := ⟨_, rfl⟩
   replace H : (if x3_1.length + y300.length < 140737488355328 then (handshakerref09_Code.l1 k1 l0 (x3_1 ++ y300) x4_1 0 ((rd_T62 l0 x4_1).f0) ((rd_T62 l0 x4_1).f1) ((rd_T62 l0 x4_1).f2) ((rd_T62 l0 x4_1).f3)) else (none)) = some r := rh_ hy300 H
   have Ny300 := ak hy300
   clear hy300
   by_cases c6 : x3_1.length + y300.length < 140737488355328
   rotate_left
   · rw [if_neg c6] at H
     exact absurd H (by simp)
   rw [if_pos c6] at H
   have LMc6 := ak c6
   clear c6
   obtain ⟨y303, hy303⟩ : ∃ y_ : List Int, y_ = (x3_1 ++ y300) := ⟨_, rfl⟩
   replace H : (handshakerref09_Code.l1 k1 l0 y303 x4_1 0 ((rd_T62 l0 x4_1).f0) ((rd_T62 l0 x4_1).f1) ((rd_T62 l0 x4_1).f2) ((rd_T62 l0 x4_1).f3)) = some r := rh_ hy303 H
   have Ny303 := ak hy303
   clear hy303
   have H' := ak H
   clear H
   have p298 : 0 ≤ (x4_1 : Int) := oda_
   have q298 : x4_1 < (l0.length : Int) := oda_
   obtain ⟨ad298, A298_3, c298_3, e298, hx298_0, hx298_1, hx298_2, hx298_3, hl298_3, hi298_3⟩ := at_T62 HR0.out x4_1 p298 q298
   cases e298
   replace hx298_0 := bl_ HB hx298_0
   replace hx298_1 := bl_ HB hx298_1
   replace hx298_2 := bl_ HB hx298_2
   replace hx298_3 := bl_ HB hx298_3
   have HR298_3 := ak hi298_3
   have HC298_3 := ak hl298_3
   clear hi298_3 hl298_3
   replace p298 := eq_true p298
   replace q298 := eq_true q298
   go_wp2_with (first | ((with_reducible refine gate_dst (N := 5) rfl ?_); refine box_event ?hg (N := 5) ?hd (cs := #[.int .i64 0, .int .i64 0, .int .i64 0, .slice none 0 0]) (t := 62) ?hr ?_; (case hd => rfl); (case hg => rfl); (case hr => first | (go_simp; done) | (go_simp; rfl)); intro gb299 hg w7 hbox hb; replace HO_3 := rb_ HO_3 hb; replace BK299 := ak (hbox); replace GW299 := ak ((by rw [hg]; exact bsz_ : w.heap.size ≤ gb299)); replace HB := ak (bst_ hb); replace GE299 := GW299; clear hb hbox hg; obtain ⟨hcz8_0, hcz8_1, hcz8_2, hcz8_3, hfz8_0, hfz8_1, hfz8_2, hfz8_3⟩ := bz4_ BK299) | ((with_reducible refine gate_dst (N := 35) rfl ?_); refine Kd.R_lit (Kd.int .u8) _ 5 ?hg (N := 35) ?hd (xs := ([((rd_T62 l0 x4_1).f0) % 256, ((rd_T62 l0 x4_1).f1) % 256, ((rd_T62 l0 x4_1).f2) % 256, ((((rd_T62 l0 x4_1).f3).length : Int)) % 256] : List Int)) (inner := [.int .u8 (((rd_T62 l0 x4_1).f0) % 256), .int .u8 (((rd_T62 l0 x4_1).f1) % 256), .int .u8 (((rd_T62 l0 x4_1).f2) % 256), .int .u8 (((((rd_T62 l0 x4_1).f3).length : Int)) % 256)]) (ok := fun _ => True) (okp := fun _ => True) ?hr ?hp (fun _ hk => hk) trivial (Below.refl _ _) (Nat.le_refl _) (by simp) ?_; (case hd => rfl); (case hg => rfl); (case hr => first | (go_simp; done) | (go_simp; rfl)); (case hp => exact (Reps.one (show Kd.M (Kd.int .u8) _ _ _ (((rd_T62 l0 x4_1).f0) % 256) [.int .u8 (((rd_T62 l0 x4_1).f0) % 256)] from rfl) (Reps.one (show Kd.M (Kd.int .u8) _ _ _ (((rd_T62 l0 x4_1).f1) % 256) [.int .u8 (((rd_T62 l0 x4_1).f1) % 256)] from rfl) (Reps.one (show Kd.M (Kd.int .u8) _ _ _ (((rd_T62 l0 x4_1).f2) % 256) [.int .u8 (((rd_T62 l0 x4_1).f2) % 256)] from rfl) (Reps.one (show Kd.M (Kd.int .u8) _ _ _ (((((rd_T62 l0 x4_1).f3).length : Int)) % 256) [.int .u8 (((((rd_T62 l0 x4_1).f3).length : Int)) % 256)] from rfl) (Reps.none _ _)))))); intro v301 w9 ho10 hb hg_ hnew_; clear hg_ hnew_; (first | rw [← Ny300.out] at ho10 | (simp only [Int.reduceToNat] at ho10; rw [← Ny300.out] at ho10)); replace HO302 := ak (Kd.R_lower (Kd.R_new' ho10 (Kd.R_lt (by (with_reducible repeat (first | apply Kd.R_alloc | apply Kd.R_drewN | apply Kd.R_drew)); exact (Kd.R_mono (Kd.R_far (p := ⟨gb299, 3, none⟩) (Kd.R_far (p := ⟨gb299, 2, none⟩) (Kd.R_far (p := ⟨gb299, 1, none⟩) (Kd.R_far (p := ⟨gb299, 0, none⟩) (Kd.R_types HO_3.out BK299.out (by decide)) (fun _ hk => hk.2) (.int .i64 ((rd_T62 l0 x4_1).f0))) (fun _ hk => hk.2) (.int .i64 ((rd_T62 l0 x4_1).f1))) (fun _ hk => hk.2) (.int .i64 ((rd_T62 l0 x4_1).f2))) (fun _ hk => hk.2) (.slice A298_3 ((rd_T62 l0 x4_1).f3).length c298_3)) (fun _ h_ => h_.1))))) (below_size bsw_)); replace HO_3 := ak (Kd.R_elder' (by (with_reducible repeat (first | apply Kd.R_alloc | apply Kd.R_drewN | apply Kd.R_drew)); exact (Kd.R_mono (Kd.R_far (p := ⟨gb299, 3, none⟩) (Kd.R_far (p := ⟨gb299, 2, none⟩) (Kd.R_far (p := ⟨gb299, 1, none⟩) (Kd.R_far (p := ⟨gb299, 0, none⟩) (Kd.R_types HO_3.out BK299.out (by decide)) (fun _ hk => hk.2) (.int .i64 ((rd_T62 l0 x4_1).f0))) (fun _ hk => hk.2) (.int .i64 ((rd_T62 l0 x4_1).f1))) (fun _ hk => hk.2) (.int .i64 ((rd_T62 l0 x4_1).f2))) (fun _ hk => hk.2) (.slice A298_3 ((rd_T62 l0 x4_1).f3).length c298_3)) (fun _ h_ => h_.1))) (Kd.R_base ho10) hb); replace BK299 := ak (blk_below (g := gb299) (o := .cells #[.int .i64 ((rd_T62 l0 x4_1).f0), .int .i64 ((rd_T62 l0 x4_1).f1), .int .i64 ((rd_T62 l0 x4_1).f2), .slice A298_3 ((rd_T62 l0 x4_1).f3).length c298_3] 62 (0, 0)) (by (with_reducible repeat (first | refine blk_drewN ?_ _ | refine blk_drew ?_ | refine blk_alloc ?_ _)); refine blk_put (cs := #[.int .i64 ((rd_T62 l0 x4_1).f0), .int .i64 ((rd_T62 l0 x4_1).f1), .int .i64 ((rd_T62 l0 x4_1).f2), .slice none 0 0]) ?_ 3 _ rfl; (with_reducible repeat (first | refine blk_drewN ?_ _ | refine blk_drew ?_ | refine blk_alloc ?_ _)); refine blk_put (cs := #[.int .i64 ((rd_T62 l0 x4_1).f0), .int .i64 ((rd_T62 l0 x4_1).f1), .int .i64 0, .slice none 0 0]) ?_ 2 _ rfl; (with_reducible repeat (first | refine blk_drewN ?_ _ | refine blk_drew ?_ | refine blk_alloc ?_ _)); refine blk_put (cs := #[.int .i64 ((rd_T62 l0 x4_1).f0), .int .i64 0, .int .i64 0, .slice none 0 0]) ?_ 1 _ rfl; (with_reducible repeat (first | refine blk_drewN ?_ _ | refine blk_drew ?_ | refine blk_alloc ?_ _)); refine blk_put (cs := #[.int .i64 0, .int .i64 0, .int .i64 0, .slice none 0 0]) ?_ 0 _ rfl; (with_reducible repeat (first | refine blk_drewN ?_ _ | refine blk_drew ?_ | refine blk_alloc ?_ _)); exact BK299.out) hb); replace HB := ak (below_step bsw_ hb); clear hb ho10; obtain ⟨Ao12, co12, eo12⟩ := Kd.R_slice HO302.out; subst eo12) | ((with_reducible refine gate_builtin (b := .append) (xs := #[.tmp 21, .tmp 35]) rfl ?_); at_builtin; refine Kd.R_append_rows (Kd.int .u8) (w0 := w) w.heap.size rfl (.tmp 21) (.tmp 35) 25 5 (.int .u8 0) 1 rfl Try.underlying25 info5 rfl (by decide) (by omega) u3 x3_1 y300 _ _ _ (fun k_ => some k_ ≠ (.slice Ao12 y300.length co12 : Value).ownBlock) (fun _ => False) rfl rfl ?aO ?aR (fun _ _ h => h) (fun _ h => h.elim) ?aF ?aB ?aS ?aL ?_; (case aR => repeat (first | exact (Kd.R_reads' HO302.out).2.2 | with_reducible first | refine Kd.C_alloc ?_ _ | refine Kd.C_drewN ?_ _ | refine Kd.C_drew ?_)); (case aB => exact bsw_); (case aF => exact (fun k_ hk => Kd.fresh' (Kd.R_lt (rq_ HO302)) k_ hk)); (case aO => exact (Kd.R_mono (rq_ HO_3) (fun _ hk => hk.2))); (case aS => exact (below_size bsw_)); (case aL => have := LMc6.out; omega); intro v304 w11 ho hb hg hat; rw [← Ny303.out] at ho; replace BK299 := ak (blk_grown (g := gb299) (o := .cells #[.int .i64 ((rd_T62 l0 x4_1).f0), .int .i64 ((rd_T62 l0 x4_1).f1), .int .i64 ((rd_T62 l0 x4_1).f2), .slice A298_3 ((rd_T62 l0 x4_1).f3).length c298_3] 62 (0, 0)) (bq_ BK299) hg (Kd.R_ne HO_3.out BK299.out (by decide))); replace HO302 := ak (Kd.R_after (ok := (fun _ => True)) (rq_ HO302) hg hat); replace HB := ak (hb); replace HO305 := ak (ho); clear HO_3; clear ho hb hg hat))
   go_loopg [3, 6] k1 (fun kq v3 v6 w' => ∃ (x3_2 : List Int) (x6_2 : Int), v6 = .int .i64 x6_2 ∧ Aside0 (handshakerref09_Code.l1 kq l0 x3_2 x4_1 x6_2 ((rd_T62 l0 x4_1).f0) ((rd_T62 l0 x4_1).f1) ((rd_T62 l0 x4_1).f2) ((rd_T62 l0 x4_1).f3) = some r) ∧ Aside0 (kq ≤ k1) ∧ Aside0 (Kd.R (Kd.int .u8) 5 w' w.heap.size (fun _ => True) v3 x3_2) ∧ Aside0 (w'.heap[gb299]? = some (.cells #[.int .i64 ((rd_T62 l0 x4_1).f0), .int .i64 ((rd_T62 l0 x4_1).f1), .int .i64 ((rd_T62 l0 x4_1).f2), (.slice A298_3 ((rd_T62 l0 x4_1).f3).length c298_3)] 62 (0, 0))) ∧ Aside0 (Below w.heap.size w w'))
   case atStart => exact ⟨(y303), (0), (by first | rfl | (simp; done) | (simp [*]; done)), H', ⟨Nat.le_refl _⟩, ⟨Kd.R_mono (rq_ HO305) (fun _ hk => trivial)⟩, ⟨bq_ BK299⟩, ⟨bsw_⟩⟩
   case round =>
    clear H'
    try clear c1
    try clear c2
    try clear p2
    try clear q2
    try clear hx2
    try clear c4
    try clear c4b0
    try clear c5
    try clear c5b0
    try clear c6
    try clear hcz8_0
    try clear hcz8_1
    try clear hcz8_2
    try clear hcz8_3
    try clear hfz8_0
    try clear hfz8_1
    try clear hfz8_2
    try clear hfz8_3
    try clear hx298_0
    try clear hx298_1
    try clear hx298_2
    try clear hx298_3
    try clear p2
    try clear p298
    try clear q298
    obtain ⟨x3_2, x6_2, rfl, HA, HK2, HO_3, BK299, HB⟩ := hrel
    cases gk with
    | zero => exact absurd HA.out (by simp [handshakerref09_Code.l1])
    | succ k2 =>
     have H := HA.out
     clear HA
     simp only [handshakerref09_Code.l1] at H
     by_cases c13 : x6_2 < (((rd_T62 l0 x4_1).f3).length : Int)
     rotate_left
     · rw [if_neg c13] at H
       have c13b0 : decide (x6_2 < (((rd_T62 l0 x4_1).f3).length : Int)) = false := decide_eq_false c13
       clear c13
       have H' := ak H
       clear H
       obtain ⟨hcz24_0, hcz24_1, hcz24_2, hcz24_3, hfz24_0, hfz24_1, hfz24_2, hfz24_3⟩ := bz4_ BK299
       go_wp2
       go_roundg k2
       case measure => have := HK1.out; have := HK2.out; omega
       case rel => exact ⟨(x3_2), (wrap64 (x4_1 + 1)), (by first | rfl | (simp; done) | (simp [*]; done)), H', ⟨by have := HK1.out; have := HK2.out; omega⟩, ⟨rq_ HO_3⟩, ⟨bsw_⟩⟩
     rw [if_pos c13] at H
     have c13b0 : decide (x6_2 < (((rd_T62 l0 x4_1).f3).length : Int)) = true := decide_eq_true c13
     clear c13
     by_cases c14 : 0 ≤ x6_2
     rotate_left
     · rw [if_neg c14] at H
       exact absurd H (by simp)
     rw [if_pos c14] at H
     have c14b0 : decide (0 ≤ x6_2) = true := decide_eq_true c14
     clear c14
     by_cases c15 : x3_2.length < 140737488355328
     rotate_left
     · rw [if_neg c15] at H
       exact absurd H (by simp)
     rw [if_pos c15] at H
     have LMc15 := ak c15
     clear c15
     obtain ⟨y307, hy307⟩ : ∃ y_ : List Int, y_ = (x3_2 ++ [((rd_T66 ((rd_T62 l0 x4_1).f3) x6_2).f0) % 256]) := ⟨_, rfl⟩
     replace H : ((handshakerref09_four.f ((rd_T66 ((rd_T62 l0 x4_1).f3) x6_2).f1)).bind fun t311 => (if y307.length + t311.length < 140737488355328 then (handshakerref09_Code.l1 k2 l0 (y307 ++ t311) x4_1 (wrap64 (x6_2 + 1)) ((rd_T62 l0 x4_1).f0) ((rd_T62 l0 x4_1).f1) ((rd_T62 l0 x4_1).f2) ((rd_T62 l0 x4_1).f3)) else (none))) = some r := rh_ hy307 H
     have Ny307 := ak hy307
     clear hy307
     obtain ⟨t311, A16, H⟩ := bd_ H
     by_cases c17 : y307.length + t311.length < 140737488355328
     rotate_left
     · rw [if_neg c17] at H
       exact absurd H (by simp)
     rw [if_pos c17] at H
     have LMc17 := ak c17
     clear c17
     obtain ⟨y314, hy314⟩ : ∃ y_ : List Int, y_ = (y307 ++ t311) := ⟨_, rfl⟩
     replace H : (handshakerref09_Code.l1 k2 l0 y314 x4_1 (wrap64 (x6_2 + 1)) ((rd_T62 l0 x4_1).f0) ((rd_T62 l0 x4_1).f1) ((rd_T62 l0 x4_1).f2) ((rd_T62 l0 x4_1).f3)) = some r := rh_ hy314 H
     have Ny314 := ak hy314
     clear hy314
     have H' := ak H
     clear H
     obtain ⟨hcz18_0, hcz18_1, hcz18_2, hcz18_3, hfz18_0, hfz18_1, hfz18_2, hfz18_3⟩ := bz4_ BK299
     have p306 : 0 ≤ (x6_2 : Int) := oda_
     have q306 : x6_2 < (((rd_T62 l0 x4_1).f3).length : Int) := oda_
     obtain ⟨ad306, e306, hx306_0, hx306_1⟩ := at_T66 HR298_3.out x6_2 p306 q306
     cases e306
     replace hx306_0 := bl_ HB hx306_0
     replace hx306_1 := bl_ HB hx306_1
     replace p306 := eq_true p306
     replace q306 := eq_true q306
     go_wp2_with (first | ((with_reducible refine gate_builtin (b := .append) (xs := #[.tmp 44, .tmp 52]) rfl ?_); at_builtin; refine Kd.R_append (Kd.int .u8) (w0 := w) w.heap.size rfl (.tmp 44) (.tmp 52) 25 5 (.int .u8 0) 1 rfl Try.underlying25 info5 rfl (by decide) (by omega) u3 x3_2 (((rd_T66 ((rd_T62 l0 x4_1).f3) x6_2).f0) % 256) [.int .u8 (((rd_T66 ((rd_T62 l0 x4_1).f3) x6_2).f0) % 256)] (fun _ => True) (fun _ => False) rfl rfl ?aP (fun _ hk => hk.elim) ?aF ?aO ?aB ?aS ?aL ?_; (case aP => exact rfl); (case aB => exact bsw_); (case aF => exact (fun _ _ => trivial)); (case aO => exact (rq_ HO_3)); (case aS => exact (below_size bsw_)); (case aL => have := LMc15.out; omega); intro v308 w19 ho hb hg hat; rw [← Ny307.out] at ho; replace BK299 := ak (blk_grown (g := gb299) (o := .cells #[.int .i64 ((rd_T62 l0 x4_1).f0), .int .i64 ((rd_T62 l0 x4_1).f1), .int .i64 ((rd_T62 l0 x4_1).f2), .slice (some ad306) ((rd_T62 l0 x4_1).f3).length c298_3] 62 (0, 0)) (bq_ BK299) hg (Kd.R_ne HO_3.out BK299.out (by decide))); replace HB := ak (hb); replace HO309 := ak (ho); clear HO_3; clear ho hb hg hat; obtain ⟨hcz20_0, hcz20_1, hcz20_2, hcz20_3, hfz20_0, hfz20_1, hfz20_2, hfz20_3⟩ := bz4_ BK299; have p310 : 0 ≤ (x6_2 : Int) := oda_; have q310 : x6_2 < (((rd_T62 l0 x4_1).f3).length : Int) := oda_; obtain ⟨ad310, e310, hx310_0, hx310_1⟩ := at_T66 HR298_3.out x6_2 p310 q310; obtain rfl : ad306 = ad310 := (by injection e310); replace hx310_0 := bl_ HB hx310_0; replace hx310_1 := bl_ HB hx310_1; replace p310 := eq_true p310; replace q310 := eq_true q310) | ((with_reducible refine gate_callee (f := 28) rfl ?_); refine goesL_ (some 61) rfl rfl Try.func28 (by kernel_rfl) rfl #[.int .i64 ((rd_T66 ((rd_T62 l0 x4_1).f3) x6_2).f1)] rfl mp_ ?_; (with_reducible refine (handshakerref09_four.calls ((rd_T66 ((rd_T62 l0 x4_1).f3) x6_2).f1) t311 _ A16.out).mono ?_); rintro e w21 ⟨v312, rfl, ho0, hb⟩; refine ⟨_, rfl, ?_⟩; replace HO313 := ak (Kd.R_lower (Kd.R_new' ho0 (Kd.R_lt (rq_ HO309))) (below_size bsw_)); replace HO309 := ak (Kd.R_elder' (rq_ HO309) (Kd.R_base ho0) hb); replace BK299 := bb_ BK299 hb; replace HB := ak (below_step bsw_ hb); (try clear hb); (try clear ho0); obtain ⟨Ao23, co23, eo23⟩ := Kd.R_slice HO313.out; subst eo23) | ((with_reducible refine gate_builtin (b := .append) (xs := #[.tmp 54, .tmp 61]) rfl ?_); at_builtin; refine Kd.R_append_rows (Kd.int .u8) (w0 := w) w.heap.size rfl (.tmp 54) (.tmp 61) 25 5 (.int .u8 0) 1 rfl Try.underlying25 info5 rfl (by decide) (by omega) v308 y307 t311 _ _ _ (fun k_ => some k_ ≠ (.slice Ao23 t311.length co23 : Value).ownBlock) (fun _ => False) rfl rfl ?aO ?aR (fun _ _ h => h) (fun _ h => h.elim) ?aF ?aB ?aS ?aL ?_; (case aR => repeat (first | exact (Kd.R_reads' HO313.out).2.2 | with_reducible first | refine Kd.C_alloc ?_ _ | refine Kd.C_drewN ?_ _ | refine Kd.C_drew ?_)); (case aB => exact bsw_); (case aF => exact (fun k_ hk => Kd.fresh' (Kd.R_lt (rq_ HO313)) k_ hk)); (case aO => exact (Kd.R_mono (rq_ HO309) (fun _ hk => hk.2))); (case aS => exact (below_size bsw_)); (case aL => have := LMc17.out; omega); intro v315 w22 ho hb hg hat; rw [← Ny314.out] at ho; replace BK299 := ak (blk_grown (g := gb299) (o := .cells #[.int .i64 ((rd_T62 l0 x4_1).f0), .int .i64 ((rd_T62 l0 x4_1).f1), .int .i64 ((rd_T62 l0 x4_1).f2), .slice (some ad306) ((rd_T62 l0 x4_1).f3).length c298_3] 62 (0, 0)) (bq_ BK299) hg (Kd.R_ne HO309.out BK299.out (by decide))); replace HO313 := ak (Kd.R_after (ok := (fun _ => True)) (rq_ HO313) hg hat); replace HB := ak (hb); replace HO316 := ak (ho); clear HO309; clear ho hb hg hat))
     go_roundg k2
     case measure => have := HK1.out; have := HK2.out; omega
     case rel => exact ⟨(y314), (wrap64 (x6_2 + 1)), (by first | rfl | (simp; done) | (simp [*]; done)), H', ⟨by have := HK1.out; have := HK2.out; omega⟩, ⟨Kd.R_mono (rq_ HO316) (fun _ hk => trivial)⟩, ⟨bq_ BK299⟩, ⟨bsw_⟩⟩

/-! ### handshakerref09_Write: function 12 -/
def handshakerref09_Write.l0 : Nat → List (List (S62)) → List Int → Int → Option (List Int × Bool)
 | 0, _, _, _ => none
 | k + 1, x0, x4, x5 => if x5 < (x0.length : Int) then (if 0 ≤ x5 then ((handshakerref08_Check.f k (rd_L12 x0 x5)).bind fun t321 => (if t321 = 0 then ((handshakerref09_Code.f k (rd_L12 x0 x5)).bind fun t323 => (if x4.length + t323.length < 140737488355328 then (handshakerref09_Write.l0 k x0 (x4 ++ t323) (wrap64 (x5 + 1))) else (none))) else (some (([] : List Int), false)))) else (none)) else (some (x4, true))
def handshakerref09_Write.f (k : Nat) (l0 : List (List (S62))) : Option (List Int × Bool) := if (l0.length : Int) > 8 then (some (([] : List Int), false)) else (handshakerref09_Write.l0 k l0 (([((l0.length : Int)) % 256] : List Int)) 0)
theorem handshakerref09_Write.mono_l : ∀ k, (∀ y0 y1 y2, LeO (handshakerref09_Write.l0 k y0 y1 y2) (handshakerref09_Write.l0 (k + 1) y0 y1 y2))
 | 0 => fun _ _ _ r h => by simp [handshakerref09_Write.l0] at h
 | k + 1 => by
  have ih0 := handshakerref09_Write.mono_l k
  · intro y0 y1 y2
    unfold handshakerref09_Write.l0
    repeat' first
    | (with_reducible exact ih0 _ _ _)
    | (with_reducible exact handshakerref08_Check.mono _ _)
    | (with_reducible exact handshakerref09_Code.mono _ _)
    | (with_reducible exact LeO.refl _)
    | (with_reducible exact LeO.none _)
    | (with_reducible refine LeO.ite ?_ ?_)
    | (with_reducible refine LeO.bind ?_ (fun _ => ?_))
    | exact ih0 _ _ _
    | exact handshakerref08_Check.mono _ _
    | exact handshakerref09_Code.mono _ _
    | exact LeO.none _
    | refine LeO.ite ?_ ?_
    | refine LeO.bind ?_ (fun _ => ?_)
theorem handshakerref09_Write.mono : ∀ a0 k, LeO (handshakerref09_Write.f k a0) (handshakerref09_Write.f (k + 1) a0) := by
 intro a0 k
 have ih0 := handshakerref09_Write.mono_l k
 unfold handshakerref09_Write.f
 repeat' first
  | (with_reducible exact ih0 _ _ _)
  | (with_reducible exact handshakerref08_Check.mono _ _)
  | (with_reducible exact handshakerref09_Code.mono _ _)
  | (with_reducible exact LeO.refl _)
  | (with_reducible exact LeO.none _)
  | (with_reducible refine LeO.ite ?_ ?_)
  | (with_reducible refine LeO.bind ?_ (fun _ => ?_))
  | exact ih0 _ _ _
  | exact handshakerref08_Check.mono _ _
  | exact handshakerref09_Code.mono _ _
  | exact LeO.none _
  | refine LeO.ite ?_ ?_
  | refine LeO.bind ?_ (fun _ => ?_)
set_option maxHeartbeats 8000000 in
set_option maxRecDepth 100000 in
theorem handshakerref09_Write.calls (k : Nat) (A0 : Option Addr) (c0 : Nat) (l0 : List (List (S62))) (r1 : List Int) (r2 : Bool) (w : World) (hr0 : Kd.C (Kd.slice 62 k62) w A0 l0.length l0) (hc0 : l0.length ≤ c0) (h : handshakerref09_Write.f k l0 = some (r1, r2)) :
 Calls Try.prog 12 #[.slice A0 l0.length c0] w fun e w' => ∃ v0_ : Value, e = .returned (.tuple #[v0_, .bool r2]) ∧ Kd.R (Kd.int .u8) 5 w' w.heap.size (fun _ => True) v0_ r1 ∧ Below w.heap.size w w' := by
 have HR0 := ak hr0
 have HC0 := ak hc0
 clear hr0 hc0
 have HB := ak (Below.refl w.heap.size w)
 have H : (if (l0.length : Int) > 8 then (some (([] : List Int), false)) else (handshakerref09_Write.l0 k l0 (([((l0.length : Int)) % 256] : List Int)) 0)) = some (r1, r2) := h
 clear h
 by_cases c2 : (l0.length : Int) > 8
 · rw [if_pos c2] at H
   have c2b0 : decide (8 < (l0.length : Int)) = true := decide_eq_true c2
   have c2b1 : decide (8 < l0.length) = true := decide_eq_true (by omega)
   clear c2
   simp only [Option.some.injEq, Prod.mk.injEq] at H
   obtain ⟨rfl, rfl⟩ := H
   go_enter Try.func12, Try.ntmps12
   go_wp2
   go_ret2
   exact ⟨_, by first | rfl | (simp [errW_none, errW_some] <;> rfl) | (simp [*, errW_none, errW_some] <;> rfl), by first | exact Kd.R_nil _ _ _ _ _ | exact Kd.N_nil _ _ _ _ _ | exact Kd.V_nil _ _ _ _ _ | exact Kd.Q_nil _ _ _ _ _ | exact Kd.S_nil _ _ _ _ _, bsv_⟩
 rw [if_neg c2] at H
 have c2b0 : decide (8 < (l0.length : Int)) = false := decide_eq_false c2
 have c2b1 : decide (8 < l0.length) = false := decide_eq_false (by omega)
 clear c2
 obtain ⟨y317, hy317⟩ : ∃ y_ : List Int, y_ = (([((l0.length : Int)) % 256] : List Int)) := ⟨_, rfl⟩
 replace H : (handshakerref09_Write.l0 k l0 y317 0) = some (r1, r2) := rh_ hy317 H
 have Ny317 := ak hy317
 clear hy317
 have H' := ak H
 clear H
 go_enter Try.func12, Try.ntmps12
 go_wp2_with (first | ((with_reducible refine gate_dst (N := 12) rfl ?_); refine Kd.R_lit (Kd.int .u8) _ 5 ?hg (N := 12) ?hd (xs := ([((l0.length : Int)) % 256] : List Int)) (inner := [.int .u8 (((l0.length : Int)) % 256)]) (ok := fun _ => True) (okp := fun _ => True) ?hr ?hp (fun _ hk => hk) trivial (Below.refl _ _) (Nat.le_refl _) (by simp) ?_; (case hd => rfl); (case hg => rfl); (case hr => first | (go_simp; done) | (go_simp; rfl)); (case hp => exact (Reps.one (show Kd.M (Kd.int .u8) _ _ _ (((l0.length : Int)) % 256) [.int .u8 (((l0.length : Int)) % 256)] from rfl) (Reps.none _ _))); intro v318 w3 ho4 hb hg_ hnew_; clear hg_ hnew_; (first | rw [← Ny317.out] at ho4 | (simp only [Int.reduceToNat] at ho4; rw [← Ny317.out] at ho4)); replace HO319 := ak (Kd.R_lower ho4 bsz_); replace HB := ak (bst_ hb); clear hb ho4))
 go_loopg [4, 5] k (fun kq v4 v5 w' => ∃ (x4_1 : List Int) (x5_1 : Int), v5 = .int .i64 x5_1 ∧ Aside0 (handshakerref09_Write.l0 kq l0 x4_1 x5_1 = some (r1, r2)) ∧ Aside0 (kq ≤ k) ∧ Aside0 (Kd.R (Kd.int .u8) 5 w' w.heap.size (fun _ => True) v4 x4_1) ∧ Aside0 (Below w.heap.size w w'))
 case atStart => exact ⟨(y317), (0), (by first | rfl | (simp; done) | (simp [*]; done)), H', ⟨Nat.le_refl _⟩, ⟨rq_ HO319⟩, ⟨bsv_⟩⟩
 case round =>
  clear H'
  try clear c1
  try clear c2
  try clear c2b0
  try clear c2b1
  try clear p2
  obtain ⟨x4_1, x5_1, rfl, HA, HK1, HO_4, HB⟩ := hrel
  cases gk with
  | zero => exact absurd HA.out (by simp [handshakerref09_Write.l0])
  | succ k1 =>
   have H := HA.out
   clear HA
   simp only [handshakerref09_Write.l0] at H
   by_cases c5 : x5_1 < (l0.length : Int)
   rotate_left
   · rw [if_neg c5] at H
     have c5b0 : decide (x5_1 < (l0.length : Int)) = false := decide_eq_false c5
     clear c5
     simp only [Option.some.injEq, Prod.mk.injEq] at H
     obtain ⟨rfl, rfl⟩ := H
     go_wp2
     go_ret2
     exact ⟨_, by first | rfl | (simp [errW_none, errW_some] <;> rfl) | (simp [*, errW_none, errW_some] <;> rfl), rq_ HO_4, bsv_⟩
   rw [if_pos c5] at H
   have c5b0 : decide (x5_1 < (l0.length : Int)) = true := decide_eq_true c5
   clear c5
   by_cases c6 : 0 ≤ x5_1
   rotate_left
   · rw [if_neg c6] at H
     exact absurd H (by simp)
   rw [if_pos c6] at H
   have c6b0 : decide (0 ≤ x5_1) = true := decide_eq_true c6
   clear c6
   obtain ⟨t321, A7, H⟩ := bd_ H
   by_cases c8 : t321 = 0
   rotate_left
   · rw [if_neg c8] at H
     have c8b0 : (t321 == 0) = false := beq_eq_false_iff_ne.mpr c8
     have c8b1 : (t321 != 0) = true := bne_iff_ne.mpr c8
     simp only [Option.some.injEq, Prod.mk.injEq] at H
     obtain ⟨rfl, rfl⟩ := H
     have p320 : 0 ≤ (x5_1 : Int) := oda_
     have q320 : x5_1 < (l0.length : Int) := oda_
     obtain ⟨ad320, A320_0, c320_0, e320, hx320_0, hl320_0, hi320_0⟩ := at_L12 HR0.out x5_1 p320 q320
     cases e320
     replace hx320_0 := bl_ HB hx320_0
     have HR320_0 := ak hi320_0
     have HC320_0 := ak hl320_0
     clear hi320_0 hl320_0
     replace p320 := eq_true p320
     replace q320 := eq_true q320
     go_wp2_with (first | ((with_reducible refine gate_callee (f := 14) rfl ?_); refine goesL_ (some 23) rfl rfl Try.func14 (by kernel_rfl) rfl #[.slice A320_0 (rd_L12 l0 x5_1).length c320_0] rfl mp_ ?_; (with_reducible refine (handshakerref08_Check.calls k1 _ _ (rd_L12 l0 x5_1) t321 _ ?side1 ?side2 A7.out).mono ?_); (case side1 => exact cb_ HR320_0 HB); (case side2 => exact HC320_0.out); rintro e w15 ⟨rfl, hb⟩; refine ⟨_, rfl, ?_⟩; replace HO_4 := rb_ HO_4 hb; replace HB := ak (bst_ hb); (try clear hb)))
     go_ret2
     exact ⟨_, by first | rfl | (simp [errW_none, errW_some] <;> rfl) | (simp [*, errW_none, errW_some] <;> rfl), by first | exact Kd.R_nil _ _ _ _ _ | exact Kd.N_nil _ _ _ _ _ | exact Kd.V_nil _ _ _ _ _ | exact Kd.Q_nil _ _ _ _ _ | exact Kd.S_nil _ _ _ _ _, bsv_⟩
   rw [if_pos c8] at H
   have c8b0 : (t321 == 0) = true := beq_iff_eq.mpr c8
   have c8b1 : (t321 != 0) = false := bne_eq_false_iff_eq.mpr c8
   clear c8
   obtain ⟨t323, A9, H⟩ := bd_ H
   by_cases c10 : x4_1.length + t323.length < 140737488355328
   rotate_left
   · rw [if_neg c10] at H
     exact absurd H (by simp)
   rw [if_pos c10] at H
   have LMc10 := ak c10
   clear c10
   obtain ⟨y326, hy326⟩ : ∃ y_ : List Int, y_ = (x4_1 ++ t323) := ⟨_, rfl⟩
   replace H : (handshakerref09_Write.l0 k1 l0 y326 (wrap64 (x5_1 + 1))) = some (r1, r2) := rh_ hy326 H
   have Ny326 := ak hy326
   clear hy326
   have H' := ak H
   clear H
   have p320 : 0 ≤ (x5_1 : Int) := oda_
   have q320 : x5_1 < (l0.length : Int) := oda_
   obtain ⟨ad320, A320_0, c320_0, e320, hx320_0, hl320_0, hi320_0⟩ := at_L12 HR0.out x5_1 p320 q320
   cases e320
   replace hx320_0 := bl_ HB hx320_0
   have HR320_0 := ak hi320_0
   have HC320_0 := ak hl320_0
   clear hi320_0 hl320_0
   replace p320 := eq_true p320
   replace q320 := eq_true q320
   go_wp2_with (first | ((with_reducible refine gate_callee (f := 14) rfl ?_); refine goesL_ (some 23) rfl rfl Try.func14 (by kernel_rfl) rfl #[.slice A320_0 (rd_L12 l0 x5_1).length c320_0] rfl mp_ ?_; (with_reducible refine (handshakerref08_Check.calls k1 _ _ (rd_L12 l0 x5_1) t321 _ ?side1 ?side2 A7.out).mono ?_); (case side1 => exact cb_ HR320_0 HB); (case side2 => exact HC320_0.out); rintro e w11 ⟨rfl, hb⟩; refine ⟨_, rfl, ?_⟩; replace HO_4 := rb_ HO_4 hb; replace HB := ak (bst_ hb); (try clear hb); have p322 : 0 ≤ (x5_1 : Int) := oda_; have q322 : x5_1 < (l0.length : Int) := oda_; obtain ⟨ad322, A322_0, c322_0, e322, hx322_0, hl322_0, hi322_0⟩ := at_L12 HR0.out x5_1 p322 q322; obtain rfl : ad320 = ad322 := (by injection e322); replace hx322_0 := bl_ HB hx322_0; have HR322_0 := ak hi322_0; have HC322_0 := ak hl322_0; clear hi322_0 hl322_0; replace p322 := eq_true p322; replace q322 := eq_true q322) | ((with_reducible refine gate_callee (f := 16) rfl ?_); refine goesL_ (some 30) rfl rfl Try.func16 (by kernel_rfl) rfl #[.slice A322_0 (rd_L12 l0 x5_1).length c322_0] rfl mp_ ?_; (with_reducible refine (handshakerref09_Code.calls k1 _ _ (rd_L12 l0 x5_1) t323 _ ?side1 ?side2 A9.out).mono ?_); (case side1 => exact cb_ HR322_0 HB); (case side2 => exact HC322_0.out); rintro e w12 ⟨v324, rfl, ho0, hb⟩; refine ⟨_, rfl, ?_⟩; replace HO325 := ak (Kd.R_lower (Kd.R_new' ho0 (Kd.R_lt (rq_ HO_4))) bsz_); replace HO_4 := ak (Kd.R_elder' (rq_ HO_4) (Kd.R_base ho0) hb); replace HB := ak (bst_ hb); (try clear hb); (try clear ho0); obtain ⟨Ao14, co14, eo14⟩ := Kd.R_slice HO325.out; subst eo14) | ((with_reducible refine gate_builtin (b := .append) (xs := #[.tmp 25, .tmp 30]) rfl ?_); at_builtin; refine Kd.R_append_rows (Kd.int .u8) (w0 := w) w.heap.size rfl (.tmp 25) (.tmp 30) 25 5 (.int .u8 0) 1 rfl Try.underlying25 info5 rfl (by decide) (by omega) u4 x4_1 t323 _ _ _ (fun k_ => some k_ ≠ (.slice Ao14 t323.length co14 : Value).ownBlock) (fun _ => False) rfl rfl ?aO ?aR (fun _ _ h => h) (fun _ h => h.elim) ?aF ?aB ?aS ?aL ?_; (case aR => repeat (first | exact (Kd.R_reads' HO325.out).2.2 | with_reducible first | refine Kd.C_alloc ?_ _ | refine Kd.C_drewN ?_ _ | refine Kd.C_drew ?_)); (case aB => exact bsv_); (case aF => exact (fun k_ hk => Kd.fresh' (Kd.R_lt (rq_ HO325)) k_ hk)); (case aO => exact (Kd.R_mono (rq_ HO_4) (fun _ hk => hk.2))); (case aS => exact bsz_); (case aL => have := LMc10.out; omega); intro v327 w13 ho hb hg hat; rw [← Ny326.out] at ho; replace HO325 := ak (Kd.R_after (ok := (fun _ => True)) (rq_ HO325) hg hat); replace HB := ak (hb); replace HO328 := ak (ho); clear HO_4; clear ho hb hg hat))
   go_roundg k1
   case measure => have := HK1.out; omega
   case rel => exact ⟨(y326), (wrap64 (x5_1 + 1)), (by first | rfl | (simp; done) | (simp [*]; done)), H', ⟨by have := HK1.out; omega⟩, ⟨Kd.R_mono (rq_ HO328) (fun _ hk => trivial)⟩, ⟨bsv_⟩⟩

/-! ### handshakerlaw07_Ref: function 27 -/
def handshakerlaw07_Ref.l0 : Nat → List (S66) → List (S50) → Int → Int → Option ((List (S66)))
 | 0, _, _, _, _ => none
 | k + 1, x3, x6, x7, x8 => if x8 < x7 then (if 0 ≤ x8 then (if x8 < (x6.length : Int) then (if x3.length < 8796093022208 then (handshakerlaw07_Ref.l0 k (x3 ++ [(⟨(rd_T50 x6 x8).f0, (rd_T50 x6 x8).f1⟩ : S66)]) x6 x7 (wrap64 (x8 + 1))) else (none)) else (none)) else (none)) else (some x3)
def handshakerlaw07_Ref.f (k : Nat) (l0 : List (S50)) : Option ((List (S66))) := handshakerlaw07_Ref.l0 k ([] : List (S66)) l0 (l0.length : Int) 0
theorem handshakerlaw07_Ref.mono_l : ∀ k, (∀ y0 y1 y2 y3, LeO (handshakerlaw07_Ref.l0 k y0 y1 y2 y3) (handshakerlaw07_Ref.l0 (k + 1) y0 y1 y2 y3))
 | 0 => fun _ _ _ _ r h => by simp [handshakerlaw07_Ref.l0] at h
 | k + 1 => by
  have ih0 := handshakerlaw07_Ref.mono_l k
  · intro y0 y1 y2 y3
    unfold handshakerlaw07_Ref.l0
    repeat' first
    | (with_reducible exact ih0 _ _ _ _)
    | (with_reducible exact LeO.refl _)
    | (with_reducible exact LeO.none _)
    | (with_reducible refine LeO.ite ?_ ?_)
    | (with_reducible refine LeO.bind ?_ (fun _ => ?_))
    | exact ih0 _ _ _ _
    | exact LeO.none _
    | refine LeO.ite ?_ ?_
    | refine LeO.bind ?_ (fun _ => ?_)
theorem handshakerlaw07_Ref.mono : ∀ a0 k, LeO (handshakerlaw07_Ref.f k a0) (handshakerlaw07_Ref.f (k + 1) a0) := by
 intro a0 k
 have ih0 := handshakerlaw07_Ref.mono_l k
 unfold handshakerlaw07_Ref.f
 repeat' first
  | (with_reducible exact ih0 _ _ _ _)
  | (with_reducible exact LeO.refl _)
  | (with_reducible exact LeO.none _)
  | (with_reducible refine LeO.ite ?_ ?_)
  | (with_reducible refine LeO.bind ?_ (fun _ => ?_))
  | exact ih0 _ _ _ _
  | exact LeO.none _
  | refine LeO.ite ?_ ?_
  | refine LeO.bind ?_ (fun _ => ?_)
set_option maxHeartbeats 8000000 in
set_option maxRecDepth 100000 in
theorem handshakerlaw07_Ref.calls (k : Nat) (A0 : Option Addr) (c0 : Nat) (l0 : List (S50)) (r : List (S66)) (w : World) (hr0 : Kd.C k50 w A0 l0.length l0) (hc0 : l0.length ≤ c0) (h : handshakerlaw07_Ref.f k l0 = some r) :
 Calls Try.prog 27 #[.slice A0 l0.length c0] w fun e w' => ∃ v0_ : Value, e = .returned (v0_) ∧ Kd.R k66 66 w' w.heap.size (fun _ => True) v0_ r ∧ Below w.heap.size w w' := by
 have hu50 := Try.underlying50
 have HR0 := ak hr0
 have HC0 := ak hc0
 clear hr0 hc0
 have HB := ak (Below.refl w.heap.size w)
 have H : (handshakerlaw07_Ref.l0 k ([] : List (S66)) l0 (l0.length : Int) 0) = some r := h
 clear h
 have H' := ak H
 clear H
 go_enter Try.func27, Try.ntmps27
 go_wp2
 go_loopg [3, 8] k (fun kq v3 v8 w' => ∃ (x3_1 : List (S66)) (x8_1 : Int), v8 = .int .i64 x8_1 ∧ Aside0 (handshakerlaw07_Ref.l0 kq x3_1 l0 (l0.length : Int) x8_1 = some r) ∧ Aside0 (kq ≤ k) ∧ Aside0 (Kd.R k66 66 w' w.heap.size (fun _ => True) v3 x3_1) ∧ Aside0 (Below w.heap.size w w'))
 case atStart => exact ⟨(([] : List (S66))), (0), (by first | rfl | (simp; done) | (simp [*]; done)), H', ⟨Nat.le_refl _⟩, ⟨by first | exact Kd.R_nil _ _ _ _ _ | exact Kd.N_nil _ _ _ _ _ | exact Kd.V_nil _ _ _ _ _ | exact Kd.Q_nil _ _ _ _ _ | exact Kd.S_nil _ _ _ _ _⟩, ⟨bsv_⟩⟩
 case round =>
  clear H'
  obtain ⟨x3_1, x8_1, rfl, HA, HK1, HO_3, HB⟩ := hrel
  cases gk with
  | zero => exact absurd HA.out (by simp [handshakerlaw07_Ref.l0])
  | succ k1 =>
   have H := HA.out
   clear HA
   simp only [handshakerlaw07_Ref.l0] at H
   by_cases c2 : x8_1 < (l0.length : Int)
   rotate_left
   · rw [if_neg c2] at H
     have c2b0 : decide (x8_1 < (l0.length : Int)) = false := decide_eq_false c2
     clear c2
     obtain rfl := Option.some.inj H
     go_wp2
     go_ret
     exact ⟨_, by first | rfl | (simp [errW_none, errW_some] <;> rfl) | (simp [*, errW_none, errW_some] <;> rfl), rq_ HO_3, bsv_⟩
   rw [if_pos c2] at H
   have c2b0 : decide (x8_1 < (l0.length : Int)) = true := decide_eq_true c2
   clear c2
   by_cases c3 : 0 ≤ x8_1
   rotate_left
   · rw [if_neg c3] at H
     exact absurd H (by simp)
   rw [if_pos c3] at H
   have c3b0 : decide (0 ≤ x8_1) = true := decide_eq_true c3
   clear c3
   by_cases c4 : x8_1 < (l0.length : Int)
   rotate_left
   · rw [if_neg c4] at H
     exact absurd H (by simp)
   rw [if_pos c4] at H
   have c4b0 : decide (x8_1 < (l0.length : Int)) = true := decide_eq_true c4
   clear c4
   by_cases c5 : x3_1.length < 8796093022208
   rotate_left
   · rw [if_neg c5] at H
     exact absurd H (by simp)
   rw [if_pos c5] at H
   have LMc5 := ak c5
   clear c5
   obtain ⟨y331, hy331⟩ : ∃ y_ : List (S66), y_ = (x3_1 ++ [(⟨(rd_T50 l0 x8_1).f0, (rd_T50 l0 x8_1).f1⟩ : S66)]) := ⟨_, rfl⟩
   replace H : (handshakerlaw07_Ref.l0 k1 y331 l0 (l0.length : Int) (wrap64 (x8_1 + 1))) = some r := rh_ hy331 H
   have Ny331 := ak hy331
   clear hy331
   have H' := ak H
   clear H
   have p329 : 0 ≤ (x8_1 : Int) := oda_
   have q329 : x8_1 < (l0.length : Int) := oda_
   obtain ⟨ad329, e329, hx329_0, hx329_1⟩ := at_T50 HR0.out x8_1 p329 q329
   cases e329
   replace hx329_0 := bl_ HB hx329_0
   replace hx329_1 := bl_ HB hx329_1
   replace p329 := eq_true p329
   replace q329 := eq_true q329
   go_wp2_with (first | ((with_reducible refine gate_dst (N := 5) rfl ?_); refine box_event ?hg (N := 5) ?hd (cs := #[.int .i64 0, .int .i64 0]) (t := 50) ?hr ?_; (case hd => rfl); (case hg => rfl); (case hr => first | (go_simp; done) | (go_simp; rfl)); intro gb330 hg w6 hbox hb; replace HO_3 := rb_ HO_3 hb; replace BK330 := ak (hbox); replace GW330 := ak ((by rw [hg]; exact bsz_ : w.heap.size ≤ gb330)); replace HB := ak (bst_ hb); replace GE330 := GW330; clear hb hbox hg; obtain ⟨hcz7_0, hcz7_1, hfz7_0, hfz7_1⟩ := bz2_ BK330) | ((with_reducible refine gate_builtin (b := .append) (xs := #[.tmp 12, .tmp 14]) rfl ?_); at_builtin; refine Kd.R_append k66 (w0 := w) w.heap.size rfl (.tmp 12) (.tmp 14) 60 66 (.agg #[(.int .i64 0), (.int .i64 0)]) 16 rfl Try.underlying60 info66 rfl (by decide) (by omega) u3 x3_1 (⟨(rd_T50 l0 x8_1).f0, (rd_T50 l0 x8_1).f1⟩ : S66) [.int .i64 ((rd_T50 l0 x8_1).f0), .int .i64 ((rd_T50 l0 x8_1).f1)] (fun _ => True) (fun _ => False) rfl (by first | (go_simp; done) | (go_simp; rfl)) ?aP (fun _ hk => hk.elim) ?aF ?aO ?aB ?aS ?aL ?_; (case aP => exact k66_mkM _ _ _ (⟨(rd_T50 l0 x8_1).f0, (rd_T50 l0 x8_1).f1⟩ : S66)); (case aB => exact bsw_); (case aF => exact (fun _ _ => trivial)); (case aO => exact (by (with_reducible repeat (first | apply Kd.R_alloc | apply Kd.R_drewN | apply Kd.R_drew)); exact Kd.R_mono (Kd.R_far (p := ⟨gb330, 1, none⟩) (Kd.R_far (p := ⟨gb330, 0, none⟩) (Kd.R_types HO_3.out BK330.out (by decide)) (fun _ hk => hk.2) (.int .i64 ((rd_T50 l0 x8_1).f0))) (fun _ hk => hk.2) (.int .i64 ((rd_T50 l0 x8_1).f1))) (fun _ hk => trivial))); (case aS => exact (below_size bsw_)); (case aL => have := LMc5.out; omega); intro v332 w8 ho hb hg hat; rw [← Ny331.out] at ho; replace BK330 := ak (blk_grown (g := gb330) (o := .cells #[.int .i64 ((rd_T50 l0 x8_1).f0), .int .i64 ((rd_T50 l0 x8_1).f1)] 50 (0, 0)) (by (with_reducible repeat (first | refine blk_drewN ?_ _ | refine blk_drew ?_ | refine blk_alloc ?_ _)); refine blk_put (cs := #[.int .i64 ((rd_T50 l0 x8_1).f0), .int .i64 0]) ?_ 1 _ rfl; (with_reducible repeat (first | refine blk_drewN ?_ _ | refine blk_drew ?_ | refine blk_alloc ?_ _)); refine blk_put (cs := #[.int .i64 0, .int .i64 0]) ?_ 0 _ rfl; (with_reducible repeat (first | refine blk_drewN ?_ _ | refine blk_drew ?_ | refine blk_alloc ?_ _)); exact BK330.out) hg (Kd.R_ne HO_3.out BK330.out (by decide))); replace HB := ak (hb); replace HO333 := ak (ho); clear HO_3; clear ho hb hg hat))
   go_roundg k1
   case measure => have := HK1.out; omega
   case rel => exact ⟨(y331), (wrap64 (x8_1 + 1)), (by first | rfl | (simp; done) | (simp [*]; done)), H', ⟨by have := HK1.out; omega⟩, ⟨rq_ HO333⟩, ⟨bsw_⟩⟩

end Go.Proofs.Ytpeblomhhofhkaa.H
