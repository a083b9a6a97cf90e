-- PRINTED by print.py (a twelfth state) out of the translation. Not trusted: Lean checks it.
import Derived.Test.YtpeblomhhofhkaaHShI
import Derived.Test.YtpeblomhhofhkaaHx0
import Derived.Test.YtpeblomhhofhkaaHx5
import Derived.Test.YtpeblomhhofhkaaHx8
namespace Go.Proofs.Ytpeblomhhofhkaa.H
open Go.Proofs.Ytpeblomhhofhkaa.Ho
open Go.RowKit Go.Proofs.YtpeblomhhofhkaaW.PrintWords Go.Proofs.YtpeblomhhofhkaaW.PrintLast Go.Proofs.YtpeblomhhofhkaaW.PrintMore
attribute [local go_sem] max2_int min2_int max_two min_two max_three min_three max_four min_four   -- for this text's walks alone
set_option linter.unusedVariables false
set_option linter.unusedSimpArgs false

/-! ### handshakerlaw09_ShapeOnce: function 6 -/
mutual
def handshakerlaw09_ShapeOnce.j0 : Nat → List Int → Bool → Option (Bool)
 | 0, _, _ => none
 | k + 1, x0, x23 => if x23 = true then ((handshakerlaw09_awake.f k).bind fun t476 => (some t476)) else ((shape_Read.f k x0).bind fun bt477 => (if bt477.2 = 0 then ((shape_Write.f k bt477.1).bind fun bt482 => (handshakerlaw09_ShapeOnce.l0 k x0 bt482.1 bt482.2 1 bt477.1 (bt477.1.length : Int) 0)) else (if (bt477.1.length : Int) = 0 then (if bt477.2 = 2 then ((handshakerlaw09_awake.f k).bind fun t481 => (some t481)) else (some false)) else (some false))))
def handshakerlaw09_ShapeOnce.l0 : Nat → List Int → List Int → Int → Int → List (List (S53)) → Int → Int → Option (Bool)
 | 0, _, _, _, _, _, _, _ => none
 | k + 1, x0, x5, x6, x7, x47, x48, x49 => if x49 < x48 then (if 0 ≤ x49 then (if x49 < (x47.length : Int) then ((shape_Size.f k (rd_L5 x47 x49)).bind fun t488 => ((code_Check.f k (rd_L5 x47 x49)).bind fun t489 => (if t489 = 0 then (handshakerlaw09_ShapeOnce.l0 k x0 x5 x6 (wrap64 (x7 + t488)) x47 x48 (wrap64 (x49 + 1))) else (some false)))) else (none)) else (none)) else (if (strOfNums x5).toList = (strOfNums x0).toList then (if x6 = 0 then (if x7 = (x0.length : Int) then ((handshakerlaw09_awake.f k).bind fun t486 => (some t486)) else (some false)) else (some false)) else (some false))
end
def handshakerlaw09_ShapeOnce.f (k : Nat) (l0 : List Int) : Option (Bool) := if (l0.length : Int) > 400 then (handshakerlaw09_ShapeOnce.j0 k l0 true) else (if (l0.length : Int) > 0 then (if 0 < (l0.length : Int) then (handshakerlaw09_ShapeOnce.j0 k l0 (decide ((rd l0 0) > 20))) else (none)) else (handshakerlaw09_ShapeOnce.j0 k l0 false))
theorem handshakerlaw09_ShapeOnce.mono_l : ∀ k, (∀ y0 y1, LeO (handshakerlaw09_ShapeOnce.j0 k y0 y1) (handshakerlaw09_ShapeOnce.j0 (k + 1) y0 y1)) ∧ (∀ y0 y1 y2 y3 y4 y5 y6, LeO (handshakerlaw09_ShapeOnce.l0 k y0 y1 y2 y3 y4 y5 y6) (handshakerlaw09_ShapeOnce.l0 (k + 1) y0 y1 y2 y3 y4 y5 y6))
 | 0 => ⟨fun _ _ r h => by simp [handshakerlaw09_ShapeOnce.j0] at h, fun _ _ _ _ _ _ _ r h => by simp [handshakerlaw09_ShapeOnce.l0] at h⟩
 | k + 1 => by
  obtain ⟨ih0, ih1⟩ := handshakerlaw09_ShapeOnce.mono_l k
  refine ⟨?_, ?_⟩
  all_goals intros
  all_goals first | unfold handshakerlaw09_ShapeOnce.j0 | unfold handshakerlaw09_ShapeOnce.l0
  all_goals repeat' first | exact LeO.refl _ | exact LeO.none _ | (with_reducible apply ih0) | (with_reducible apply ih1) | (with_reducible apply code_Check.mono) | (with_reducible apply handshakerlaw09_awake.mono) | (with_reducible apply shape_Read.mono) | (with_reducible apply shape_Size.mono) | (with_reducible apply shape_Write.mono) | (with_reducible refine LeO.ite ?_ ?_) | (with_reducible refine LeO.bind ?_ (fun _ => ?_)) | apply ih0 | apply ih1 | apply code_Check.mono | apply handshakerlaw09_awake.mono | apply shape_Read.mono | apply shape_Size.mono | apply shape_Write.mono | refine LeO.ite ?_ ?_ | refine LeO.bind ?_ (fun _ => ?_)
theorem handshakerlaw09_ShapeOnce.mono : ∀ a0 k, LeO (handshakerlaw09_ShapeOnce.f k a0) (handshakerlaw09_ShapeOnce.f (k + 1) a0) := by
 intro a0 k
 obtain ⟨ih0, ih1⟩ := handshakerlaw09_ShapeOnce.mono_l k
 unfold handshakerlaw09_ShapeOnce.f
 repeat' first
  | (with_reducible exact ih0 _ _)
  | (with_reducible exact ih1 _ _ _ _ _ _ _)
  | (with_reducible exact code_Check.mono _ _)
  | (with_reducible exact handshakerlaw09_awake.mono _)
  | (with_reducible exact shape_Read.mono _ _)
  | (with_reducible exact shape_Size.mono _ _)
  | (with_reducible exact shape_Write.mono _ _)
  | (with_reducible exact LeO.refl _)
  | (with_reducible exact LeO.none _)
  | (with_reducible refine LeO.ite ?_ ?_)
  | (with_reducible refine LeO.bind ?_ (fun _ => ?_))
  | exact ih0 _ _
  | exact ih1 _ _ _ _ _ _ _
  | exact code_Check.mono _ _
  | exact handshakerlaw09_awake.mono _
  | exact shape_Read.mono _ _
  | exact shape_Size.mono _ _
  | exact shape_Write.mono _ _
  | exact LeO.none _
  | refine LeO.ite ?_ ?_
  | refine LeO.bind ?_ (fun _ => ?_)
set_option maxHeartbeats 8000000 in
set_option maxRecDepth 100000 in
theorem handshakerlaw09_ShapeOnce.calls (k : Nat) (A0 : Option Addr) (c0 : Nat) (l0 : List Int) (r : Bool) (w : World) (HT : Aside0 (r = true)) (hr0 : Kd.C (Kd.int .u8) w A0 l0.length l0) (hc0 : l0.length ≤ c0) (h : handshakerlaw09_ShapeOnce.f k l0 = some r) :
 Calls Try.prog 6 #[.slice A0 l0.length c0] w fun e w' => e = .returned (.bool r) ∧ Below w.heap.size w w' := by
 have HR0 := ak hr0
 have HC0 := ak hc0
 clear hr0 hc0
 have HB := ak (Below.refl w.heap.size w)
 have H : (if (l0.length : Int) > 400 then (handshakerlaw09_ShapeOnce.j0 k l0 true) else (if (l0.length : Int) > 0 then (if 0 < (l0.length : Int) then (handshakerlaw09_ShapeOnce.j0 k l0 (decide ((rd l0 0) > 20))) else (none)) else (handshakerlaw09_ShapeOnce.j0 k l0 false))) = some r := h
 clear h
 have HC2 := ak H
 clear H
 go_enter Try.func6, Try.ntmps6
 go_upto_region 1 with (fail)
 go_cut [23] (fun v23 wc => ∃ (kq : Nat) (x23_1 : Bool), v23 = .bool x23_1 ∧ Aside0 (handshakerlaw09_ShapeOnce.j0 kq l0 x23_1 = some r) ∧ Aside0 (kq ≤ k) ∧ Aside0 (Below w.heap.size w wc))
 case first =>
  have H := HC2.out
  clear HC2
  by_cases c3 : (l0.length : Int) > 400
  · rw [if_pos c3] at H
    have c3b0 : decide (400 < (l0.length : Int)) = true := decide_eq_true c3
    have c3b1 : decide (400 < l0.length) = true := decide_eq_true (by omega)
    clear c3
    (first | rw [c3b0] | (simp only [i64_w, i32_w]; rw [c3b0]) | skip)
    have H' := ak H
    clear H
    go_wp2
    go_meet
    case rel => exact ⟨_, (true), (by first | rfl | (simp; done) | (simp [*]; done)), H', ⟨by first | omega | exact Nat.le_refl _⟩, ⟨bsv_⟩⟩
  rw [if_neg c3] at H
  have c3b0 : decide (400 < (l0.length : Int)) = false := decide_eq_false c3
  have c3b1 : decide (400 < l0.length) = false := decide_eq_false (by omega)
  clear c3
  (first | rw [c3b0] | (simp only [i64_w, i32_w]; rw [c3b0]) | skip)
  by_cases c4 : (l0.length : Int) > 0
  rotate_left
  · rw [if_neg c4] at H
    have c4b0 : decide (0 < (l0.length : Int)) = false := decide_eq_false c4
    have c4b1 : decide (0 < l0.length) = false := decide_eq_false (by omega)
    clear c4
    have H' := ak H
    clear H
    go_wp2
    go_meet
    case rel => exact ⟨_, (false), (by first | rfl | (simp; done) | (simp [*]; done)), H', ⟨by first | omega | exact Nat.le_refl _⟩, ⟨bsv_⟩⟩
  rw [if_pos c4] at H
  have c4b0 : decide (0 < (l0.length : Int)) = true := decide_eq_true c4
  have c4b1 : decide (0 < l0.length) = true := decide_eq_true (by omega)
  clear c4
  by_cases c5 : 0 < (l0.length : Int)
  rotate_left
  · rw [if_neg c5] at H
    exact absurd H (by simp)
  rw [if_pos c5] at H
  have c5b0 : decide (0 < (l0.length : Int)) = true := decide_eq_true c5
  have c5b1 : decide (0 < l0.length) = true := decide_eq_true (by omega)
  clear c5
  have H' := ak H
  clear H
  have p475 : 0 ≤ (0 : Int) := (by omega)
  have q475 : 0 < (l0.length : Int) := oda_
  obtain ⟨ad475, e475, hx475_0⟩ := Kd.at_int HR0.out 0 p475 q475
  cases e475
  have qi475 : (0 < l0.length) = True := eq_true (by omega)
  (try rw [show ((0 : Int)).toNat = 0 from rfl] at hx475_0)
  (try rw [Addr.add_zero'] at hx475_0)
  replace hx475_0 := bl_ HB hx475_0
  replace p475 := eq_true p475
  replace q475 := eq_true q475
  go_wp2
  go_meet
  case rel => exact ⟨_, (decide ((rd l0 0) > 20)), (by first | rfl | (simp; done) | (simp [*]; done)), H', ⟨by first | omega | exact Nat.le_refl _⟩, ⟨bsv_⟩⟩
 case rest =>
  clear HC2
  try clear p2
  try clear c3
  try clear c3b0
  try clear c3b1
  try clear c4
  try clear c4b0
  try clear c4b1
  try clear p4
  try clear q4
  try clear hx4
  try clear qi4
  try clear c5
  try clear c5b0
  try clear c5b1
  try clear hx475_0
  try clear p475
  try clear q475
  obtain ⟨kq, x23_1, rfl, HA, HJ1, HB⟩ := hcut
  cases kq with
  | zero => exact absurd HA.out (by simp [handshakerlaw09_ShapeOnce.j0])
  | succ kj1 =>
   have H := HA.out
   clear HA
   simp only [handshakerlaw09_ShapeOnce.j0] at H
   by_cases c6 : x23_1 = true
   · subst c6
     rw [if_pos rfl] at H
     obtain ⟨t476, A7, H⟩ := bd_ H
     obtain rfl := Option.some.inj H
     go_wp2_with (first | ((with_reducible refine gate_callee (f := 10) rfl ?_); refine goesL_ (some 24) rfl rfl Try.func10 (by kernel_rfl) rfl #[] rfl mp_ ?_; (with_reducible refine (handshakerlaw09_awake.calls kj1  t476 _ A7.out).mono ?_); rintro e w8 ⟨rfl, hb⟩; refine ⟨_, rfl, ?_⟩; replace HB := ak (bst_ hb); (try clear hb)))
     go_ret
     exact ⟨by first | rfl | (simp [errW_none, errW_some] <;> rfl) | (simp [*, errW_none, errW_some] <;> rfl), bsv_⟩
   replace c6 := Bool.eq_false_iff.mpr c6
   subst c6
   rw [if_neg (show ¬ (false = true) by decide)] at H
   replace H := Option.bind_eq_some_iff.mp H
   obtain ⟨⟨t477, t478⟩, A90, H⟩ := H
   have A9 := ak A90
   clear A90
   by_cases c10 : t478 = 0
   rotate_left
   · rw [if_neg c10] at H
     have c10b0 : (t478 == 0) = false := beq_eq_false_iff_ne.mpr c10
     have c10b1 : (t478 != 0) = true := bne_iff_ne.mpr c10
     by_cases c30 : (t477.length : Int) = 0
     rotate_left
     · rw [if_neg c30] at H
       have c30b0 : ((t477.length : Int) == 0) = false := beq_eq_false_iff_ne.mpr c30
       have c30b1 : ((t477.length : Int) != 0) = true := bne_iff_ne.mpr c30
       have c30b2 : ¬ (t477 = []) := fun h_ => c30 (by rw [h_]; rfl)
       exact absurd (Option.some.inj H) (by rw [HT.out]; decide)
     rw [if_pos c30] at H
     have c30b0 : ((t477.length : Int) == 0) = true := beq_iff_eq.mpr c30
     have c30b1 : ((t477.length : Int) != 0) = false := bne_eq_false_iff_eq.mpr c30
     clear c30
     by_cases c31 : t478 = 2
     rotate_left
     · rw [if_neg c31] at H
       have c31b0 : (t478 == 2) = false := beq_eq_false_iff_ne.mpr c31
       have c31b1 : (t478 != 2) = true := bne_iff_ne.mpr c31
       exact absurd (Option.some.inj H) (by rw [HT.out]; decide)
     rw [if_pos c31] at H
     have c31b0 : (t478 == 2) = true := beq_iff_eq.mpr c31
     have c31b1 : (t478 != 2) = false := bne_eq_false_iff_eq.mpr c31
     clear c31
     obtain ⟨t481, A32, H⟩ := bd_ H
     obtain rfl := Option.some.inj H
     go_wp2_with (first | ((with_reducible refine gate_callee (f := 18) rfl ?_); refine goesL_ (some 27) rfl rfl Try.func18 (by kernel_rfl) rfl #[.slice A0 l0.length c0] rfl mp_ ?_; (with_reducible refine (shape_Read.calls kj1 _ _ l0 t477 t478 _ ?side1 ?side2 A9.out).mono ?_); (case side1 => exact cb_ HR0 HB); (case side2 => exact HC0.out); rintro e w33 ⟨v479, rfl, ho0, hb⟩; refine ⟨_, rfl, ?_⟩; replace HO480 := ak (Kd.R_lower ho0 bsz_); replace HB := ak (bst_ hb); (try clear hb); (try clear ho0); obtain ⟨Ao34, co34, eo34⟩ := Kd.R_slice HO480.out; subst eo34) | (go_at_call 10; (with_reducible refine (handshakerlaw09_awake.calls kj1  t481 _ A32.out).mono ?_); rintro e w35 ⟨rfl, hb⟩; replace HO480 := rb_ HO480 hb; replace HB := ak (bst_ hb); (try clear hb)))
     go_ret
     exact ⟨by first | rfl | (simp [errW_none, errW_some] <;> rfl) | (simp [*, errW_none, errW_some] <;> rfl), bsv_⟩
   rw [if_pos c10] at H
   have c10b0 : (t478 == 0) = true := beq_iff_eq.mpr c10
   have c10b1 : (t478 != 0) = false := bne_eq_false_iff_eq.mpr c10
   clear c10
   replace H := Option.bind_eq_some_iff.mp H
   obtain ⟨⟨t482, t483⟩, A110, H⟩ := H
   have A11 := ak A110
   clear A110
   have H' := ak H
   clear H
   go_wp2_with (first | ((with_reducible refine gate_callee (f := 18) rfl ?_); refine goesL_ (some 27) rfl rfl Try.func18 (by kernel_rfl) rfl #[.slice A0 l0.length c0] rfl mp_ ?_; (with_reducible refine (shape_Read.calls kj1 _ _ l0 t477 t478 _ ?side1 ?side2 A9.out).mono ?_); (case side1 => exact cb_ HR0 HB); (case side2 => exact HC0.out); rintro e w12 ⟨v479, rfl, ho0, hb⟩; refine ⟨_, rfl, ?_⟩; replace HO480 := ak (Kd.R_lower ho0 bsz_); replace HB := ak (bst_ hb); (try clear hb); (try clear ho0); obtain ⟨Ao13, co13, eo13⟩ := Kd.R_slice HO480.out; subst eo13) | ((with_reducible refine gate_callee (f := 11) rfl ?_); refine goesL_ (some 44) rfl rfl Try.func11 (by kernel_rfl) rfl #[.slice Ao13 t477.length co13] rfl mp_ ?_; (with_reducible refine (shape_Write.calls kj1 _ _ t477 t482 t483 _ ?side1 ?side2 A11.out).mono ?_); (case side1 => exact rc_ HO480); (case side2 => exact (Kd.R_reads' HO480.out).2.1); rintro e w14 ⟨v484, rfl, ho0, hb⟩; refine ⟨_, rfl, ?_⟩; replace HO480 := rb_ HO480 hb; replace HO485 := ak (Kd.R_lower ho0 bsz_); replace HB := ak (bst_ hb); (try clear hb); (try clear ho0)))
   go_loopg [7, 49] kj1 (fun kq v7 v49 w' => ∃ (x7_2 : Int) (x49_2 : Int), v7 = .int .i64 x7_2 ∧ v49 = .int .i64 x49_2 ∧ Aside0 (handshakerlaw09_ShapeOnce.l0 kq l0 t482 t483 x7_2 t477 (t477.length : Int) x49_2 = some r) ∧ Aside0 (kq ≤ kj1) ∧ Aside0 (Kd.R (Kd.int .u8) 5 w' w.heap.size (fun _ => True) v484 t482) ∧ Aside0 (Kd.R (Kd.slice 53 k53) 33 w' w.heap.size (fun _ => True) (.slice Ao13 t477.length co13) t477) ∧ Aside0 (Below w.heap.size w w'))
   case atStart => exact ⟨(1), (0), (by first | rfl | (simp; done) | (simp [*]; done)), (by first | rfl | (simp; done) | (simp [*]; done)), H', ⟨Nat.le_refl _⟩, ⟨rq_ HO485⟩, ⟨rq_ HO480⟩, ⟨bsv_⟩⟩
   case round =>
    clear H'
    try clear c1
    try clear p2
    try clear c3
    try clear c3b0
    try clear c3b1
    try clear c4
    try clear c4b0
    try clear c4b1
    try clear p4
    try clear q4
    try clear hx4
    try clear qi4
    try clear c5
    try clear c5b0
    try clear c5b1
    try clear c6
    try clear c10
    try clear c10b0
    try clear c10b1
    try clear c11
    try clear hx475_0
    try clear p2
    try clear p4
    try clear p475
    try clear q4
    try clear q475
    obtain ⟨x7_2, x49_2, rfl, rfl, HA, HK2, HO_5, HO_47, HB⟩ := hrel
    cases gk with
    | zero => exact absurd HA.out (by simp [handshakerlaw09_ShapeOnce.l0])
    | succ k2 =>
     have H := HA.out
     clear HA
     simp only [handshakerlaw09_ShapeOnce.l0] at H
     by_cases c15 : x49_2 < (t477.length : Int)
     rotate_left
     · rw [if_neg c15] at H
       have c15b0 : decide (x49_2 < (t477.length : Int)) = false := decide_eq_false c15
       clear c15
       by_cases c23 : (strOfNums t482).toList = (strOfNums l0).toList
       rotate_left
       · rw [if_neg c23] at H
         have c23b0 : ((strOfNums t482).toList == (strOfNums l0).toList) = false := beq_eq_false_iff_ne.mpr c23
         have c23b1 : ((strOfNums t482).toList != (strOfNums l0).toList) = true := bne_iff_ne.mpr c23
         exact absurd (Option.some.inj H) (by rw [HT.out]; decide)
       rw [if_pos c23] at H
       have c23b0 : ((strOfNums t482).toList == (strOfNums l0).toList) = true := beq_iff_eq.mpr c23
       have c23b1 : ((strOfNums t482).toList != (strOfNums l0).toList) = false := bne_eq_false_iff_eq.mpr c23
       clear c23
       by_cases c24 : t483 = 0
       rotate_left
       · rw [if_neg c24] at H
         have c24b0 : (t483 == 0) = false := beq_eq_false_iff_ne.mpr c24
         have c24b1 : (t483 != 0) = true := bne_iff_ne.mpr c24
         exact absurd (Option.some.inj H) (by rw [HT.out]; decide)
       rw [if_pos c24] at H
       have c24b0 : (t483 == 0) = true := beq_iff_eq.mpr c24
       have c24b1 : (t483 != 0) = false := bne_eq_false_iff_eq.mpr c24
       clear c24
       by_cases c25 : x7_2 = (l0.length : Int)
       rotate_left
       · rw [if_neg c25] at H
         have c25b0 : (x7_2 == (l0.length : Int)) = false := beq_eq_false_iff_ne.mpr c25
         have c25b1 : (x7_2 != (l0.length : Int)) = true := bne_iff_ne.mpr c25
         exact absurd (Option.some.inj H) (by rw [HT.out]; decide)
       rw [if_pos c25] at H
       have c25b0 : (x7_2 == (l0.length : Int)) = true := beq_iff_eq.mpr c25
       have c25b1 : (x7_2 != (l0.length : Int)) = false := bne_eq_false_iff_eq.mpr c25
       clear c25
       obtain ⟨t486, A26, H⟩ := bd_ H
       obtain rfl := Option.some.inj H
       have hcv27 := own_string (P := Try.prog) Try.underlying25 Try.underlying5 Try.underlying9 (Kd.own_of_R HO_5.out)
       have hcv28 := Kd.C_string (P := Try.prog) (A := A0) (c := c0) Try.underlying25 Try.underlying5 Try.underlying9 (Kd.C_below HR0.out HB.out)
       go_wp2_with (first | (go_at_call 10; (with_reducible refine (handshakerlaw09_awake.calls k2  t486 _ A26.out).mono ?_); rintro e w29 ⟨rfl, hb⟩; replace HO_5 := rb_ HO_5 hb; replace HO_47 := rb_ HO_47 hb; replace HB := ak (bst_ hb); (try clear hb)))
       go_ret
       exact ⟨by first | rfl | (simp [errW_none, errW_some] <;> rfl) | (simp [*, errW_none, errW_some] <;> rfl), bsv_⟩
     rw [if_pos c15] at H
     have c15b0 : decide (x49_2 < (t477.length : Int)) = true := decide_eq_true c15
     clear c15
     by_cases c16 : 0 ≤ x49_2
     rotate_left
     · rw [if_neg c16] at H
       exact absurd H (by simp)
     rw [if_pos c16] at H
     have c16b0 : decide (0 ≤ x49_2) = true := decide_eq_true c16
     clear c16
     by_cases c17 : x49_2 < (t477.length : Int)
     rotate_left
     · rw [if_neg c17] at H
       exact absurd H (by simp)
     rw [if_pos c17] at H
     have c17b0 : decide (x49_2 < (t477.length : Int)) = true := decide_eq_true c17
     clear c17
     obtain ⟨t488, A18, H⟩ := bd_ H
     obtain ⟨t489, A19, H⟩ := bd_ H
     by_cases c20 : t489 = 0
     rotate_left
     · rw [if_neg c20] at H
       have c20b0 : (t489 == 0) = false := beq_eq_false_iff_ne.mpr c20
       have c20b1 : (t489 != 0) = true := bne_iff_ne.mpr c20
       exact absurd (Option.some.inj H) (by rw [HT.out]; decide)
     rw [if_pos c20] at H
     have c20b0 : (t489 == 0) = true := beq_iff_eq.mpr c20
     have c20b1 : (t489 != 0) = false := bne_eq_false_iff_eq.mpr c20
     clear c20
     have H' := ak H
     clear H
     have p487 : 0 ≤ (x49_2 : Int) := oda_
     have q487 : x49_2 < (t477.length : Int) := oda_
     obtain ⟨ad487, A487_0, c487_0, e487, hx487_0, hl487_0, hi487_0⟩ := at_L5 (Kd.R_reads' HO_47.out).2.2 x49_2 p487 q487
     cases e487
     obtain ⟨ce487, hce487, hMe487, hcc487⟩ := Kd.R_get HO_47.out [] x49_2 p487 (by first | exact q487 | exact oda_ | (have e_ := (Kd.R_reads' HO_47.out).1; omega))
     obtain ⟨ve487_0, rfl, ge487_0⟩ := hMe487
     have hv487_0 := hcc487 0 _ rfl
     rw [Nat.add_zero, show ((Kd.slice 53 k53)).sz = 1 from rfl, Nat.mul_one] at hv487_0
     replace hv487_0 := Option.some.inj (hv487_0.symm.trans hx487_0)
     rw [hv487_0] at ge487_0
     have HL487_0 := ak (show Kd.R k53 53 _ _ _ _ (rd_L5 t477 x49_2) from ge487_0)
     clear hv487_0 ge487_0
     clear hcc487 hce487
     have HR487_0 := ak hi487_0
     have HC487_0 := ak hl487_0
     clear hi487_0 hl487_0
     replace p487 := eq_true p487
     replace q487 := eq_true q487
     go_wp2_with (first | ((with_reducible refine gate_callee (f := 17) rfl ?_); refine goesL_ (some 55) rfl rfl Try.func17 (by kernel_rfl) rfl #[.slice A487_0 (rd_L5 t477 x49_2).length c487_0] rfl mp_ ?_; (with_reducible refine (shape_Size.calls k2 _ _ (rd_L5 t477 x49_2) t488 _ ?side1 ?side2 A18.out).mono ?_); (case side1 => repeat (first | exact (Kd.V_reads' HL487_0.out).2.2 | exact cp_ HR487_0 | with_reducible first | refine Kd.C_alloc ?_ _ | refine Kd.C_drewN ?_ _ | refine Kd.C_drew ?_)); (case side2 => exact HC487_0.out); rintro e w21 ⟨rfl, hb⟩; refine ⟨_, rfl, ?_⟩; replace HO_5 := rb_ HO_5 hb; replace HO_47 := rb_ HO_47 hb; replace HL487_0 := rb_ HL487_0 hb; (first | replace HR487_0 := cq_ HR487_0 hb | skip); replace HB := ak (bst_ hb); (try clear hb)) | ((with_reducible refine gate_callee (f := 21) rfl ?_); refine goesL_ (some 58) rfl rfl Try.func21 (by kernel_rfl) rfl #[.slice A487_0 (rd_L5 t477 x49_2).length c487_0] rfl mp_ ?_; (with_reducible refine (code_Check.calls k2 _ _ (rd_L5 t477 x49_2) t489 _ ?side1 ?side2 A19.out).mono ?_); (case side1 => repeat (first | exact (Kd.V_reads' HL487_0.out).2.2 | exact cp_ HR487_0 | with_reducible first | refine Kd.C_alloc ?_ _ | refine Kd.C_drewN ?_ _ | refine Kd.C_drew ?_)); (case side2 => exact HC487_0.out); rintro e w22 ⟨rfl, hb⟩; refine ⟨_, rfl, ?_⟩; replace HO_5 := rb_ HO_5 hb; replace HO_47 := rb_ HO_47 hb; replace HL487_0 := rb_ HL487_0 hb; (first | replace HR487_0 := cq_ HR487_0 hb | skip); replace HB := ak (bst_ hb); (try clear hb)))
     go_roundg k2
     case measure => have := HJ1.out; have := HK2.out; omega
     case rel => exact ⟨(wrap64 (x7_2 + t488)), (wrap64 (x49_2 + 1)), (by first | rfl | (simp; done) | (simp [*]; done)), (by first | rfl | (simp; done) | (simp [*]; done)), H', ⟨by have := HJ1.out; have := HK2.out; omega⟩, ⟨rq_ HO_5⟩, ⟨rq_ HO_47⟩, ⟨bsv_⟩⟩

/-- THE ONE PURE STATEMENT of handshakerlaw09_ShapeOnce. -/
def handshakerlaw09_ShapeOnce.Pure : Prop := ∀ (l0 : List Int), l0.length ≤ maxLen → l0.length * 1 ≤ 140737488351232 → (∀ y ∈ l0, (Lit.int .u8 y).wf = true) → ∃ k, handshakerlaw09_ShapeOnce.f k l0 = some true

end Go.Proofs.Ytpeblomhhofhkaa.H
