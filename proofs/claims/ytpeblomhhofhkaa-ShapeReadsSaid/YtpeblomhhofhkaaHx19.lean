-- PRINTED by print.py (a twelfth state) out of the translation. Not trusted: Lean checks it.
import Derived.Test.YtpeblomhhofhkaaHShI
import Derived.Test.YtpeblomhhofhkaaHx0
import Derived.Test.YtpeblomhhofhkaaHx8
import Derived.Test.YtpeblomhhofhkaaHx15
import Derived.Test.YtpeblomhhofhkaaHx17
import Derived.Test.YtpeblomhhofhkaaHx18
namespace Go.Proofs.Ytpeblomhhofhkaa.H
open Go.Proofs.Ytpeblomhhofhkaa.Ho
open Go.RowKit Go.Proofs.YtpeblomhhofhkaaW.PrintWords Go.Proofs.YtpeblomhhofhkaaW.PrintLast Go.Proofs.YtpeblomhhofhkaaW.PrintMore
attribute [local go_sem] max2_int min2_int max_two min_two max_three min_three max_four min_four   -- for this text's walks alone
set_option linter.unusedVariables false
set_option linter.unusedSimpArgs false

/-! ### handshakerlaw09_ShapeReads: function 4 -/
def handshakerlaw09_ShapeReads.j0 : Nat → List Int → Bool → Option (Bool)
 | 0, _, _ => none
 | k + 1, x0, x20 => if x20 = true then ((handshakerlaw09_awake.f k).bind fun t419 => (some t419)) else ((shape_Read.f k x0).bind fun bt420 => ((handshakerref09_Read.f k x0).bind fun bt424 => ((handshakerlaw09_Refs.f k bt420.1).bind fun t428 => ((handshakerref09_Same.f k t428 bt424.1).bind fun t431 => (if t431 = true then (if bt420.2 = 0 then (if bt424.2 = true then ((handshakerlaw09_awake.f k).bind fun t432 => (some t432)) else (some false)) else (if bt424.2 = true then (some false) else (if bt420.2 = 2 then ((handshakerlaw09_awake.f k).bind fun t433 => (some t433)) else (some false)))) else (some false))))))
def handshakerlaw09_ShapeReads.f (k : Nat) (l0 : List Int) : Option (Bool) := if (l0.length : Int) > 400 then (handshakerlaw09_ShapeReads.j0 k l0 true) else (if (l0.length : Int) > 0 then (if 0 < (l0.length : Int) then (handshakerlaw09_ShapeReads.j0 k l0 (decide ((rd l0 0) > 20))) else (none)) else (handshakerlaw09_ShapeReads.j0 k l0 false))
theorem handshakerlaw09_ShapeReads.mono_l : ∀ k, (∀ y0 y1, LeO (handshakerlaw09_ShapeReads.j0 k y0 y1) (handshakerlaw09_ShapeReads.j0 (k + 1) y0 y1))
 | 0 => fun _ _ r h => by simp [handshakerlaw09_ShapeReads.j0] at h
 | k + 1 => by
  have ih0 := handshakerlaw09_ShapeReads.mono_l k
  · intro y0 y1
    unfold handshakerlaw09_ShapeReads.j0
    repeat' first
    | (with_reducible exact ih0 _ _)
    | (with_reducible exact handshakerlaw09_Refs.mono _ _)
    | (with_reducible exact handshakerlaw09_awake.mono _)
    | (with_reducible exact handshakerref09_Read.mono _ _)
    | (with_reducible exact handshakerref09_Same.mono _ _ _)
    | (with_reducible exact shape_Read.mono _ _)
    | (with_reducible exact LeO.refl _)
    | (with_reducible exact LeO.none _)
    | (with_reducible refine LeO.ite ?_ ?_)
    | (with_reducible refine LeO.bind ?_ (fun _ => ?_))
    | exact ih0 _ _
    | exact handshakerlaw09_Refs.mono _ _
    | exact handshakerlaw09_awake.mono _
    | exact handshakerref09_Read.mono _ _
    | exact handshakerref09_Same.mono _ _ _
    | exact shape_Read.mono _ _
    | exact LeO.none _
    | refine LeO.ite ?_ ?_
    | refine LeO.bind ?_ (fun _ => ?_)
theorem handshakerlaw09_ShapeReads.mono : ∀ a0 k, LeO (handshakerlaw09_ShapeReads.f k a0) (handshakerlaw09_ShapeReads.f (k + 1) a0) := by
 intro a0 k
 have ih0 := handshakerlaw09_ShapeReads.mono_l k
 unfold handshakerlaw09_ShapeReads.f
 repeat' first
  | (with_reducible exact ih0 _ _)
  | (with_reducible exact handshakerlaw09_Refs.mono _ _)
  | (with_reducible exact handshakerlaw09_awake.mono _)
  | (with_reducible exact handshakerref09_Read.mono _ _)
  | (with_reducible exact handshakerref09_Same.mono _ _ _)
  | (with_reducible exact shape_Read.mono _ _)
  | (with_reducible exact LeO.refl _)
  | (with_reducible exact LeO.none _)
  | (with_reducible refine LeO.ite ?_ ?_)
  | (with_reducible refine LeO.bind ?_ (fun _ => ?_))
  | exact ih0 _ _
  | exact handshakerlaw09_Refs.mono _ _
  | exact handshakerlaw09_awake.mono _
  | exact handshakerref09_Read.mono _ _
  | exact handshakerref09_Same.mono _ _ _
  | exact shape_Read.mono _ _
  | exact LeO.none _
  | refine LeO.ite ?_ ?_
  | refine LeO.bind ?_ (fun _ => ?_)
set_option maxHeartbeats 8000000 in
set_option maxRecDepth 100000 in
theorem handshakerlaw09_ShapeReads.calls (k : Nat) (A0 : Option Addr) (c0 : Nat) (l0 : List Int) (r : Bool) (w : World) (HT : Aside0 (r = true)) (hr0 : Kd.C (Kd.int .u8) w A0 l0.length l0) (hc0 : l0.length ≤ c0) (h : handshakerlaw09_ShapeReads.f k l0 = some r) :
 Calls Try.prog 4 #[.slice A0 l0.length c0] w fun e w' => e = .returned (.bool r) ∧ Below w.heap.size w w' := by
 have HR0 := ak hr0
 have HC0 := ak hc0
 clear hr0 hc0
 have HB := ak (Below.refl w.heap.size w)
 have H : (if (l0.length : Int) > 400 then (handshakerlaw09_ShapeReads.j0 k l0 true) else (if (l0.length : Int) > 0 then (if 0 < (l0.length : Int) then (handshakerlaw09_ShapeReads.j0 k l0 (decide ((rd l0 0) > 20))) else (none)) else (handshakerlaw09_ShapeReads.j0 k l0 false))) = some r := h
 clear h
 have HC2 := ak H
 clear H
 go_enter Try.func4, Try.ntmps4
 go_upto_region 1 with (fail)
 go_cut [20] (fun v20 wc => ∃ (kq : Nat) (x20_1 : Bool), v20 = .bool x20_1 ∧ Aside0 (handshakerlaw09_ShapeReads.j0 kq l0 x20_1 = some r) ∧ Aside0 (kq ≤ k) ∧ Aside0 (Below w.heap.size w wc))
 case first =>
  have H := HC2.out
  clear HC2
  by_cases c3 : (l0.length : Int) > 400
  · rw [if_pos c3] at H
    have c3b0 : decide (400 < (l0.length : Int)) = true := decide_eq_true c3
    have c3b1 : decide (400 < l0.length) = true := decide_eq_true (by omega)
    clear c3
    (first | rw [c3b0] | (simp only [i64_w, i32_w]; rw [c3b0]) | skip)
    have H' := ak H
    clear H
    go_wp2
    go_meet
    case rel => exact ⟨_, (true), (by first | rfl | (simp; done) | (simp [*]; done)), H', ⟨by first | omega | exact Nat.le_refl _⟩, ⟨bsv_⟩⟩
  rw [if_neg c3] at H
  have c3b0 : decide (400 < (l0.length : Int)) = false := decide_eq_false c3
  have c3b1 : decide (400 < l0.length) = false := decide_eq_false (by omega)
  clear c3
  (first | rw [c3b0] | (simp only [i64_w, i32_w]; rw [c3b0]) | skip)
  by_cases c4 : (l0.length : Int) > 0
  rotate_left
  · rw [if_neg c4] at H
    have c4b0 : decide (0 < (l0.length : Int)) = false := decide_eq_false c4
    have c4b1 : decide (0 < l0.length) = false := decide_eq_false (by omega)
    clear c4
    have H' := ak H
    clear H
    go_wp2
    go_meet
    case rel => exact ⟨_, (false), (by first | rfl | (simp; done) | (simp [*]; done)), H', ⟨by first | omega | exact Nat.le_refl _⟩, ⟨bsv_⟩⟩
  rw [if_pos c4] at H
  have c4b0 : decide (0 < (l0.length : Int)) = true := decide_eq_true c4
  have c4b1 : decide (0 < l0.length) = true := decide_eq_true (by omega)
  clear c4
  by_cases c5 : 0 < (l0.length : Int)
  rotate_left
  · rw [if_neg c5] at H
    exact absurd H (by simp)
  rw [if_pos c5] at H
  have c5b0 : decide (0 < (l0.length : Int)) = true := decide_eq_true c5
  have c5b1 : decide (0 < l0.length) = true := decide_eq_true (by omega)
  clear c5
  have H' := ak H
  clear H
  have p418 : 0 ≤ (0 : Int) := (by omega)
  have q418 : 0 < (l0.length : Int) := oda_
  obtain ⟨ad418, e418, hx418_0⟩ := Kd.at_int HR0.out 0 p418 q418
  cases e418
  have qi418 : (0 < l0.length) = True := eq_true (by omega)
  (try rw [show ((0 : Int)).toNat = 0 from rfl] at hx418_0)
  (try rw [Addr.add_zero'] at hx418_0)
  replace hx418_0 := bl_ HB hx418_0
  replace p418 := eq_true p418
  replace q418 := eq_true q418
  go_wp2
  go_meet
  case rel => exact ⟨_, (decide ((rd l0 0) > 20)), (by first | rfl | (simp; done) | (simp [*]; done)), H', ⟨by first | omega | exact Nat.le_refl _⟩, ⟨bsv_⟩⟩
 case rest =>
  clear HC2
  try clear p2
  try clear c3
  try clear c3b0
  try clear c3b1
  try clear c4
  try clear c4b0
  try clear c4b1
  try clear p4
  try clear q4
  try clear hx4
  try clear qi4
  try clear c5
  try clear c5b0
  try clear c5b1
  try clear hx418_0
  try clear p418
  try clear q418
  obtain ⟨kq, x20_1, rfl, HA, HJ1, HB⟩ := hcut
  cases kq with
  | zero => exact absurd HA.out (by simp [handshakerlaw09_ShapeReads.j0])
  | succ kj1 =>
   have H := HA.out
   clear HA
   simp only [handshakerlaw09_ShapeReads.j0] at H
   by_cases c6 : x20_1 = true
   · subst c6
     rw [if_pos rfl] at H
     obtain ⟨t419, A7, H⟩ := bd_ H
     obtain rfl := Option.some.inj H
     go_wp2_with (first | ((with_reducible refine gate_callee (f := 10) rfl ?_); refine goesL_ (some 21) rfl rfl Try.func10 (by kernel_rfl) rfl #[] rfl mp_ ?_; (with_reducible refine (handshakerlaw09_awake.calls kj1  t419 _ A7.out).mono ?_); rintro e w8 ⟨rfl, hb⟩; refine ⟨_, rfl, ?_⟩; replace HB := ak (bst_ hb); (try clear hb)))
     go_ret
     exact ⟨by first | rfl | (simp [errW_none, errW_some] <;> rfl) | (simp [*, errW_none, errW_some] <;> rfl), bsv_⟩
   replace c6 := Bool.eq_false_iff.mpr c6
   subst c6
   rw [if_neg (show ¬ (false = true) by decide)] at H
   replace H := Option.bind_eq_some_iff.mp H
   obtain ⟨⟨t420, t421⟩, A90, H⟩ := H
   have A9 := ak A90
   clear A90
   replace H := Option.bind_eq_some_iff.mp H
   obtain ⟨⟨t424, t425⟩, A100, H⟩ := H
   have A10 := ak A100
   clear A100
   obtain ⟨t428, A11, H⟩ := bd_ H
   obtain ⟨t431, A12, H⟩ := bd_ H
   by_cases c13 : t431 = true
   rotate_left
   · replace c13 := Bool.eq_false_iff.mpr c13
     subst c13
     rw [if_neg (show ¬ (false = true) by decide)] at H
     exact absurd (Option.some.inj H) (by rw [HT.out]; decide)
   subst c13
   rw [if_pos rfl] at H
   by_cases c14 : t421 = 0
   · rw [if_pos c14] at H
     have c14b0 : (t421 == 0) = true := beq_iff_eq.mpr c14
     have c14b1 : (t421 != 0) = false := bne_eq_false_iff_eq.mpr c14
     clear c14
     by_cases c15 : t425 = true
     rotate_left
     · replace c15 := Bool.eq_false_iff.mpr c15
       subst c15
       rw [if_neg (show ¬ (false = true) by decide)] at H
       exact absurd (Option.some.inj H) (by rw [HT.out]; decide)
     subst c15
     rw [if_pos rfl] at H
     obtain ⟨t432, A16, H⟩ := bd_ H
     obtain rfl := Option.some.inj H
     go_wp2_with (first | ((with_reducible refine gate_callee (f := 18) rfl ?_); refine goesL_ (some 24) rfl rfl Try.func18 (by kernel_rfl) rfl #[.slice A0 l0.length c0] rfl mp_ ?_; (with_reducible refine (shape_Read.calls kj1 _ _ l0 t420 t421 _ ?side1 ?side2 A9.out).mono ?_); (case side1 => exact cb_ HR0 HB); (case side2 => exact HC0.out); rintro e w17 ⟨v422, rfl, ho0, hb⟩; refine ⟨_, rfl, ?_⟩; replace HO423 := ak (Kd.R_lower ho0 bsz_); replace HB := ak (bst_ hb); (try clear hb); (try clear ho0)) | ((with_reducible refine gate_callee (f := 19) rfl ?_); refine goesL_ (some 29) rfl rfl Try.func19 (by kernel_rfl) rfl #[.slice A0 l0.length c0] rfl mp_ ?_; (with_reducible refine (handshakerref09_Read.calls kj1 _ _ l0 t424 true _ ?side1 ?side2 A10.out).mono ?_); (case side1 => exact cb_ HR0 HB); (case side2 => exact HC0.out); rintro e w18 ⟨v426, rfl, ho0, hb⟩; refine ⟨_, rfl, ?_⟩; replace HO423 := rb_ HO423 hb; replace HO427 := ak (Kd.R_lower ho0 bsz_); replace HB := ak (bst_ hb); (try clear hb); (try clear ho0); obtain ⟨Ao19, co19, eo19⟩ := Kd.R_slice HO423.out; subst eo19) | ((with_reducible refine gate_callee (f := 13) rfl ?_); refine goesL_ (some 33) rfl rfl Try.func13 (by kernel_rfl) rfl #[.slice Ao19 t420.length co19] rfl mp_ ?_; (with_reducible refine (handshakerlaw09_Refs.calls kj1 _ _ t420 t428 _ ?side1 ?side2 A11.out).mono ?_); (case side1 => exact rc_ HO423); (case side2 => exact (Kd.R_reads' HO423.out).2.1); rintro e w20 ⟨v429, rfl, ho0, hb⟩; refine ⟨_, rfl, ?_⟩; replace HO423 := rb_ HO423 hb; replace HO430 := ak (Kd.R_lower (Kd.R_new' ho0 (Kd.R_lt (rq_ HO427))) bsz_); replace HO427 := ak (Kd.R_elder' (rq_ HO427) (Kd.R_base ho0) hb); replace HB := ak (bst_ hb); (try clear hb); (try clear ho0); obtain ⟨Ao21, co21, eo21⟩ := Kd.R_slice HO430.out; subst eo21; obtain ⟨Ao22, co22, eo22⟩ := Kd.R_slice HO427.out; subst eo22) | ((with_reducible refine gate_callee (f := 20) rfl ?_); refine goesL_ (some 35) rfl rfl Try.func20 (by kernel_rfl) rfl #[.slice Ao21 t428.length co21, .slice Ao22 t424.length co22] rfl mp_ ?_; (with_reducible refine (handshakerref09_Same.calls kj1 _ _ t428 _ _ t424 true _ ?side1 ?side2 ?side3 ?side4 A12.out).mono ?_); (case side1 => exact rc_ HO430); (case side2 => exact (Kd.R_reads' HO430.out).2.1); (case side3 => exact rc_ HO427); (case side4 => exact (Kd.R_reads' HO427.out).2.1); rintro e w' ⟨rfl, ⟨nd, rfl⟩⟩; refine ⟨_, rfl, ?_⟩) | (go_at_call 10; (with_reducible refine (handshakerlaw09_awake.calls kj1  t432 _ A16.out).mono ?_); rintro e w23 ⟨rfl, hb⟩; replace HO423 := rb_ HO423 hb; replace HO427 := rb_ HO427 hb; replace HO430 := rb_ HO430 hb; replace HB := ak (bst_ hb); (try clear hb)))
     go_ret
     exact ⟨by first | rfl | (simp [errW_none, errW_some] <;> rfl) | (simp [*, errW_none, errW_some] <;> rfl), bsv_⟩
   rw [if_neg c14] at H
   have c14b0 : (t421 == 0) = false := beq_eq_false_iff_ne.mpr c14
   have c14b1 : (t421 != 0) = true := bne_iff_ne.mpr c14
   by_cases c24 : t425 = true
   · subst c24
     rw [if_pos rfl] at H
     exact absurd (Option.some.inj H) (by rw [HT.out]; decide)
   replace c24 := Bool.eq_false_iff.mpr c24
   subst c24
   rw [if_neg (show ¬ (false = true) by decide)] at H
   by_cases c25 : t421 = 2
   rotate_left
   · rw [if_neg c25] at H
     have c25b0 : (t421 == 2) = false := beq_eq_false_iff_ne.mpr c25
     have c25b1 : (t421 != 2) = true := bne_iff_ne.mpr c25
     exact absurd (Option.some.inj H) (by rw [HT.out]; decide)
   rw [if_pos c25] at H
   have c25b0 : (t421 == 2) = true := beq_iff_eq.mpr c25
   have c25b1 : (t421 != 2) = false := bne_eq_false_iff_eq.mpr c25
   clear c25
   obtain ⟨t433, A26, H⟩ := bd_ H
   obtain rfl := Option.some.inj H
   go_wp2_with (first | ((with_reducible refine gate_callee (f := 18) rfl ?_); refine goesL_ (some 24) rfl rfl Try.func18 (by kernel_rfl) rfl #[.slice A0 l0.length c0] rfl mp_ ?_; (with_reducible refine (shape_Read.calls kj1 _ _ l0 t420 t421 _ ?side1 ?side2 A9.out).mono ?_); (case side1 => exact cb_ HR0 HB); (case side2 => exact HC0.out); rintro e w27 ⟨v422, rfl, ho0, hb⟩; refine ⟨_, rfl, ?_⟩; replace HO423 := ak (Kd.R_lower ho0 bsz_); replace HB := ak (bst_ hb); (try clear hb); (try clear ho0)) | ((with_reducible refine gate_callee (f := 19) rfl ?_); refine goesL_ (some 29) rfl rfl Try.func19 (by kernel_rfl) rfl #[.slice A0 l0.length c0] rfl mp_ ?_; (with_reducible refine (handshakerref09_Read.calls kj1 _ _ l0 t424 false _ ?side1 ?side2 A10.out).mono ?_); (case side1 => exact cb_ HR0 HB); (case side2 => exact HC0.out); rintro e w28 ⟨v426, rfl, ho0, hb⟩; refine ⟨_, rfl, ?_⟩; replace HO423 := rb_ HO423 hb; replace HO427 := ak (Kd.R_lower ho0 bsz_); replace HB := ak (bst_ hb); (try clear hb); (try clear ho0); obtain ⟨Ao29, co29, eo29⟩ := Kd.R_slice HO423.out; subst eo29) | ((with_reducible refine gate_callee (f := 13) rfl ?_); refine goesL_ (some 33) rfl rfl Try.func13 (by kernel_rfl) rfl #[.slice Ao29 t420.length co29] rfl mp_ ?_; (with_reducible refine (handshakerlaw09_Refs.calls kj1 _ _ t420 t428 _ ?side1 ?side2 A11.out).mono ?_); (case side1 => exact rc_ HO423); (case side2 => exact (Kd.R_reads' HO423.out).2.1); rintro e w30 ⟨v429, rfl, ho0, hb⟩; refine ⟨_, rfl, ?_⟩; replace HO423 := rb_ HO423 hb; replace HO430 := ak (Kd.R_lower (Kd.R_new' ho0 (Kd.R_lt (rq_ HO427))) bsz_); replace HO427 := ak (Kd.R_elder' (rq_ HO427) (Kd.R_base ho0) hb); replace HB := ak (bst_ hb); (try clear hb); (try clear ho0); obtain ⟨Ao31, co31, eo31⟩ := Kd.R_slice HO430.out; subst eo31; obtain ⟨Ao32, co32, eo32⟩ := Kd.R_slice HO427.out; subst eo32) | ((with_reducible refine gate_callee (f := 20) rfl ?_); refine goesL_ (some 35) rfl rfl Try.func20 (by kernel_rfl) rfl #[.slice Ao31 t428.length co31, .slice Ao32 t424.length co32] rfl mp_ ?_; (with_reducible refine (handshakerref09_Same.calls kj1 _ _ t428 _ _ t424 true _ ?side1 ?side2 ?side3 ?side4 A12.out).mono ?_); (case side1 => exact rc_ HO430); (case side2 => exact (Kd.R_reads' HO430.out).2.1); (case side3 => exact rc_ HO427); (case side4 => exact (Kd.R_reads' HO427.out).2.1); rintro e w' ⟨rfl, ⟨nd, rfl⟩⟩; refine ⟨_, rfl, ?_⟩) | (go_at_call 10; (with_reducible refine (handshakerlaw09_awake.calls kj1  t433 _ A26.out).mono ?_); rintro e w33 ⟨rfl, hb⟩; replace HO423 := rb_ HO423 hb; replace HO427 := rb_ HO427 hb; replace HO430 := rb_ HO430 hb; replace HB := ak (bst_ hb); (try clear hb)))
   go_ret
   exact ⟨by first | rfl | (simp [errW_none, errW_some] <;> rfl) | (simp [*, errW_none, errW_some] <;> rfl), bsv_⟩

/-- THE ONE PURE STATEMENT of handshakerlaw09_ShapeReads. -/
def handshakerlaw09_ShapeReads.Pure : Prop := ∀ (l0 : List Int), l0.length ≤ maxLen → l0.length * 1 ≤ 140737488351232 → (∀ y ∈ l0, (Lit.int .u8 y).wf = true) → ∃ k, handshakerlaw09_ShapeReads.f k l0 = some true

end Go.Proofs.Ytpeblomhhofhkaa.H
