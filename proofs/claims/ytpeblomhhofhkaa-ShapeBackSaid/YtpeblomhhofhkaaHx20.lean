-- PRINTED by print.py (a twelfth state) out of the translation. Not trusted: Lean checks it.
import Derived.Test.YtpeblomhhofhkaaHShI
import Derived.Test.YtpeblomhhofhkaaHx0
import Derived.Test.YtpeblomhhofhkaaHx8
import Derived.Test.YtpeblomhhofhkaaHx10
import Derived.Test.YtpeblomhhofhkaaHx15
import Derived.Test.YtpeblomhhofhkaaHx18
namespace Go.Proofs.Ytpeblomhhofhkaa.H
open Go.Proofs.Ytpeblomhhofhkaa.Ho
open Go.RowKit Go.Proofs.YtpeblomhhofhkaaW.PrintWords Go.Proofs.YtpeblomhhofhkaaW.PrintLast Go.Proofs.YtpeblomhhofhkaaW.PrintMore
attribute [local go_sem] max2_int min2_int max_two min_two max_three min_three max_four min_four   -- for this text's walks alone
set_option linter.unusedVariables false
set_option linter.unusedSimpArgs false

/-! ### handshakerlaw09_ShapeBack: function 5 -/
def handshakerlaw09_ShapeBack.j0 : Nat → List (List (S53)) → Int → List Int → Bool → Option (Bool)
 | 0, _, _, _, _ => none
 | k + 1, x0, x1, x2, x22 => if x22 = true then ((handshakerlaw09_awake.f k).bind fun t435 => (some t435)) else ((shape_Write.f k x0).bind fun bt436 => (if bt436.2 = 0 then (if (bt436.1.length : Int) = 0 then (some false) else ((shape_Read.f k bt436.1).bind fun bt441 => (if 0 ≤ (Int.tmod (wrap64 (x1)) (bt436.1.length : Int)) then (if (Int.tmod (wrap64 (x1)) (bt436.1.length : Int)) ≤ (bt436.1.length : Int) then ((shape_Read.f k (bt436.1.take ((Int.tmod (wrap64 (x1)) (bt436.1.length : Int)) : Int).toNat)).bind fun bt449 => ((some (([] : List Int) : List Int)).bind fun y453 => (if y453.length + bt436.1.length < 140737488355328 then ((some (y453 ++ bt436.1 : List Int)).bind fun y456 => (if y456.length + x2.length < 140737488355328 then ((shape_Read.f k (y456 ++ x2)).bind fun bt462 => (if bt441.2 = 0 then ((handshakerlaw09_Refs.f k bt441.1).bind fun t466 => ((handshakerlaw09_Refs.f k x0).bind fun t469 => ((handshakerref09_Same.f k t466 t469).bind fun t472 => (if t472 = true then (if bt449.2 = 2 then (if bt462.2 = 0 then (if (x2.length : Int) = 0 then ((handshakerlaw09_awake.f k).bind fun t473 => (some t473)) else (some false)) else (if (x2.length : Int) = 0 then (some false) else ((handshakerlaw09_awake.f k).bind fun t474 => (some t474)))) else (some false)) else (some false))))) else (some false))) else (none))) else (none)))) else (none)) else (none)))) else (if (bt436.1.length : Int) = 0 then ((handshakerlaw09_awake.f k).bind fun t440 => (some t440)) else (some false))))
def handshakerlaw09_ShapeBack.f (k : Nat) (l0 : List (List (S53))) (a1 : Int) (l2 : List Int) : Option (Bool) := (handshakerlaw09_small.f k l0).bind fun t434 => (if t434 = true then (handshakerlaw09_ShapeBack.j0 k l0 a1 l2 (decide ((l2.length : Int) > 20))) else (handshakerlaw09_ShapeBack.j0 k l0 a1 l2 true))
theorem handshakerlaw09_ShapeBack.mono_l : ∀ k, (∀ y0 y1 y2 y3, LeO (handshakerlaw09_ShapeBack.j0 k y0 y1 y2 y3) (handshakerlaw09_ShapeBack.j0 (k + 1) y0 y1 y2 y3))
 | 0 => fun _ _ _ _ r h => by simp [handshakerlaw09_ShapeBack.j0] at h
 | k + 1 => by
  have ih0 := handshakerlaw09_ShapeBack.mono_l k
  · intro y0 y1 y2 y3
    unfold handshakerlaw09_ShapeBack.j0
    repeat' first
    | (with_reducible exact ih0 _ _ _ _)
    | (with_reducible exact handshakerlaw09_Refs.mono _ _)
    | (with_reducible exact handshakerlaw09_awake.mono _)
    | (with_reducible exact handshakerlaw09_small.mono _ _)
    | (with_reducible exact handshakerref09_Same.mono _ _ _)
    | (with_reducible exact shape_Read.mono _ _)
    | (with_reducible exact shape_Write.mono _ _)
    | (with_reducible exact LeO.refl _)
    | (with_reducible exact LeO.none _)
    | (with_reducible refine LeO.ite ?_ ?_)
    | (with_reducible refine LeO.bind ?_ (fun _ => ?_))
    | exact ih0 _ _ _ _
    | exact handshakerlaw09_Refs.mono _ _
    | exact handshakerlaw09_awake.mono _
    | exact handshakerlaw09_small.mono _ _
    | exact handshakerref09_Same.mono _ _ _
    | exact shape_Read.mono _ _
    | exact shape_Write.mono _ _
    | exact LeO.none _
    | refine LeO.ite ?_ ?_
    | refine LeO.bind ?_ (fun _ => ?_)
theorem handshakerlaw09_ShapeBack.mono : ∀ a0 a1 a2 k, LeO (handshakerlaw09_ShapeBack.f k a0 a1 a2) (handshakerlaw09_ShapeBack.f (k + 1) a0 a1 a2) := by
 intro a0 a1 a2 k
 have ih0 := handshakerlaw09_ShapeBack.mono_l k
 unfold handshakerlaw09_ShapeBack.f
 repeat' first
  | (with_reducible exact ih0 _ _ _ _)
  | (with_reducible exact handshakerlaw09_Refs.mono _ _)
  | (with_reducible exact handshakerlaw09_awake.mono _)
  | (with_reducible exact handshakerlaw09_small.mono _ _)
  | (with_reducible exact handshakerref09_Same.mono _ _ _)
  | (with_reducible exact shape_Read.mono _ _)
  | (with_reducible exact shape_Write.mono _ _)
  | (with_reducible exact LeO.refl _)
  | (with_reducible exact LeO.none _)
  | (with_reducible refine LeO.ite ?_ ?_)
  | (with_reducible refine LeO.bind ?_ (fun _ => ?_))
  | exact ih0 _ _ _ _
  | exact handshakerlaw09_Refs.mono _ _
  | exact handshakerlaw09_awake.mono _
  | exact handshakerlaw09_small.mono _ _
  | exact handshakerref09_Same.mono _ _ _
  | exact shape_Read.mono _ _
  | exact shape_Write.mono _ _
  | exact LeO.none _
  | refine LeO.ite ?_ ?_
  | refine LeO.bind ?_ (fun _ => ?_)
set_option maxHeartbeats 8000000 in
set_option maxRecDepth 100000 in
theorem handshakerlaw09_ShapeBack.calls (k : Nat) (A0 : Option Addr) (c0 : Nat) (l0 : List (List (S53))) (a1 : Int) (A2 : Option Addr) (c2 : Nat) (l2 : List Int) (r : Bool) (w : World) (HT : Aside0 (r = true)) (hr0 : Kd.C (Kd.slice 53 k53) w A0 l0.length l0) (hc0 : l0.length ≤ c0) (hr2 : Kd.C (Kd.int .u8) w A2 l2.length l2) (hc2 : l2.length ≤ c2) (h : handshakerlaw09_ShapeBack.f k l0 a1 l2 = some r) :
 Calls Try.prog 5 #[.slice A0 l0.length c0, .int .u16 a1, .slice A2 l2.length c2] w fun e w' => e = .returned (.bool r) ∧ Below w.heap.size w w' := by
 have HR0 := ak hr0
 have HC0 := ak hc0
 clear hr0 hc0
 have HR2 := ak hr2
 have HC2 := ak hc2
 clear hr2 hc2
 have HB := ak (Below.refl w.heap.size w)
 have H : ((handshakerlaw09_small.f k l0).bind fun t434 => (if t434 = true then (handshakerlaw09_ShapeBack.j0 k l0 a1 l2 (decide ((l2.length : Int) > 20))) else (handshakerlaw09_ShapeBack.j0 k l0 a1 l2 true))) = some r := h
 clear h
 have HC4 := ak H
 clear H
 go_enter Try.func5, Try.ntmps5
 go_upto_region 1 with (fail)
 go_cut [22] (fun v22 wc => ∃ (kq : Nat) (x22_3 : Bool), v22 = .bool x22_3 ∧ Aside0 (handshakerlaw09_ShapeBack.j0 kq l0 a1 l2 x22_3 = some r) ∧ Aside0 (kq ≤ k) ∧ Aside0 (Below w.heap.size w wc))
 case first =>
  have H := HC4.out
  clear HC4
  obtain ⟨t434, A5, H⟩ := bd_ H
  by_cases c6 : t434 = true
  · subst c6
    rw [if_pos rfl] at H
    have H' := ak H
    clear H
    go_wp2_with (first | ((with_reducible refine gate_callee (f := 9) rfl ?_); refine goesL_ (some 16) rfl rfl Try.func9 (by kernel_rfl) rfl #[.slice A0 l0.length c0] rfl mp_ ?_; (with_reducible refine (handshakerlaw09_small.calls k _ _ l0 true _ ?side1 ?side2 A5.out).mono ?_); (case side1 => exact cb_ HR0 HB); (case side2 => exact HC0.out); rintro e w7 ⟨rfl, hb⟩; refine ⟨_, rfl, ?_⟩; replace HB := ak (bst_ hb); (try clear hb)))
    go_meet
    case rel => exact ⟨_, (decide ((l2.length : Int) > 20)), (by first | rfl | (simp; done) | (simp [*]; done)), H', ⟨by first | omega | exact Nat.le_refl _⟩, ⟨bsv_⟩⟩
  replace c6 := Bool.eq_false_iff.mpr c6
  subst c6
  rw [if_neg (show ¬ (false = true) by decide)] at H
  have H' := ak H
  clear H
  go_wp2_with (first | ((with_reducible refine gate_callee (f := 9) rfl ?_); refine goesL_ (some 16) rfl rfl Try.func9 (by kernel_rfl) rfl #[.slice A0 l0.length c0] rfl mp_ ?_; (with_reducible refine (handshakerlaw09_small.calls k _ _ l0 false _ ?side1 ?side2 A5.out).mono ?_); (case side1 => exact cb_ HR0 HB); (case side2 => exact HC0.out); rintro e w8 ⟨rfl, hb⟩; refine ⟨_, rfl, ?_⟩; replace HB := ak (bst_ hb); (try clear hb)))
  go_meet
  case rel => exact ⟨_, (true), (by first | rfl | (simp; done) | (simp [*]; done)), H', ⟨by first | omega | exact Nat.le_refl _⟩, ⟨bsv_⟩⟩
 case rest =>
  clear HC4
  try clear c2
  try clear p2
  try clear c5
  try clear c6
  obtain ⟨kq, x22_3, rfl, HA, HJ3, HB⟩ := hcut
  cases kq with
  | zero => exact absurd HA.out (by simp [handshakerlaw09_ShapeBack.j0])
  | succ kj3 =>
   have H := HA.out
   clear HA
   simp only [handshakerlaw09_ShapeBack.j0] at H
   by_cases c9 : x22_3 = true
   · subst c9
     rw [if_pos rfl] at H
     obtain ⟨t435, A10, H⟩ := bd_ H
     obtain rfl := Option.some.inj H
     go_wp2_with (first | ((with_reducible refine gate_callee (f := 10) rfl ?_); refine goesL_ (some 23) rfl rfl Try.func10 (by kernel_rfl) rfl #[] rfl mp_ ?_; (with_reducible refine (handshakerlaw09_awake.calls kj3  t435 _ A10.out).mono ?_); rintro e w11 ⟨rfl, hb⟩; refine ⟨_, rfl, ?_⟩; replace HB := ak (bst_ hb); (try clear hb)))
     go_ret
     exact ⟨by first | rfl | (simp [errW_none, errW_some] <;> rfl) | (simp [*, errW_none, errW_some] <;> rfl), bsv_⟩
   replace c9 := Bool.eq_false_iff.mpr c9
   subst c9
   rw [if_neg (show ¬ (false = true) by decide)] at H
   replace H := Option.bind_eq_some_iff.mp H
   obtain ⟨⟨t436, t437⟩, A120, H⟩ := H
   have A12 := ak A120
   clear A120
   by_cases c13 : t437 = 0
   rotate_left
   · rw [if_neg c13] at H
     have c13b0 : (t437 == 0) = false := beq_eq_false_iff_ne.mpr c13
     have c13b1 : (t437 != 0) = true := bne_iff_ne.mpr c13
     by_cases c68 : (t436.length : Int) = 0
     rotate_left
     · rw [if_neg c68] at H
       have c68b0 : ((t436.length : Int) == 0) = false := beq_eq_false_iff_ne.mpr c68
       have c68b1 : ((t436.length : Int) != 0) = true := bne_iff_ne.mpr c68
       have c68b2 : ¬ (t436 = []) := fun h_ => c68 (by rw [h_]; rfl)
       exact absurd (Option.some.inj H) (by rw [HT.out]; decide)
     rw [if_pos c68] at H
     have c68b0 : ((t436.length : Int) == 0) = true := beq_iff_eq.mpr c68
     have c68b1 : ((t436.length : Int) != 0) = false := bne_eq_false_iff_eq.mpr c68
     clear c68
     obtain ⟨t440, A69, H⟩ := bd_ H
     obtain rfl := Option.some.inj H
     go_wp2_with (first | ((with_reducible refine gate_callee (f := 11) rfl ?_); refine goesL_ (some 26) rfl rfl Try.func11 (by kernel_rfl) rfl #[.slice A0 l0.length c0] rfl mp_ ?_; (with_reducible refine (shape_Write.calls kj3 _ _ l0 t436 t437 _ ?side1 ?side2 A12.out).mono ?_); (case side1 => exact cb_ HR0 HB); (case side2 => exact HC0.out); rintro e w70 ⟨v438, rfl, ho0, hb⟩; refine ⟨_, rfl, ?_⟩; replace HO439 := ak (Kd.R_lower ho0 bsz_); replace HB := ak (bst_ hb); (try clear hb); (try clear ho0); obtain ⟨Ao71, co71, eo71⟩ := Kd.R_slice HO439.out; subst eo71) | (go_at_call 10; (with_reducible refine (handshakerlaw09_awake.calls kj3  t440 _ A69.out).mono ?_); rintro e w72 ⟨rfl, hb⟩; replace HO439 := rb_ HO439 hb; replace HB := ak (bst_ hb); (try clear hb)))
     go_ret
     exact ⟨by first | rfl | (simp [errW_none, errW_some] <;> rfl) | (simp [*, errW_none, errW_some] <;> rfl), bsv_⟩
   rw [if_pos c13] at H
   have c13b0 : (t437 == 0) = true := beq_iff_eq.mpr c13
   have c13b1 : (t437 != 0) = false := bne_eq_false_iff_eq.mpr c13
   clear c13
   by_cases c14 : (t436.length : Int) = 0
   · rw [if_pos c14] at H
     have c14b0 : ((t436.length : Int) == 0) = true := beq_iff_eq.mpr c14
     have c14b1 : ((t436.length : Int) != 0) = false := bne_eq_false_iff_eq.mpr c14
     clear c14
     exact absurd (Option.some.inj H) (by rw [HT.out]; decide)
   rw [if_neg c14] at H
   have c14b0 : ((t436.length : Int) == 0) = false := beq_eq_false_iff_ne.mpr c14
   have c14b1 : ((t436.length : Int) != 0) = true := bne_iff_ne.mpr c14
   have c14b2 : ¬ (t436 = []) := fun h_ => c14 (by rw [h_]; rfl)
   replace H := Option.bind_eq_some_iff.mp H
   obtain ⟨⟨t441, t442⟩, A150, H⟩ := H
   have A15 := ak A150
   clear A150
   obtain ⟨ji16, hji16⟩ : ∃ j_ : Int, (Int.tmod (wrap64 (a1)) (t436.length : Int)) = j_ := ⟨_, rfl⟩
   replace H : (if 0 ≤ (ji16) then (if (ji16) ≤ (t436.length : Int) then ((shape_Read.f kj3 (t436.take ((ji16) : Int).toNat)).bind fun bt449 => ((some (([] : List Int) : List Int)).bind fun y453 => (if y453.length + t436.length < 140737488355328 then ((some (y453 ++ t436 : List Int)).bind fun y456 => (if y456.length + l2.length < 140737488355328 then ((shape_Read.f kj3 (y456 ++ l2)).bind fun bt462 => (if t442 = 0 then ((handshakerlaw09_Refs.f kj3 t441).bind fun t466 => ((handshakerlaw09_Refs.f kj3 l0).bind fun t469 => ((handshakerref09_Same.f kj3 t466 t469).bind fun t472 => (if t472 = true then (if bt449.2 = 2 then (if bt462.2 = 0 then (if (l2.length : Int) = 0 then ((handshakerlaw09_awake.f kj3).bind fun t473 => (some t473)) else (some false)) else (if (l2.length : Int) = 0 then (some false) else ((handshakerlaw09_awake.f kj3).bind fun t474 => (some t474)))) else (some false)) else (some false))))) else (some false))) else (none))) else (none)))) else (none)) else (none)) = some r := by first | (rw [hji16] at H; exact H) | (simp only [hji16] at H ⊢; exact H)
   (try rw [hji16] at A12)
   (try rw [hji16] at A15)
   by_cases c17 : 0 ≤ (ji16)
   rotate_left
   · rw [if_neg c17] at H
     exact absurd H (by simp)
   rw [if_pos c17] at H
   have c17b0 := eq_true c17
   have c17b1 : decide (0 ≤ (ji16)) = true := decide_eq_true c17
   clear c17
   by_cases c18 : (ji16) ≤ (t436.length : Int)
   rotate_left
   · rw [if_neg c18] at H
     exact absurd H (by simp)
   rw [if_pos c18] at H
   have c18b0 := eq_true c18
   have c18b1 : decide ((ji16) ≤ (t436.length : Int)) = true := decide_eq_true c18
   clear c18
   obtain ⟨y445, hy445⟩ : ∃ y_ : List Int, y_ = (t436.take ((ji16) : Int).toNat) := ⟨_, rfl⟩
   replace H : ((shape_Read.f kj3 y445).bind fun bt449 => ((some (([] : List Int) : List Int)).bind fun y453 => (if y453.length + t436.length < 140737488355328 then ((some (y453 ++ t436 : List Int)).bind fun y456 => (if y456.length + l2.length < 140737488355328 then ((shape_Read.f kj3 (y456 ++ l2)).bind fun bt462 => (if t442 = 0 then ((handshakerlaw09_Refs.f kj3 t441).bind fun t466 => ((handshakerlaw09_Refs.f kj3 l0).bind fun t469 => ((handshakerref09_Same.f kj3 t466 t469).bind fun t472 => (if t472 = true then (if bt449.2 = 2 then (if bt462.2 = 0 then (if (l2.length : Int) = 0 then ((handshakerlaw09_awake.f kj3).bind fun t473 => (some t473)) else (some false)) else (if (l2.length : Int) = 0 then (some false) else ((handshakerlaw09_awake.f kj3).bind fun t474 => (some t474)))) else (some false)) else (some false))))) else (some false))) else (none))) else (none)))) = some r := rh_ hy445 H
   have Ny445 := ak hy445
   clear hy445
   replace H := Option.bind_eq_some_iff.mp H
   obtain ⟨⟨t449, t450⟩, A190, H⟩ := H
   have A19 := ak A190
   clear A190
   obtain ⟨y453, hy453⟩ : ∃ y_ : List Int, y_ = (([] : List Int)) := ⟨_, rfl⟩
   replace H : (if y453.length + t436.length < 140737488355328 then ((some (y453 ++ t436 : List Int)).bind fun y456 => (if y456.length + l2.length < 140737488355328 then ((shape_Read.f kj3 (y456 ++ l2)).bind fun bt462 => (if t442 = 0 then ((handshakerlaw09_Refs.f kj3 t441).bind fun t466 => ((handshakerlaw09_Refs.f kj3 l0).bind fun t469 => ((handshakerref09_Same.f kj3 t466 t469).bind fun t472 => (if t472 = true then (if t450 = 2 then (if bt462.2 = 0 then (if (l2.length : Int) = 0 then ((handshakerlaw09_awake.f kj3).bind fun t473 => (some t473)) else (some false)) else (if (l2.length : Int) = 0 then (some false) else ((handshakerlaw09_awake.f kj3).bind fun t474 => (some t474)))) else (some false)) else (some false))))) else (some false))) else (none))) else (none)) = some r := rh_ hy453 H
   have Ny453 := ak hy453
   clear hy453
   by_cases c20 : y453.length + t436.length < 140737488355328
   rotate_left
   · rw [if_neg c20] at H
     exact absurd H (by simp)
   rw [if_pos c20] at H
   have LMc20 := ak c20
   clear c20
   obtain ⟨y456, hy456⟩ : ∃ y_ : List Int, y_ = (y453 ++ t436) := ⟨_, rfl⟩
   replace H : (if y456.length + l2.length < 140737488355328 then ((shape_Read.f kj3 (y456 ++ l2)).bind fun bt462 => (if t442 = 0 then ((handshakerlaw09_Refs.f kj3 t441).bind fun t466 => ((handshakerlaw09_Refs.f kj3 l0).bind fun t469 => ((handshakerref09_Same.f kj3 t466 t469).bind fun t472 => (if t472 = true then (if t450 = 2 then (if bt462.2 = 0 then (if (l2.length : Int) = 0 then ((handshakerlaw09_awake.f kj3).bind fun t473 => (some t473)) else (some false)) else (if (l2.length : Int) = 0 then (some false) else ((handshakerlaw09_awake.f kj3).bind fun t474 => (some t474)))) else (some false)) else (some false))))) else (some false))) else (none)) = some r := rh_ hy456 H
   have Ny456 := ak hy456
   clear hy456
   by_cases c21 : y456.length + l2.length < 140737488355328
   rotate_left
   · rw [if_neg c21] at H
     exact absurd H (by simp)
   rw [if_pos c21] at H
   have LMc21 := ak c21
   clear c21
   obtain ⟨y459, hy459⟩ : ∃ y_ : List Int, y_ = (y456 ++ l2) := ⟨_, rfl⟩
   replace H : ((shape_Read.f kj3 y459).bind fun bt462 => (if t442 = 0 then ((handshakerlaw09_Refs.f kj3 t441).bind fun t466 => ((handshakerlaw09_Refs.f kj3 l0).bind fun t469 => ((handshakerref09_Same.f kj3 t466 t469).bind fun t472 => (if t472 = true then (if t450 = 2 then (if bt462.2 = 0 then (if (l2.length : Int) = 0 then ((handshakerlaw09_awake.f kj3).bind fun t473 => (some t473)) else (some false)) else (if (l2.length : Int) = 0 then (some false) else ((handshakerlaw09_awake.f kj3).bind fun t474 => (some t474)))) else (some false)) else (some false))))) else (some false))) = some r := rh_ hy459 H
   have Ny459 := ak hy459
   clear hy459
   replace H := Option.bind_eq_some_iff.mp H
   obtain ⟨⟨t462, t463⟩, A220, H⟩ := H
   have A22 := ak A220
   clear A220
   by_cases c23 : t442 = 0
   rotate_left
   · rw [if_neg c23] at H
     have c23b0 : (t442 == 0) = false := beq_eq_false_iff_ne.mpr c23
     have c23b1 : (t442 != 0) = true := bne_iff_ne.mpr c23
     exact absurd (Option.some.inj H) (by rw [HT.out]; decide)
   rw [if_pos c23] at H
   have c23b0 : (t442 == 0) = true := beq_iff_eq.mpr c23
   have c23b1 : (t442 != 0) = false := bne_eq_false_iff_eq.mpr c23
   clear c23
   obtain ⟨t466, A24, H⟩ := bd_ H
   obtain ⟨t469, A25, H⟩ := bd_ H
   obtain ⟨t472, A26, H⟩ := bd_ H
   by_cases c27 : t472 = true
   rotate_left
   · replace c27 := Bool.eq_false_iff.mpr c27
     subst c27
     rw [if_neg (show ¬ (false = true) by decide)] at H
     exact absurd (Option.some.inj H) (by rw [HT.out]; decide)
   subst c27
   rw [if_pos rfl] at H
   by_cases c28 : t450 = 2
   rotate_left
   · rw [if_neg c28] at H
     have c28b0 : (t450 == 2) = false := beq_eq_false_iff_ne.mpr c28
     have c28b1 : (t450 != 2) = true := bne_iff_ne.mpr c28
     exact absurd (Option.some.inj H) (by rw [HT.out]; decide)
   rw [if_pos c28] at H
   have c28b0 : (t450 == 2) = true := beq_iff_eq.mpr c28
   have c28b1 : (t450 != 2) = false := bne_eq_false_iff_eq.mpr c28
   clear c28
   by_cases c29 : t463 = 0
   rotate_left
   · rw [if_neg c29] at H
     have c29b0 : (t463 == 0) = false := beq_eq_false_iff_ne.mpr c29
     have c29b1 : (t463 != 0) = true := bne_iff_ne.mpr c29
     by_cases c49 : (l2.length : Int) = 0
     · rw [if_pos c49] at H
       have c49b0 : ((l2.length : Int) == 0) = true := beq_iff_eq.mpr c49
       have c49b1 : ((l2.length : Int) != 0) = false := bne_eq_false_iff_eq.mpr c49
       clear c49
       exact absurd (Option.some.inj H) (by rw [HT.out]; decide)
     rw [if_neg c49] at H
     have c49b0 : ((l2.length : Int) == 0) = false := beq_eq_false_iff_ne.mpr c49
     have c49b1 : ((l2.length : Int) != 0) = true := bne_iff_ne.mpr c49
     have c49b2 : ¬ (l2 = []) := fun h_ => c49 (by rw [h_]; rfl)
     obtain ⟨t474, A50, H⟩ := bd_ H
     obtain rfl := Option.some.inj H
     go_wp2_with (first | ((with_reducible refine gate_callee (f := 11) rfl ?_); refine goesL_ (some 26) rfl rfl Try.func11 (by kernel_rfl) rfl #[.slice A0 l0.length c0] rfl mp_ ?_; (with_reducible refine (shape_Write.calls kj3 _ _ l0 t436 t437 _ ?side1 ?side2 A12.out).mono ?_); (case side1 => exact cb_ HR0 HB); (case side2 => exact HC0.out); rintro e w51 ⟨v438, rfl, ho0, hb⟩; refine ⟨_, rfl, ?_⟩; replace HO439 := ak (Kd.R_lower ho0 bsz_); replace HB := ak (bst_ hb); (try clear hb); (try clear ho0); obtain ⟨Ao52, co52, eo52⟩ := Kd.R_slice HO439.out; subst eo52) | ((with_reducible refine gate_callee (f := 18) rfl ?_); refine goesL_ (some 42) rfl rfl Try.func18 (by kernel_rfl) rfl #[.slice Ao52 t436.length co52] rfl mp_ ?_; (with_reducible refine (shape_Read.calls kj3 _ _ t436 t441 t442 _ ?side1 ?side2 A15.out).mono ?_); (case side1 => exact rc_ HO439); (case side2 => exact (Kd.R_reads' HO439.out).2.1); rintro e w53 ⟨v443, rfl, ho0, hb⟩; refine ⟨_, rfl, ?_⟩; replace HO439 := rb_ HO439 hb; replace HO444 := ak (Kd.R_lower ho0 bsz_); replace HB := ak (bst_ hb); (try clear hb); (try clear ho0); have q54 : ((ji16) : Int) ≤ ((t436.length : Int) : Int) := oda_; obtain ⟨i054, hi054, _, hsz54, _⟩ := info_parts info5; have hroom54 : t436.length ≤ co52 := (Kd.R_reads' HO439.out).2.1; have hC54 : Kd.C (Kd.int .u8) _ Ao52 t436.length t436 := (Kd.R_reads' HO439.out).2.2; have hcut54 := cut_to (P := Try.prog) 25 5 .i64 Try.underlying25 hi054 Ao52 t436.length co52 (ji16) (oda_) q54 hroom54; have hr54 := Kd.C_take (m := ((ji16) : Int).toNat) hC54 (by omega); have hy54 : y445.length = ((ji16) : Int).toNat := (by rw [Ny445.out, List.length_take]; omega); rw [← Ny445.out] at hr54; rw [← hy54] at hcut54; have HR448 := ak hr54; have HC448 := ak (show y445.length ≤ co52 from by omega); clear hr54 hC54 hroom54 hi054 hsz54; have KY54 := ak hy54; clear hy54; have KL54 := ak (show ((ji16) : Int).toNat ≤ t436.length from by omega); replace q54 := eq_true q54) | ((with_reducible refine gate_callee (f := 18) rfl ?_); refine goesL_ (some 53) rfl rfl Try.func18 (by kernel_rfl) rfl #[.slice Ao52 y445.length co52] rfl mp_ ?_; (with_reducible refine (shape_Read.calls kj3 _ _ y445 t449 t450 _ ?side1 ?side2 A19.out).mono ?_); (case side1 => repeat (first | exact (by repeat (first | (with_reducible exact HR448.out) | (with_reducible refine Kd.C_alloc ?_ _) | (with_reducible refine Kd.C_drewN ?_ _) | (with_reducible refine Kd.C_drew ?_) | exact HR448.out)) | with_reducible first | refine Kd.C_alloc ?_ _ | refine Kd.C_drewN ?_ _ | refine Kd.C_drew ?_)); (case side2 => exact HC448.out); rintro e w55 ⟨v451, rfl, ho0, hb⟩; refine ⟨_, rfl, ?_⟩; replace HO439 := rb_ HO439 hb; replace HO452 := ak (Kd.R_lower (Kd.R_new' ho0 (Kd.R_lt (rq_ HO444))) bsz_); replace HO444 := ak (Kd.R_elder' (rq_ HO444) (Kd.R_base ho0) hb); replace HR448 := ak (Kd.C_below (by repeat (first | (with_reducible exact HR448.out) | (with_reducible refine Kd.C_alloc ?_ _) | (with_reducible refine Kd.C_drewN ?_ _) | (with_reducible refine Kd.C_drew ?_) | exact HR448.out)) hb); replace HB := ak (bst_ hb); (try clear hb); (try clear ho0)) | ((with_reducible refine gate_dst (N := 57) rfl ?_); (try (refine gate_guard (by rfl) ?_; dsimp only)); refine Kd.R_lit (Kd.int .u8) _ 5 ?hg (N := 57) ?hd (xs := ([] : List Int)) (inner := []) (ok := fun _ => True) (okp := fun _ => True) ?hr ?hp (fun _ hk => hk) trivial (Below.refl _ _) (Nat.le_refl _) (by simp) ?_; (case hd => rfl); (case hg => rfl); (case hr => first | (go_simp; done) | (go_simp; rfl)); (case hp => exact (Reps.none _ _)); intro v454 w56 ho57 hb hg_ hnew_; clear hg_ hnew_; (first | rw [← Ny453.out] at ho57 | (simp only [Int.reduceToNat] at ho57; rw [← Ny453.out] at ho57)); replace HO444 := rb_ HO444 hb; replace HO452 := rb_ HO452 hb; replace HO455 := ak (Kd.R_lower (Kd.R_new' ho57 (Kd.R_lt (rq_ HO439))) bsz_); replace HO439 := ak (Kd.R_elder' (rq_ HO439) (Kd.R_base ho57) hb); replace HR448 := ak (Kd.C_below (by repeat (first | (with_reducible exact HR448.out) | (with_reducible refine Kd.C_alloc ?_ _) | (with_reducible refine Kd.C_drewN ?_ _) | (with_reducible refine Kd.C_drew ?_) | exact HR448.out)) hb); replace HB := ak (bst_ hb); clear hb ho57) | ((with_reducible refine gate_builtin (b := .append) (xs := #[.tmp 57, .tmp 58]) rfl ?_); (try (refine gate_guard (by rfl) ?_; dsimp only)); at_builtin; refine Kd.R_append_rows (Kd.int .u8) (w0 := w) w.heap.size rfl (.tmp 57) (.tmp 58) 25 5 (.int .u8 0) 1 rfl Try.underlying25 info5 rfl (by decide) (by omega) v454 y453 t436 _ _ _ (fun k_ => some k_ ≠ (.slice Ao52 t436.length co52 : Value).ownBlock) (fun _ => False) rfl rfl ?aO ?aR (fun _ _ h => h) (fun _ h => h.elim) ?aF ?aB ?aS ?aL ?_; (case aR => repeat (first | exact (Kd.R_reads' HO439.out).2.2 | with_reducible first | refine Kd.C_alloc ?_ _ | refine Kd.C_drewN ?_ _ | refine Kd.C_drew ?_)); (case aB => exact bsv_); (case aF => exact (fun k_ hk => Kd.fresh' (Kd.R_lt (rq_ HO439)) k_ hk)); (case aO => exact (Kd.R_mono (rq_ HO455) (fun _ hk => hk.2))); (case aS => exact bsz_); (case aL => have := LMc20.out; omega); intro v457 w58 ho hb hg hat; rw [← Ny456.out] at ho; replace HO444 := ak (Kd.R_over' (rq_ HO444) (Kd.R_typed (rq_ HO455)) (by decide) hg); replace HO452 := ak (Kd.R_over' (rq_ HO452) (Kd.R_typed (rq_ HO455)) (by decide) hg); replace HB := ak (hb); replace HR448 := ak ((show Kd.C (Kd.int .u8) w58 Ao52 y445.length y445 from by rw [Ny445.out]; exact Kd.C_take (m := ((ji16) : Int).toNat) ((Kd.R_reads' (Kd.R_after (ok := (fun _ => True)) (rq_ HO439) hg hat)).2.2) KL54.out)); replace HO439 := ak (Kd.R_after (ok := (fun _ => True)) (rq_ HO439) hg hat); replace HO458 := ak (ho); clear HO455; clear ho hb hg hat) | ((with_reducible refine gate_builtin (b := .append) (xs := #[.tmp 59, .tmp 60]) rfl ?_); (try (refine gate_guard (by rfl) ?_; dsimp only)); at_builtin; refine Kd.R_append_rows (Kd.int .u8) (w0 := w) w.heap.size rfl (.tmp 59) (.tmp 60) 25 5 (.int .u8 0) 1 rfl Try.underlying25 info5 rfl (by decide) (by omega) v457 y456 l2 _ _ _ (fun k_ => some k_ ≠ (.slice Ao52 t436.length co52 : Value).ownBlock) (fun _ => False) rfl rfl ?aO ?aR (fun _ _ h => h) (fun _ h => h.elim) ?aF ?aB ?aS ?aL ?_; (case aR => repeat (first | exact (Kd.C_below HR2.out HB.out) | with_reducible first | refine Kd.C_alloc ?_ _ | refine Kd.C_drewN ?_ _ | refine Kd.C_drew ?_)); (case aB => exact bsv_); (case aF => exact (fun k_ hk => Kd.fresh' (Kd.R_lt (rq_ HO439)) k_ hk)); (case aO => exact (rq_ HO458)); (case aS => exact bsz_); (case aL => have := LMc21.out; omega); intro v460 w59 ho hb hg hat; rw [← Ny459.out] at ho; replace HO444 := ak (Kd.R_over' (rq_ HO444) (Kd.R_typed (rq_ HO458)) (by decide) hg); replace HO452 := ak (Kd.R_over' (rq_ HO452) (Kd.R_typed (rq_ HO458)) (by decide) hg); replace HB := ak (hb); replace HR448 := ak ((show Kd.C (Kd.int .u8) w59 Ao52 y445.length y445 from by rw [Ny445.out]; exact Kd.C_take (m := ((ji16) : Int).toNat) ((Kd.R_reads' (Kd.R_after (ok := (fun _ => True)) (rq_ HO439) hg hat)).2.2) KL54.out)); replace HO439 := ak (Kd.R_after (ok := (fun _ => True)) (rq_ HO439) hg hat); replace HO461 := ak (ho); clear HO458; clear ho hb hg hat; obtain ⟨Ao60, co60, eo60⟩ := Kd.R_slice HO461.out; subst eo60) | ((with_reducible refine gate_callee (f := 18) rfl ?_); refine goesL_ (some 62) rfl rfl Try.func18 (by kernel_rfl) rfl #[.slice Ao60 y459.length co60] rfl mp_ ?_; (with_reducible refine (shape_Read.calls kj3 _ _ y459 t462 t463 _ ?side1 ?side2 A22.out).mono ?_); (case side1 => exact rc_ HO461); (case side2 => exact (Kd.R_reads' HO461.out).2.1); rintro e w61 ⟨v464, rfl, ho0, hb⟩; refine ⟨_, rfl, ?_⟩; replace HO439 := rb_ HO439 hb; replace HO461 := rb_ HO461 hb; replace HO465 := ak (Kd.R_lower (Kd.R_new' (Kd.R_new' ho0 (Kd.R_lt (rq_ HO444))) (Kd.R_lt (rq_ HO452))) bsz_); replace HO444 := ak (Kd.R_elder' (rq_ HO444) (Kd.R_base ho0) hb); replace HO452 := ak (Kd.R_elder' (rq_ HO452) (Kd.R_base ho0) hb); replace HR448 := ak (Kd.C_below (by repeat (first | (with_reducible exact HR448.out) | (with_reducible refine Kd.C_alloc ?_ _) | (with_reducible refine Kd.C_drewN ?_ _) | (with_reducible refine Kd.C_drew ?_) | exact HR448.out)) hb); replace HB := ak (bst_ hb); (try clear hb); (try clear ho0); obtain ⟨Ao62, co62, eo62⟩ := Kd.R_slice HO444.out; subst eo62) | (go_at_call 13; (with_reducible refine (handshakerlaw09_Refs.calls kj3 _ _ t441 t466 _ ?side1 ?side2 A24.out).mono ?_); (case side1 => exact rc_ HO444); (case side2 => exact (Kd.R_reads' HO444.out).2.1); rintro e w63 ⟨v467, rfl, ho0, hb⟩; replace HO439 := rb_ HO439 hb; replace HO444 := rb_ HO444 hb; replace HO452 := rb_ HO452 hb; replace HO461 := rb_ HO461 hb; replace HO465 := rb_ HO465 hb; replace HO468 := ak (Kd.R_lower ho0 bsz_); replace HR448 := ak (Kd.C_below (by repeat (first | (with_reducible exact HR448.out) | (with_reducible refine Kd.C_alloc ?_ _) | (with_reducible refine Kd.C_drewN ?_ _) | (with_reducible refine Kd.C_drew ?_) | exact HR448.out)) hb); replace HB := ak (bst_ hb); (try clear hb); (try clear ho0)) | (go_at_call 13; (with_reducible refine (handshakerlaw09_Refs.calls kj3 _ _ l0 t469 _ ?side1 ?side2 A25.out).mono ?_); (case side1 => exact cb_ HR0 HB); (case side2 => exact HC0.out); rintro e w64 ⟨v470, rfl, ho0, hb⟩; replace HO439 := rb_ HO439 hb; replace HO444 := rb_ HO444 hb; replace HO452 := rb_ HO452 hb; replace HO461 := rb_ HO461 hb; replace HO465 := rb_ HO465 hb; replace HO471 := ak (Kd.R_lower (Kd.R_new' ho0 (Kd.R_lt (rq_ HO468))) bsz_); replace HO468 := ak (Kd.R_elder' (rq_ HO468) (Kd.R_base ho0) hb); replace HR448 := ak (Kd.C_below (by repeat (first | (with_reducible exact HR448.out) | (with_reducible refine Kd.C_alloc ?_ _) | (with_reducible refine Kd.C_drewN ?_ _) | (with_reducible refine Kd.C_drew ?_) | exact HR448.out)) hb); replace HB := ak (bst_ hb); (try clear hb); (try clear ho0); obtain ⟨Ao65, co65, eo65⟩ := Kd.R_slice HO468.out; subst eo65; obtain ⟨Ao66, co66, eo66⟩ := Kd.R_slice HO471.out; subst eo66) | (go_at_call 20; (with_reducible refine (handshakerref09_Same.calls kj3 _ _ t466 _ _ t469 true _ ?side1 ?side2 ?side3 ?side4 A26.out).mono ?_); (case side1 => exact rc_ HO468); (case side2 => exact (Kd.R_reads' HO468.out).2.1); (case side3 => exact rc_ HO471); (case side4 => exact (Kd.R_reads' HO471.out).2.1); rintro e w' ⟨rfl, ⟨nd, rfl⟩⟩) | (go_at_call 10; (with_reducible refine (handshakerlaw09_awake.calls kj3  t474 _ A50.out).mono ?_); rintro e w67 ⟨rfl, hb⟩; replace HO439 := rb_ HO439 hb; replace HO444 := rb_ HO444 hb; replace HO452 := rb_ HO452 hb; replace HO461 := rb_ HO461 hb; replace HO465 := rb_ HO465 hb; replace HO468 := rb_ HO468 hb; replace HO471 := rb_ HO471 hb; replace HR448 := ak (Kd.C_below (by repeat (first | (with_reducible exact HR448.out) | (with_reducible refine Kd.C_alloc ?_ _) | (with_reducible refine Kd.C_drewN ?_ _) | (with_reducible refine Kd.C_drew ?_) | exact HR448.out)) hb); replace HB := ak (bst_ hb); (try clear hb)))
     go_ret
     exact ⟨by first | rfl | (simp [errW_none, errW_some] <;> rfl) | (simp only [← hji16]; first | rfl | (simp [errW_none, errW_some] <;> rfl)) | (simp [*, errW_none, errW_some] <;> rfl), bsv_⟩
   rw [if_pos c29] at H
   have c29b0 : (t463 == 0) = true := beq_iff_eq.mpr c29
   have c29b1 : (t463 != 0) = false := bne_eq_false_iff_eq.mpr c29
   clear c29
   by_cases c30 : (l2.length : Int) = 0
   rotate_left
   · rw [if_neg c30] at H
     have c30b0 : ((l2.length : Int) == 0) = false := beq_eq_false_iff_ne.mpr c30
     have c30b1 : ((l2.length : Int) != 0) = true := bne_iff_ne.mpr c30
     have c30b2 : ¬ (l2 = []) := fun h_ => c30 (by rw [h_]; rfl)
     exact absurd (Option.some.inj H) (by rw [HT.out]; decide)
   rw [if_pos c30] at H
   have c30b0 : ((l2.length : Int) == 0) = true := beq_iff_eq.mpr c30
   have c30b1 : ((l2.length : Int) != 0) = false := bne_eq_false_iff_eq.mpr c30
   clear c30
   obtain ⟨t473, A31, H⟩ := bd_ H
   obtain rfl := Option.some.inj H
   go_wp2_with (first | ((with_reducible refine gate_callee (f := 11) rfl ?_); refine goesL_ (some 26) rfl rfl Try.func11 (by kernel_rfl) rfl #[.slice A0 l0.length c0] rfl mp_ ?_; (with_reducible refine (shape_Write.calls kj3 _ _ l0 t436 t437 _ ?side1 ?side2 A12.out).mono ?_); (case side1 => exact cb_ HR0 HB); (case side2 => exact HC0.out); rintro e w32 ⟨v438, rfl, ho0, hb⟩; refine ⟨_, rfl, ?_⟩; replace HO439 := ak (Kd.R_lower ho0 bsz_); replace HB := ak (bst_ hb); (try clear hb); (try clear ho0); obtain ⟨Ao33, co33, eo33⟩ := Kd.R_slice HO439.out; subst eo33) | ((with_reducible refine gate_callee (f := 18) rfl ?_); refine goesL_ (some 42) rfl rfl Try.func18 (by kernel_rfl) rfl #[.slice Ao33 t436.length co33] rfl mp_ ?_; (with_reducible refine (shape_Read.calls kj3 _ _ t436 t441 t442 _ ?side1 ?side2 A15.out).mono ?_); (case side1 => exact rc_ HO439); (case side2 => exact (Kd.R_reads' HO439.out).2.1); rintro e w34 ⟨v443, rfl, ho0, hb⟩; refine ⟨_, rfl, ?_⟩; replace HO439 := rb_ HO439 hb; replace HO444 := ak (Kd.R_lower ho0 bsz_); replace HB := ak (bst_ hb); (try clear hb); (try clear ho0); have q35 : ((ji16) : Int) ≤ ((t436.length : Int) : Int) := oda_; obtain ⟨i035, hi035, _, hsz35, _⟩ := info_parts info5; have hroom35 : t436.length ≤ co33 := (Kd.R_reads' HO439.out).2.1; have hC35 : Kd.C (Kd.int .u8) _ Ao33 t436.length t436 := (Kd.R_reads' HO439.out).2.2; have hcut35 := cut_to (P := Try.prog) 25 5 .i64 Try.underlying25 hi035 Ao33 t436.length co33 (ji16) (oda_) q35 hroom35; have hr35 := Kd.C_take (m := ((ji16) : Int).toNat) hC35 (by omega); have hy35 : y445.length = ((ji16) : Int).toNat := (by rw [Ny445.out, List.length_take]; omega); rw [← Ny445.out] at hr35; rw [← hy35] at hcut35; have HR448 := ak hr35; have HC448 := ak (show y445.length ≤ co33 from by omega); clear hr35 hC35 hroom35 hi035 hsz35; have KY35 := ak hy35; clear hy35; have KL35 := ak (show ((ji16) : Int).toNat ≤ t436.length from by omega); replace q35 := eq_true q35) | ((with_reducible refine gate_callee (f := 18) rfl ?_); refine goesL_ (some 53) rfl rfl Try.func18 (by kernel_rfl) rfl #[.slice Ao33 y445.length co33] rfl mp_ ?_; (with_reducible refine (shape_Read.calls kj3 _ _ y445 t449 t450 _ ?side1 ?side2 A19.out).mono ?_); (case side1 => repeat (first | exact (by repeat (first | (with_reducible exact HR448.out) | (with_reducible refine Kd.C_alloc ?_ _) | (with_reducible refine Kd.C_drewN ?_ _) | (with_reducible refine Kd.C_drew ?_) | exact HR448.out)) | with_reducible first | refine Kd.C_alloc ?_ _ | refine Kd.C_drewN ?_ _ | refine Kd.C_drew ?_)); (case side2 => exact HC448.out); rintro e w36 ⟨v451, rfl, ho0, hb⟩; refine ⟨_, rfl, ?_⟩; replace HO439 := rb_ HO439 hb; replace HO452 := ak (Kd.R_lower (Kd.R_new' ho0 (Kd.R_lt (rq_ HO444))) bsz_); replace HO444 := ak (Kd.R_elder' (rq_ HO444) (Kd.R_base ho0) hb); replace HR448 := ak (Kd.C_below (by repeat (first | (with_reducible exact HR448.out) | (with_reducible refine Kd.C_alloc ?_ _) | (with_reducible refine Kd.C_drewN ?_ _) | (with_reducible refine Kd.C_drew ?_) | exact HR448.out)) hb); replace HB := ak (bst_ hb); (try clear hb); (try clear ho0)) | ((with_reducible refine gate_dst (N := 57) rfl ?_); (try (refine gate_guard (by rfl) ?_; dsimp only)); refine Kd.R_lit (Kd.int .u8) _ 5 ?hg (N := 57) ?hd (xs := ([] : List Int)) (inner := []) (ok := fun _ => True) (okp := fun _ => True) ?hr ?hp (fun _ hk => hk) trivial (Below.refl _ _) (Nat.le_refl _) (by simp) ?_; (case hd => rfl); (case hg => rfl); (case hr => first | (go_simp; done) | (go_simp; rfl)); (case hp => exact (Reps.none _ _)); intro v454 w37 ho38 hb hg_ hnew_; clear hg_ hnew_; (first | rw [← Ny453.out] at ho38 | (simp only [Int.reduceToNat] at ho38; rw [← Ny453.out] at ho38)); replace HO444 := rb_ HO444 hb; replace HO452 := rb_ HO452 hb; replace HO455 := ak (Kd.R_lower (Kd.R_new' ho38 (Kd.R_lt (rq_ HO439))) bsz_); replace HO439 := ak (Kd.R_elder' (rq_ HO439) (Kd.R_base ho38) hb); replace HR448 := ak (Kd.C_below (by repeat (first | (with_reducible exact HR448.out) | (with_reducible refine Kd.C_alloc ?_ _) | (with_reducible refine Kd.C_drewN ?_ _) | (with_reducible refine Kd.C_drew ?_) | exact HR448.out)) hb); replace HB := ak (bst_ hb); clear hb ho38) | ((with_reducible refine gate_builtin (b := .append) (xs := #[.tmp 57, .tmp 58]) rfl ?_); (try (refine gate_guard (by rfl) ?_; dsimp only)); at_builtin; refine Kd.R_append_rows (Kd.int .u8) (w0 := w) w.heap.size rfl (.tmp 57) (.tmp 58) 25 5 (.int .u8 0) 1 rfl Try.underlying25 info5 rfl (by decide) (by omega) v454 y453 t436 _ _ _ (fun k_ => some k_ ≠ (.slice Ao33 t436.length co33 : Value).ownBlock) (fun _ => False) rfl rfl ?aO ?aR (fun _ _ h => h) (fun _ h => h.elim) ?aF ?aB ?aS ?aL ?_; (case aR => repeat (first | exact (Kd.R_reads' HO439.out).2.2 | with_reducible first | refine Kd.C_alloc ?_ _ | refine Kd.C_drewN ?_ _ | refine Kd.C_drew ?_)); (case aB => exact bsv_); (case aF => exact (fun k_ hk => Kd.fresh' (Kd.R_lt (rq_ HO439)) k_ hk)); (case aO => exact (Kd.R_mono (rq_ HO455) (fun _ hk => hk.2))); (case aS => exact bsz_); (case aL => have := LMc20.out; omega); intro v457 w39 ho hb hg hat; rw [← Ny456.out] at ho; replace HO444 := ak (Kd.R_over' (rq_ HO444) (Kd.R_typed (rq_ HO455)) (by decide) hg); replace HO452 := ak (Kd.R_over' (rq_ HO452) (Kd.R_typed (rq_ HO455)) (by decide) hg); replace HB := ak (hb); replace HR448 := ak ((show Kd.C (Kd.int .u8) w39 Ao33 y445.length y445 from by rw [Ny445.out]; exact Kd.C_take (m := ((ji16) : Int).toNat) ((Kd.R_reads' (Kd.R_after (ok := (fun _ => True)) (rq_ HO439) hg hat)).2.2) KL35.out)); replace HO439 := ak (Kd.R_after (ok := (fun _ => True)) (rq_ HO439) hg hat); replace HO458 := ak (ho); clear HO455; clear ho hb hg hat) | ((with_reducible refine gate_builtin (b := .append) (xs := #[.tmp 59, .tmp 60]) rfl ?_); (try (refine gate_guard (by rfl) ?_; dsimp only)); at_builtin; refine Kd.R_append_rows (Kd.int .u8) (w0 := w) w.heap.size rfl (.tmp 59) (.tmp 60) 25 5 (.int .u8 0) 1 rfl Try.underlying25 info5 rfl (by decide) (by omega) v457 y456 l2 _ _ _ (fun k_ => some k_ ≠ (.slice Ao33 t436.length co33 : Value).ownBlock) (fun _ => False) rfl rfl ?aO ?aR (fun _ _ h => h) (fun _ h => h.elim) ?aF ?aB ?aS ?aL ?_; (case aR => repeat (first | exact (Kd.C_below HR2.out HB.out) | with_reducible first | refine Kd.C_alloc ?_ _ | refine Kd.C_drewN ?_ _ | refine Kd.C_drew ?_)); (case aB => exact bsv_); (case aF => exact (fun k_ hk => Kd.fresh' (Kd.R_lt (rq_ HO439)) k_ hk)); (case aO => exact (rq_ HO458)); (case aS => exact bsz_); (case aL => have := LMc21.out; omega); intro v460 w40 ho hb hg hat; rw [← Ny459.out] at ho; replace HO444 := ak (Kd.R_over' (rq_ HO444) (Kd.R_typed (rq_ HO458)) (by decide) hg); replace HO452 := ak (Kd.R_over' (rq_ HO452) (Kd.R_typed (rq_ HO458)) (by decide) hg); replace HB := ak (hb); replace HR448 := ak ((show Kd.C (Kd.int .u8) w40 Ao33 y445.length y445 from by rw [Ny445.out]; exact Kd.C_take (m := ((ji16) : Int).toNat) ((Kd.R_reads' (Kd.R_after (ok := (fun _ => True)) (rq_ HO439) hg hat)).2.2) KL35.out)); replace HO439 := ak (Kd.R_after (ok := (fun _ => True)) (rq_ HO439) hg hat); replace HO461 := ak (ho); clear HO458; clear ho hb hg hat; obtain ⟨Ao41, co41, eo41⟩ := Kd.R_slice HO461.out; subst eo41) | ((with_reducible refine gate_callee (f := 18) rfl ?_); refine goesL_ (some 62) rfl rfl Try.func18 (by kernel_rfl) rfl #[.slice Ao41 y459.length co41] rfl mp_ ?_; (with_reducible refine (shape_Read.calls kj3 _ _ y459 t462 t463 _ ?side1 ?side2 A22.out).mono ?_); (case side1 => exact rc_ HO461); (case side2 => exact (Kd.R_reads' HO461.out).2.1); rintro e w42 ⟨v464, rfl, ho0, hb⟩; refine ⟨_, rfl, ?_⟩; replace HO439 := rb_ HO439 hb; replace HO461 := rb_ HO461 hb; replace HO465 := ak (Kd.R_lower (Kd.R_new' (Kd.R_new' ho0 (Kd.R_lt (rq_ HO444))) (Kd.R_lt (rq_ HO452))) bsz_); replace HO444 := ak (Kd.R_elder' (rq_ HO444) (Kd.R_base ho0) hb); replace HO452 := ak (Kd.R_elder' (rq_ HO452) (Kd.R_base ho0) hb); replace HR448 := ak (Kd.C_below (by repeat (first | (with_reducible exact HR448.out) | (with_reducible refine Kd.C_alloc ?_ _) | (with_reducible refine Kd.C_drewN ?_ _) | (with_reducible refine Kd.C_drew ?_) | exact HR448.out)) hb); replace HB := ak (bst_ hb); (try clear hb); (try clear ho0); obtain ⟨Ao43, co43, eo43⟩ := Kd.R_slice HO444.out; subst eo43) | (go_at_call 13; (with_reducible refine (handshakerlaw09_Refs.calls kj3 _ _ t441 t466 _ ?side1 ?side2 A24.out).mono ?_); (case side1 => exact rc_ HO444); (case side2 => exact (Kd.R_reads' HO444.out).2.1); rintro e w44 ⟨v467, rfl, ho0, hb⟩; replace HO439 := rb_ HO439 hb; replace HO444 := rb_ HO444 hb; replace HO452 := rb_ HO452 hb; replace HO461 := rb_ HO461 hb; replace HO465 := rb_ HO465 hb; replace HO468 := ak (Kd.R_lower ho0 bsz_); replace HR448 := ak (Kd.C_below (by repeat (first | (with_reducible exact HR448.out) | (with_reducible refine Kd.C_alloc ?_ _) | (with_reducible refine Kd.C_drewN ?_ _) | (with_reducible refine Kd.C_drew ?_) | exact HR448.out)) hb); replace HB := ak (bst_ hb); (try clear hb); (try clear ho0)) | (go_at_call 13; (with_reducible refine (handshakerlaw09_Refs.calls kj3 _ _ l0 t469 _ ?side1 ?side2 A25.out).mono ?_); (case side1 => exact cb_ HR0 HB); (case side2 => exact HC0.out); rintro e w45 ⟨v470, rfl, ho0, hb⟩; replace HO439 := rb_ HO439 hb; replace HO444 := rb_ HO444 hb; replace HO452 := rb_ HO452 hb; replace HO461 := rb_ HO461 hb; replace HO465 := rb_ HO465 hb; replace HO471 := ak (Kd.R_lower (Kd.R_new' ho0 (Kd.R_lt (rq_ HO468))) bsz_); replace HO468 := ak (Kd.R_elder' (rq_ HO468) (Kd.R_base ho0) hb); replace HR448 := ak (Kd.C_below (by repeat (first | (with_reducible exact HR448.out) | (with_reducible refine Kd.C_alloc ?_ _) | (with_reducible refine Kd.C_drewN ?_ _) | (with_reducible refine Kd.C_drew ?_) | exact HR448.out)) hb); replace HB := ak (bst_ hb); (try clear hb); (try clear ho0); obtain ⟨Ao46, co46, eo46⟩ := Kd.R_slice HO468.out; subst eo46; obtain ⟨Ao47, co47, eo47⟩ := Kd.R_slice HO471.out; subst eo47) | (go_at_call 20; (with_reducible refine (handshakerref09_Same.calls kj3 _ _ t466 _ _ t469 true _ ?side1 ?side2 ?side3 ?side4 A26.out).mono ?_); (case side1 => exact rc_ HO468); (case side2 => exact (Kd.R_reads' HO468.out).2.1); (case side3 => exact rc_ HO471); (case side4 => exact (Kd.R_reads' HO471.out).2.1); rintro e w' ⟨rfl, ⟨nd, rfl⟩⟩) | (go_at_call 10; (with_reducible refine (handshakerlaw09_awake.calls kj3  t473 _ A31.out).mono ?_); rintro e w48 ⟨rfl, hb⟩; replace HO439 := rb_ HO439 hb; replace HO444 := rb_ HO444 hb; replace HO452 := rb_ HO452 hb; replace HO461 := rb_ HO461 hb; replace HO465 := rb_ HO465 hb; replace HO468 := rb_ HO468 hb; replace HO471 := rb_ HO471 hb; replace HR448 := ak (Kd.C_below (by repeat (first | (with_reducible exact HR448.out) | (with_reducible refine Kd.C_alloc ?_ _) | (with_reducible refine Kd.C_drewN ?_ _) | (with_reducible refine Kd.C_drew ?_) | exact HR448.out)) hb); replace HB := ak (bst_ hb); (try clear hb)))
   go_ret
   exact ⟨by first | rfl | (simp [errW_none, errW_some] <;> rfl) | (simp only [← hji16]; first | rfl | (simp [errW_none, errW_some] <;> rfl)) | (simp [*, errW_none, errW_some] <;> rfl), bsv_⟩

/-- THE ONE PURE STATEMENT of handshakerlaw09_ShapeBack. -/
def handshakerlaw09_ShapeBack.Pure : Prop := ∀ (l0 : List (List (S53))) (a1 : Int) (l2 : List Int), l0.length ≤ maxLen → l0.length * 24 ≤ 140737488351232 → (∀ y ∈ l0, (y.length ≤ maxLen ∧ ∀ z ∈ y, wfS53 z)) → (Lit.int .u16 a1).wf = true → l2.length ≤ maxLen → l2.length * 1 ≤ 140737488351232 → (∀ y ∈ l2, (Lit.int .u8 y).wf = true) → ∃ k, handshakerlaw09_ShapeBack.f k l0 a1 l2 = some true

end Go.Proofs.Ytpeblomhhofhkaa.H
