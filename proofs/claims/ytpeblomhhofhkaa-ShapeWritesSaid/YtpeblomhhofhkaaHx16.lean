-- PRINTED by print.py (a twelfth state) out of the translation. Not trusted: Lean checks it.
import Derived.Test.YtpeblomhhofhkaaHShI
import Derived.Test.YtpeblomhhofhkaaHx0
import Derived.Test.YtpeblomhhofhkaaHx8
import Derived.Test.YtpeblomhhofhkaaHx10
import Derived.Test.YtpeblomhhofhkaaHx14
import Derived.Test.YtpeblomhhofhkaaHx15
namespace Go.Proofs.Ytpeblomhhofhkaa.H
open Go.Proofs.Ytpeblomhhofhkaa.Ho
open Go.RowKit Go.Proofs.YtpeblomhhofhkaaW.PrintWords Go.Proofs.YtpeblomhhofhkaaW.PrintLast Go.Proofs.YtpeblomhhofhkaaW.PrintMore
attribute [local go_sem] max2_int min2_int max_two min_two max_three min_three max_four min_four   -- for this text's walks alone
set_option linter.unusedVariables false
set_option linter.unusedSimpArgs false

/-! ### handshakerlaw09_ShapeWrites: function 3 -/
def handshakerlaw09_ShapeWrites.l0 : Nat → List Int → Int → List Int → Bool → List (List (S53)) → Int → Int → Option (Bool)
 | 0, _, _, _, _, _, _, _ => none
 | k + 1, x3, x4, x5, x6, x25, x26, x27 => if x27 < x26 then (if 0 ≤ x27 then (if x27 < (x25.length : Int) then ((handshakerlaw08_Ref.f k (rd_L5 x25 x27)).bind fun t365 => ((handshakerref08_Check.f k t365).bind fun t368 => (if t368 = 0 then ((handshakerlaw08_Ref.f k (rd_L5 x25 x27)).bind fun t369 => ((handshakerref09_Code.f k t369).bind fun t372 => ((shape_Size.f k (rd_L5 x25 x27)).bind fun t375 => (if t375 = (t372.length : Int) then (handshakerlaw09_ShapeWrites.l0 k x3 x4 x5 x6 x25 x26 (wrap64 (x27 + 1))) else (some false))))) else ((shape_Size.f k (rd_L5 x25 x27)).bind fun t376 => (if t376 = 0 then (handshakerlaw09_ShapeWrites.l0 k x3 x4 x5 x6 x25 x26 (wrap64 (x27 + 1))) else (some false)))))) else (none)) else (none)) else (if (strOfNums x3).toList = (strOfNums x5).toList then (if x4 = 0 then (if x6 = true then ((handshakerlaw09_awake.f k).bind fun t362 => (some t362)) else (some false)) else (if x6 = true then (some false) else (if x4 = 1 then ((handshakerlaw09_awake.f k).bind fun t363 => (some t363)) else (some false)))) else (some false))
def handshakerlaw09_ShapeWrites.f (k : Nat) (l0 : List (List (S53))) : Option (Bool) := (handshakerlaw09_small.f k l0).bind fun t349 => (if t349 = true then ((shape_Write.f k l0).bind fun bt351 => ((handshakerlaw09_Refs.f k l0).bind fun t355 => ((handshakerref09_Write.f k t355).bind fun bt358 => (handshakerlaw09_ShapeWrites.l0 k bt351.1 bt351.2 bt358.1 bt358.2 l0 (l0.length : Int) 0)))) else ((handshakerlaw09_awake.f k).bind fun t350 => (some t350)))
theorem handshakerlaw09_ShapeWrites.mono_l : ∀ k, (∀ y0 y1 y2 y3 y4 y5 y6, LeO (handshakerlaw09_ShapeWrites.l0 k y0 y1 y2 y3 y4 y5 y6) (handshakerlaw09_ShapeWrites.l0 (k + 1) y0 y1 y2 y3 y4 y5 y6))
 | 0 => fun _ _ _ _ _ _ _ r h => by simp [handshakerlaw09_ShapeWrites.l0] at h
 | k + 1 => by
  have ih0 := handshakerlaw09_ShapeWrites.mono_l k
  · intro y0 y1 y2 y3 y4 y5 y6
    unfold handshakerlaw09_ShapeWrites.l0
    repeat' first
    | (with_reducible exact ih0 _ _ _ _ _ _ _)
    | (with_reducible exact handshakerlaw08_Ref.mono _ _)
    | (with_reducible exact handshakerlaw09_Refs.mono _ _)
    | (with_reducible exact handshakerlaw09_awake.mono _)
    | (with_reducible exact handshakerlaw09_small.mono _ _)
    | (with_reducible exact handshakerref08_Check.mono _ _)
    | (with_reducible exact handshakerref09_Code.mono _ _)
    | (with_reducible exact handshakerref09_Write.mono _ _)
    | (with_reducible exact shape_Size.mono _ _)
    | (with_reducible exact shape_Write.mono _ _)
    | (with_reducible exact LeO.refl _)
    | (with_reducible exact LeO.none _)
    | (with_reducible refine LeO.ite ?_ ?_)
    | (with_reducible refine LeO.bind ?_ (fun _ => ?_))
    | exact ih0 _ _ _ _ _ _ _
    | exact handshakerlaw08_Ref.mono _ _
    | exact handshakerlaw09_Refs.mono _ _
    | exact handshakerlaw09_awake.mono _
    | exact handshakerlaw09_small.mono _ _
    | exact handshakerref08_Check.mono _ _
    | exact handshakerref09_Code.mono _ _
    | exact handshakerref09_Write.mono _ _
    | exact shape_Size.mono _ _
    | exact shape_Write.mono _ _
    | exact LeO.none _
    | refine LeO.ite ?_ ?_
    | refine LeO.bind ?_ (fun _ => ?_)
theorem handshakerlaw09_ShapeWrites.mono : ∀ a0 k, LeO (handshakerlaw09_ShapeWrites.f k a0) (handshakerlaw09_ShapeWrites.f (k + 1) a0) := by
 intro a0 k
 have ih0 := handshakerlaw09_ShapeWrites.mono_l k
 unfold handshakerlaw09_ShapeWrites.f
 repeat' first
  | (with_reducible exact ih0 _ _ _ _ _ _ _)
  | (with_reducible exact handshakerlaw08_Ref.mono _ _)
  | (with_reducible exact handshakerlaw09_Refs.mono _ _)
  | (with_reducible exact handshakerlaw09_awake.mono _)
  | (with_reducible exact handshakerlaw09_small.mono _ _)
  | (with_reducible exact handshakerref08_Check.mono _ _)
  | (with_reducible exact handshakerref09_Code.mono _ _)
  | (with_reducible exact handshakerref09_Write.mono _ _)
  | (with_reducible exact shape_Size.mono _ _)
  | (with_reducible exact shape_Write.mono _ _)
  | (with_reducible exact LeO.refl _)
  | (with_reducible exact LeO.none _)
  | (with_reducible refine LeO.ite ?_ ?_)
  | (with_reducible refine LeO.bind ?_ (fun _ => ?_))
  | exact ih0 _ _ _ _ _ _ _
  | exact handshakerlaw08_Ref.mono _ _
  | exact handshakerlaw09_Refs.mono _ _
  | exact handshakerlaw09_awake.mono _
  | exact handshakerlaw09_small.mono _ _
  | exact handshakerref08_Check.mono _ _
  | exact handshakerref09_Code.mono _ _
  | exact handshakerref09_Write.mono _ _
  | exact shape_Size.mono _ _
  | exact shape_Write.mono _ _
  | exact LeO.none _
  | refine LeO.ite ?_ ?_
  | refine LeO.bind ?_ (fun _ => ?_)
set_option maxHeartbeats 8000000 in
set_option maxRecDepth 100000 in
theorem handshakerlaw09_ShapeWrites.calls (k : Nat) (A0 : Option Addr) (c0 : Nat) (l0 : List (List (S53))) (r : Bool) (w : World) (HT : Aside0 (r = true)) (hr0 : Kd.C (Kd.slice 53 k53) w A0 l0.length l0) (hc0 : l0.length ≤ c0) (h : handshakerlaw09_ShapeWrites.f k l0 = some r) :
 Calls Try.prog 3 #[.slice A0 l0.length c0] w fun e w' => e = .returned (.bool r) ∧ Below w.heap.size w w' := by
 have HR0 := ak hr0
 have HC0 := ak hc0
 clear hr0 hc0
 have HB := ak (Below.refl w.heap.size w)
 have H : ((handshakerlaw09_small.f k l0).bind fun t349 => (if t349 = true then ((shape_Write.f k l0).bind fun bt351 => ((handshakerlaw09_Refs.f k l0).bind fun t355 => ((handshakerref09_Write.f k t355).bind fun bt358 => (handshakerlaw09_ShapeWrites.l0 k bt351.1 bt351.2 bt358.1 bt358.2 l0 (l0.length : Int) 0)))) else ((handshakerlaw09_awake.f k).bind fun t350 => (some t350)))) = some r := h
 clear h
 obtain ⟨t349, A2, H⟩ := bd_ H
 by_cases c3 : t349 = true
 rotate_left
 · replace c3 := Bool.eq_false_iff.mpr c3
   subst c3
   rw [if_neg (show ¬ (false = true) by decide)] at H
   obtain ⟨t350, A49, H⟩ := bd_ H
   obtain rfl := Option.some.inj H
   go_enter Try.func3, Try.ntmps3
   go_wp2_with (first | ((with_reducible refine gate_callee (f := 9) rfl ?_); refine goesL_ (some 11) rfl rfl Try.func9 (by kernel_rfl) rfl #[.slice A0 l0.length c0] rfl mp_ ?_; (with_reducible refine (handshakerlaw09_small.calls k _ _ l0 false _ ?side1 ?side2 A2.out).mono ?_); (case side1 => exact cc_ HR0); (case side2 => exact HC0.out); rintro e w50 ⟨rfl, hb⟩; refine ⟨_, rfl, ?_⟩; replace HB := ak (bst_ hb); (try clear hb)) | ((with_reducible refine gate_callee (f := 10) rfl ?_); refine goesL_ (some 13) rfl rfl Try.func10 (by kernel_rfl) rfl #[] rfl mp_ ?_; (with_reducible refine (handshakerlaw09_awake.calls k  t350 _ A49.out).mono ?_); rintro e w51 ⟨rfl, hb⟩; refine ⟨_, rfl, ?_⟩; replace HB := ak (bst_ hb); (try clear hb)))
   go_ret
   exact ⟨by first | rfl | (simp [errW_none, errW_some] <;> rfl) | (simp [*, errW_none, errW_some] <;> rfl), bsv_⟩
 subst c3
 rw [if_pos rfl] at H
 replace H := Option.bind_eq_some_iff.mp H
 obtain ⟨⟨t351, t352⟩, A40, H⟩ := H
 have A4 := ak A40
 clear A40
 obtain ⟨t355, A5, H⟩ := bd_ H
 replace H := Option.bind_eq_some_iff.mp H
 obtain ⟨⟨t358, t359⟩, A60, H⟩ := H
 have A6 := ak A60
 clear A60
 have H' := ak H
 clear H
 go_enter Try.func3, Try.ntmps3
 go_wp2_with (first | ((with_reducible refine gate_callee (f := 9) rfl ?_); refine goesL_ (some 11) rfl rfl Try.func9 (by kernel_rfl) rfl #[.slice A0 l0.length c0] rfl mp_ ?_; (with_reducible refine (handshakerlaw09_small.calls k _ _ l0 true _ ?side1 ?side2 A2.out).mono ?_); (case side1 => exact cc_ HR0); (case side2 => exact HC0.out); rintro e w7 ⟨rfl, hb⟩; refine ⟨_, rfl, ?_⟩; replace HB := ak (bst_ hb); (try clear hb)) | ((with_reducible refine gate_callee (f := 11) rfl ?_); refine goesL_ (some 16) rfl rfl Try.func11 (by kernel_rfl) rfl #[.slice A0 l0.length c0] rfl mp_ ?_; (with_reducible refine (shape_Write.calls k _ _ l0 t351 t352 _ ?side1 ?side2 A4.out).mono ?_); (case side1 => exact cb_ HR0 HB); (case side2 => exact HC0.out); rintro e w8 ⟨v353, rfl, ho0, hb⟩; refine ⟨_, rfl, ?_⟩; replace HO354 := ak (Kd.R_lower ho0 bsz_); replace HB := ak (bst_ hb); (try clear hb); (try clear ho0)) | ((with_reducible refine gate_callee (f := 13) rfl ?_); refine goesL_ (some 21) rfl rfl Try.func13 (by kernel_rfl) rfl #[.slice A0 l0.length c0] rfl mp_ ?_; (with_reducible refine (handshakerlaw09_Refs.calls k _ _ l0 t355 _ ?side1 ?side2 A5.out).mono ?_); (case side1 => exact cb_ HR0 HB); (case side2 => exact HC0.out); rintro e w9 ⟨v356, rfl, ho0, hb⟩; refine ⟨_, rfl, ?_⟩; replace HO354 := rb_ HO354 hb; replace HO357 := ak (Kd.R_lower ho0 bsz_); replace HB := ak (bst_ hb); (try clear hb); (try clear ho0); obtain ⟨Ao10, co10, eo10⟩ := Kd.R_slice HO357.out; subst eo10) | ((with_reducible refine gate_callee (f := 12) rfl ?_); refine goesL_ (some 22) rfl rfl Try.func12 (by kernel_rfl) rfl #[.slice Ao10 t355.length co10] rfl mp_ ?_; (with_reducible refine (handshakerref09_Write.calls k _ _ t355 t358 t359 _ ?side1 ?side2 A6.out).mono ?_); (case side1 => exact rc_ HO357); (case side2 => exact (Kd.R_reads' HO357.out).2.1); rintro e w11 ⟨v360, rfl, ho0, hb⟩; refine ⟨_, rfl, ?_⟩; replace HO357 := rb_ HO357 hb; replace HO361 := ak (Kd.R_lower (Kd.R_new' ho0 (Kd.R_lt (rq_ HO354))) bsz_); replace HO354 := ak (Kd.R_elder' (rq_ HO354) (Kd.R_base ho0) hb); replace HB := ak (bst_ hb); (try clear hb); (try clear ho0)))
 go_loopg [27] k (fun kq v27 w' => ∃ (x27_1 : Int), v27 = .int .i64 x27_1 ∧ Aside0 (handshakerlaw09_ShapeWrites.l0 kq t351 t352 t358 t359 l0 (l0.length : Int) x27_1 = some r) ∧ Aside0 (kq ≤ k) ∧ Aside0 (Kd.R (Kd.int .u8) 5 w' w.heap.size (fun k_ => some k_ ≠ (v360 : Value).ownBlock) v353 t351) ∧ Aside0 (Kd.R (Kd.int .u8) 5 w' w.heap.size (fun k_ => some k_ ≠ (v353 : Value).ownBlock) v360 t358) ∧ Aside0 (Below w.heap.size w w'))
 case atStart => exact ⟨(0), (by first | rfl | (simp; done) | (simp [*]; done)), H', ⟨Nat.le_refl _⟩, ⟨Kd.R_mono (rq_ HO354) (fun _ hk => hk.2)⟩, ⟨Kd.R_mono (rq_ HO361) (fun _ hk => hk.2)⟩, ⟨bsv_⟩⟩
 case round =>
  clear H'
  try clear c1
  try clear p2
  try clear c3
  try clear c9
  try clear c11
  obtain ⟨x27_1, rfl, HA, HK1, HO_3, HO_5, HB⟩ := hrel
  cases gk with
  | zero => exact absurd HA.out (by simp [handshakerlaw09_ShapeWrites.l0])
  | succ k1 =>
   have H := HA.out
   clear HA
   simp only [handshakerlaw09_ShapeWrites.l0] at H
   by_cases c12 : x27_1 < (l0.length : Int)
   rotate_left
   · rw [if_neg c12] at H
     have c12b0 : decide (x27_1 < (l0.length : Int)) = false := decide_eq_false c12
     clear c12
     by_cases c36 : (strOfNums t351).toList = (strOfNums t358).toList
     rotate_left
     · rw [if_neg c36] at H
       have c36b0 : ((strOfNums t351).toList == (strOfNums t358).toList) = false := beq_eq_false_iff_ne.mpr c36
       have c36b1 : ((strOfNums t351).toList != (strOfNums t358).toList) = true := bne_iff_ne.mpr c36
       exact absurd (Option.some.inj H) (by rw [HT.out]; decide)
     rw [if_pos c36] at H
     have c36b0 : ((strOfNums t351).toList == (strOfNums t358).toList) = true := beq_iff_eq.mpr c36
     have c36b1 : ((strOfNums t351).toList != (strOfNums t358).toList) = false := bne_eq_false_iff_eq.mpr c36
     clear c36
     by_cases c37 : t352 = 0
     · rw [if_pos c37] at H
       have c37b0 : (t352 == 0) = true := beq_iff_eq.mpr c37
       have c37b1 : (t352 != 0) = false := bne_eq_false_iff_eq.mpr c37
       clear c37
       by_cases c38 : t359 = true
       rotate_left
       · replace c38 := Bool.eq_false_iff.mpr c38
         subst c38
         rw [if_neg (show ¬ (false = true) by decide)] at H
         exact absurd (Option.some.inj H) (by rw [HT.out]; decide)
       subst c38
       rw [if_pos rfl] at H
       obtain ⟨t362, A39, H⟩ := bd_ H
       obtain rfl := Option.some.inj H
       have hcv40 := own_string (P := Try.prog) Try.underlying25 Try.underlying5 Try.underlying9 (Kd.own_of_R HO_3.out)
       have hcv41 := own_string (P := Try.prog) Try.underlying25 Try.underlying5 Try.underlying9 (Kd.own_of_R HO_5.out)
       go_wp2_with (first | (go_at_call 10; (with_reducible refine (handshakerlaw09_awake.calls k1  t362 _ A39.out).mono ?_); rintro e w42 ⟨rfl, hb⟩; replace HO_3 := rb_ HO_3 hb; replace HO_5 := rb_ HO_5 hb; replace HB := ak (bst_ hb); (try clear hb)))
       go_ret
       exact ⟨by first | rfl | (simp [errW_none, errW_some] <;> rfl) | (simp [*, errW_none, errW_some] <;> rfl), bsv_⟩
     rw [if_neg c37] at H
     have c37b0 : (t352 == 0) = false := beq_eq_false_iff_ne.mpr c37
     have c37b1 : (t352 != 0) = true := bne_iff_ne.mpr c37
     by_cases c43 : t359 = true
     · subst c43
       rw [if_pos rfl] at H
       exact absurd (Option.some.inj H) (by rw [HT.out]; decide)
     replace c43 := Bool.eq_false_iff.mpr c43
     subst c43
     rw [if_neg (show ¬ (false = true) by decide)] at H
     by_cases c44 : t352 = 1
     rotate_left
     · rw [if_neg c44] at H
       have c44b0 : (t352 == 1) = false := beq_eq_false_iff_ne.mpr c44
       have c44b1 : (t352 != 1) = true := bne_iff_ne.mpr c44
       exact absurd (Option.some.inj H) (by rw [HT.out]; decide)
     rw [if_pos c44] at H
     have c44b0 : (t352 == 1) = true := beq_iff_eq.mpr c44
     have c44b1 : (t352 != 1) = false := bne_eq_false_iff_eq.mpr c44
     clear c44
     obtain ⟨t363, A45, H⟩ := bd_ H
     obtain rfl := Option.some.inj H
     have hcv46 := own_string (P := Try.prog) Try.underlying25 Try.underlying5 Try.underlying9 (Kd.own_of_R HO_3.out)
     have hcv47 := own_string (P := Try.prog) Try.underlying25 Try.underlying5 Try.underlying9 (Kd.own_of_R HO_5.out)
     go_wp2_with (first | (go_at_call 10; (with_reducible refine (handshakerlaw09_awake.calls k1  t363 _ A45.out).mono ?_); rintro e w48 ⟨rfl, hb⟩; replace HO_3 := rb_ HO_3 hb; replace HO_5 := rb_ HO_5 hb; replace HB := ak (bst_ hb); (try clear hb)))
     go_ret
     exact ⟨by first | rfl | (simp [errW_none, errW_some] <;> rfl) | (simp [*, errW_none, errW_some] <;> rfl), bsv_⟩
   rw [if_pos c12] at H
   have c12b0 : decide (x27_1 < (l0.length : Int)) = true := decide_eq_true c12
   clear c12
   by_cases c13 : 0 ≤ x27_1
   rotate_left
   · rw [if_neg c13] at H
     exact absurd H (by simp)
   rw [if_pos c13] at H
   have c13b0 : decide (0 ≤ x27_1) = true := decide_eq_true c13
   clear c13
   by_cases c14 : x27_1 < (l0.length : Int)
   rotate_left
   · rw [if_neg c14] at H
     exact absurd H (by simp)
   rw [if_pos c14] at H
   have c14b0 : decide (x27_1 < (l0.length : Int)) = true := decide_eq_true c14
   clear c14
   obtain ⟨t365, A15, H⟩ := bd_ H
   obtain ⟨t368, A16, H⟩ := bd_ H
   by_cases c17 : t368 = 0
   rotate_left
   · rw [if_neg c17] at H
     have c17b0 : (t368 == 0) = false := beq_eq_false_iff_ne.mpr c17
     have c17b1 : (t368 != 0) = true := bne_iff_ne.mpr c17
     obtain ⟨t376, A30, H⟩ := bd_ H
     by_cases c31 : t376 = 0
     rotate_left
     · rw [if_neg c31] at H
       have c31b0 : (t376 == 0) = false := beq_eq_false_iff_ne.mpr c31
       have c31b1 : (t376 != 0) = true := bne_iff_ne.mpr c31
       exact absurd (Option.some.inj H) (by rw [HT.out]; decide)
     rw [if_pos c31] at H
     have c31b0 : (t376 == 0) = true := beq_iff_eq.mpr c31
     have c31b1 : (t376 != 0) = false := bne_eq_false_iff_eq.mpr c31
     clear c31
     have H' := ak H
     clear H
     have p364 : 0 ≤ (x27_1 : Int) := oda_
     have q364 : x27_1 < (l0.length : Int) := oda_
     obtain ⟨ad364, A364_0, c364_0, e364, hx364_0, hl364_0, hi364_0⟩ := at_L5 HR0.out x27_1 p364 q364
     cases e364
     replace hx364_0 := bl_ HB hx364_0
     have HR364_0 := ak hi364_0
     have HC364_0 := ak hl364_0
     clear hi364_0 hl364_0
     replace p364 := eq_true p364
     replace q364 := eq_true q364
     go_wp2_with (first | ((with_reducible refine gate_callee (f := 15) rfl ?_); refine goesL_ (some 32) rfl rfl Try.func15 (by kernel_rfl) rfl #[.slice A364_0 (rd_L5 l0 x27_1).length c364_0] rfl mp_ ?_; (with_reducible refine (handshakerlaw08_Ref.calls k1 _ _ (rd_L5 l0 x27_1) t365 _ ?side1 ?side2 A15.out).mono ?_); (case side1 => exact cb_ HR364_0 HB); (case side2 => exact HC364_0.out); rintro e w32 ⟨v366, rfl, ho0, hb⟩; refine ⟨_, rfl, ?_⟩; replace HO_3 := rb_ HO_3 hb; replace HO_5 := rb_ HO_5 hb; replace HO367 := ak (Kd.S_lower ho0 bsz_); replace HB := ak (bst_ hb); (try clear hb); (try clear ho0); obtain ⟨Ao33, co33, eo33⟩ := Kd.S_slice HO367.out; subst eo33) | ((with_reducible refine gate_callee (f := 14) rfl ?_); refine goesL_ (some 33) rfl rfl Try.func14 (by kernel_rfl) rfl #[.slice Ao33 t365.length co33] rfl mp_ ?_; (with_reducible refine (handshakerref08_Check.calls k1 _ _ t365 t368 _ ?side1 ?side2 A16.out).mono ?_); (case side1 => repeat (first | exact (Kd.S_reads' HO367.out).2.2 | with_reducible first | refine Kd.C_alloc ?_ _ | refine Kd.C_drewN ?_ _ | refine Kd.C_drew ?_)); (case side2 => exact (Kd.S_reads' HO367.out).2.1); rintro e w34 ⟨rfl, hb⟩; refine ⟨_, rfl, ?_⟩; replace HO_3 := rb_ HO_3 hb; replace HO_5 := rb_ HO_5 hb; replace HO367 := ak (Kd.S_below (sq_ HO367) hb); replace HB := ak (bst_ hb); (try clear hb)) | ((with_reducible refine gate_callee (f := 17) rfl ?_); refine goesL_ (some 40) rfl rfl Try.func17 (by kernel_rfl) rfl #[.slice A364_0 (rd_L5 l0 x27_1).length c364_0] rfl mp_ ?_; (with_reducible refine (shape_Size.calls k1 _ _ (rd_L5 l0 x27_1) t376 _ ?side1 ?side2 A30.out).mono ?_); (case side1 => exact cb_ HR364_0 HB); (case side2 => exact HC364_0.out); rintro e w35 ⟨rfl, hb⟩; refine ⟨_, rfl, ?_⟩; replace HO_3 := rb_ HO_3 hb; replace HO_5 := rb_ HO_5 hb; replace HO367 := ak (Kd.S_below (sq_ HO367) hb); replace HB := ak (bst_ hb); (try clear hb)))
     go_roundg k1
     case measure => have := HK1.out; omega
     case rel => exact ⟨(wrap64 (x27_1 + 1)), (by first | rfl | (simp; done) | (simp [*]; done)), H', ⟨by have := HK1.out; omega⟩, ⟨rq_ HO_3⟩, ⟨rq_ HO_5⟩, ⟨bsv_⟩⟩
   rw [if_pos c17] at H
   have c17b0 : (t368 == 0) = true := beq_iff_eq.mpr c17
   have c17b1 : (t368 != 0) = false := bne_eq_false_iff_eq.mpr c17
   clear c17
   obtain ⟨t369, A18, H⟩ := bd_ H
   obtain ⟨t372, A19, H⟩ := bd_ H
   obtain ⟨t375, A20, H⟩ := bd_ H
   by_cases c21 : t375 = (t372.length : Int)
   rotate_left
   · rw [if_neg c21] at H
     have c21b0 : (t375 == (t372.length : Int)) = false := beq_eq_false_iff_ne.mpr c21
     have c21b1 : (t375 != (t372.length : Int)) = true := bne_iff_ne.mpr c21
     exact absurd (Option.some.inj H) (by rw [HT.out]; decide)
   rw [if_pos c21] at H
   have c21b0 : (t375 == (t372.length : Int)) = true := beq_iff_eq.mpr c21
   have c21b1 : (t375 != (t372.length : Int)) = false := bne_eq_false_iff_eq.mpr c21
   clear c21
   have H' := ak H
   clear H
   have p364 : 0 ≤ (x27_1 : Int) := oda_
   have q364 : x27_1 < (l0.length : Int) := oda_
   obtain ⟨ad364, A364_0, c364_0, e364, hx364_0, hl364_0, hi364_0⟩ := at_L5 HR0.out x27_1 p364 q364
   cases e364
   replace hx364_0 := bl_ HB hx364_0
   have HR364_0 := ak hi364_0
   have HC364_0 := ak hl364_0
   clear hi364_0 hl364_0
   replace p364 := eq_true p364
   replace q364 := eq_true q364
   go_wp2_with (first | ((with_reducible refine gate_callee (f := 15) rfl ?_); refine goesL_ (some 32) rfl rfl Try.func15 (by kernel_rfl) rfl #[.slice A364_0 (rd_L5 l0 x27_1).length c364_0] rfl mp_ ?_; (with_reducible refine (handshakerlaw08_Ref.calls k1 _ _ (rd_L5 l0 x27_1) t365 _ ?side1 ?side2 A15.out).mono ?_); (case side1 => exact cb_ HR364_0 HB); (case side2 => exact HC364_0.out); rintro e w22 ⟨v366, rfl, ho0, hb⟩; refine ⟨_, rfl, ?_⟩; replace HO_3 := rb_ HO_3 hb; replace HO_5 := rb_ HO_5 hb; replace HO367 := ak (Kd.S_lower ho0 bsz_); replace HB := ak (bst_ hb); (try clear hb); (try clear ho0); obtain ⟨Ao23, co23, eo23⟩ := Kd.S_slice HO367.out; subst eo23) | ((with_reducible refine gate_callee (f := 14) rfl ?_); refine goesL_ (some 33) rfl rfl Try.func14 (by kernel_rfl) rfl #[.slice Ao23 t365.length co23] rfl mp_ ?_; (with_reducible refine (handshakerref08_Check.calls k1 _ _ t365 t368 _ ?side1 ?side2 A16.out).mono ?_); (case side1 => repeat (first | exact (Kd.S_reads' HO367.out).2.2 | with_reducible first | refine Kd.C_alloc ?_ _ | refine Kd.C_drewN ?_ _ | refine Kd.C_drew ?_)); (case side2 => exact (Kd.S_reads' HO367.out).2.1); rintro e w24 ⟨rfl, hb⟩; refine ⟨_, rfl, ?_⟩; replace HO_3 := rb_ HO_3 hb; replace HO_5 := rb_ HO_5 hb; replace HO367 := ak (Kd.S_below (sq_ HO367) hb); replace HB := ak (bst_ hb); (try clear hb)) | ((with_reducible refine gate_callee (f := 15) rfl ?_); refine goesL_ (some 36) rfl rfl Try.func15 (by kernel_rfl) rfl #[.slice A364_0 (rd_L5 l0 x27_1).length c364_0] rfl mp_ ?_; (with_reducible refine (handshakerlaw08_Ref.calls k1 _ _ (rd_L5 l0 x27_1) t369 _ ?side1 ?side2 A18.out).mono ?_); (case side1 => exact cb_ HR364_0 HB); (case side2 => exact HC364_0.out); rintro e w25 ⟨v370, rfl, ho0, hb⟩; refine ⟨_, rfl, ?_⟩; replace HO_3 := rb_ HO_3 hb; replace HO_5 := rb_ HO_5 hb; replace HO371 := ak (Kd.S_lower (Kd.S_new' ho0 (Kd.S_lt (sq_ HO367))) bsz_); replace HO367 := ak (Kd.S_elder' (sq_ HO367) (Kd.S_base ho0) hb); replace HB := ak (bst_ hb); (try clear hb); (try clear ho0); obtain ⟨Ao26, co26, eo26⟩ := Kd.S_slice HO371.out; subst eo26) | ((with_reducible refine gate_callee (f := 16) rfl ?_); refine goesL_ (some 37) rfl rfl Try.func16 (by kernel_rfl) rfl #[.slice Ao26 t369.length co26] rfl mp_ ?_; (with_reducible refine (handshakerref09_Code.calls k1 _ _ t369 t372 _ ?side1 ?side2 A19.out).mono ?_); (case side1 => repeat (first | exact (Kd.S_reads' HO371.out).2.2 | with_reducible first | refine Kd.C_alloc ?_ _ | refine Kd.C_drewN ?_ _ | refine Kd.C_drew ?_)); (case side2 => exact (Kd.S_reads' HO371.out).2.1); rintro e w27 ⟨v373, rfl, ho0, hb⟩; refine ⟨_, rfl, ?_⟩; replace HO367 := ak (Kd.S_below (sq_ HO367) hb); replace HO371 := ak (Kd.S_below (sq_ HO371) hb); replace HO374 := ak (Kd.R_lower (Kd.R_new' (Kd.R_new' ho0 (Kd.R_lt (rq_ HO_3))) (Kd.R_lt (rq_ HO_5))) bsz_); replace HO_3 := ak (Kd.R_elder' (rq_ HO_3) (Kd.R_base ho0) hb); replace HO_5 := ak (Kd.R_elder' (rq_ HO_5) (Kd.R_base ho0) hb); replace HB := ak (bst_ hb); (try clear hb); (try clear ho0); obtain ⟨Ao28, co28, eo28⟩ := Kd.R_slice HO374.out; subst eo28) | ((with_reducible refine gate_callee (f := 17) rfl ?_); refine goesL_ (some 40) rfl rfl Try.func17 (by kernel_rfl) rfl #[.slice A364_0 (rd_L5 l0 x27_1).length c364_0] rfl mp_ ?_; (with_reducible refine (shape_Size.calls k1 _ _ (rd_L5 l0 x27_1) t375 _ ?side1 ?side2 A20.out).mono ?_); (case side1 => exact cb_ HR364_0 HB); (case side2 => exact HC364_0.out); rintro e w29 ⟨rfl, hb⟩; refine ⟨_, rfl, ?_⟩; replace HO_3 := rb_ HO_3 hb; replace HO_5 := rb_ HO_5 hb; replace HO367 := ak (Kd.S_below (sq_ HO367) hb); replace HO371 := ak (Kd.S_below (sq_ HO371) hb); replace HO374 := rb_ HO374 hb; replace HB := ak (bst_ hb); (try clear hb)))
   go_roundg k1
   case measure => have := HK1.out; omega
   case rel => exact ⟨(wrap64 (x27_1 + 1)), (by first | rfl | (simp; done) | (simp [*]; done)), H', ⟨by have := HK1.out; omega⟩, ⟨Kd.R_mono (rq_ HO_3) (fun _ hk => hk.1)⟩, ⟨Kd.R_mono (rq_ HO_5) (fun _ hk => hk.1)⟩, ⟨bsv_⟩⟩

/-- THE ONE PURE STATEMENT of handshakerlaw09_ShapeWrites. -/
def handshakerlaw09_ShapeWrites.Pure : Prop := ∀ (l0 : List (List (S53))), l0.length ≤ maxLen → l0.length * 24 ≤ 140737488351232 → (∀ y ∈ l0, (y.length ≤ maxLen ∧ ∀ z ∈ y, wfS53 z)) → ∃ k, handshakerlaw09_ShapeWrites.f k l0 = some true

end Go.Proofs.Ytpeblomhhofhkaa.H
