-- PRINTED by print.py (a twelfth state) out of the translation. Not trusted: Lean checks it.
import Derived.Test.YtpeblomhhofhkaaHShI
import Derived.Test.YtpeblomhhofhkaaHx0
import Derived.Test.YtpeblomhhofhkaaHx8
import Derived.Test.YtpeblomhhofhkaaHx10
namespace Go.Proofs.Ytpeblomhhofhkaa.H
open Go.Proofs.Ytpeblomhhofhkaa.Ho
open Go.RowKit Go.Proofs.YtpeblomhhofhkaaW.PrintWords Go.Proofs.YtpeblomhhofhkaaW.PrintLast Go.Proofs.YtpeblomhhofhkaaW.PrintMore
attribute [local go_sem] max2_int min2_int max_two min_two max_three min_three max_four min_four   -- for this text's walks alone
set_option linter.unusedVariables false
set_option linter.unusedSimpArgs false

/-! ### handshakerlaw09_ShapeJoins: function 7 -/
def handshakerlaw09_ShapeJoins.l0 : Nat → List Int → ByteArray → List (List (S53)) → Int → Int → Option (Bool)
 | 0, _, _, _, _, _ => none
 | k + 1, x3, x5, x32, x33, x34 => if x34 < x33 then (if 0 ≤ x34 then (if x34 < (x32.length : Int) then ((shape_Write.f k (([rd_L5 x32 x34] : List (List (S53))))).bind fun bt244 => (if bt244.2 = 0 then ((shape_Size.f k (rd_L5 x32 x34)).bind fun t248 => (if (bt244.1.length : Int) = (wrap64 (1 + t248)) then (if 1 ≤ (bt244.1.length : Int) then ((some (bt244.1.drop 1 : List Int)).bind fun y249 => (if x5.size + (strOfNums y249).size ≤ 9223372036854775807 then (handshakerlaw09_ShapeJoins.l0 k x3 (x5 ++ (strOfNums y249)) x32 x33 (wrap64 (x34 + 1))) else (none))) else (none)) else (some false))) else (some false))) else (none)) else (none)) else (if (strOfNums x3).toList = x5.toList then ((handshakerlaw09_awake.f k).bind fun t239 => (some t239)) else (some false))
def handshakerlaw09_ShapeJoins.f (k : Nat) (l0 : List (List (S53))) : Option (Bool) := (handshakerlaw09_small.f k l0).bind fun t229 => (if t229 = true then ((shape_Write.f k l0).bind fun bt231 => (if bt231.2 = 0 then (handshakerlaw09_ShapeJoins.l0 k bt231.1 (strOfNums (([((l0.length : Int)) % 256] : List Int))) l0 (l0.length : Int) 0) else (if (bt231.1.length : Int) = 0 then ((handshakerlaw09_awake.f k).bind fun t235 => (some t235)) else (some false)))) else ((handshakerlaw09_awake.f k).bind fun t230 => (some t230)))
theorem handshakerlaw09_ShapeJoins.mono_l : ∀ k, (∀ y0 y1 y2 y3 y4, LeO (handshakerlaw09_ShapeJoins.l0 k y0 y1 y2 y3 y4) (handshakerlaw09_ShapeJoins.l0 (k + 1) y0 y1 y2 y3 y4))
 | 0 => fun _ _ _ _ _ r h => by simp [handshakerlaw09_ShapeJoins.l0] at h
 | k + 1 => by
  have ih0 := handshakerlaw09_ShapeJoins.mono_l k
  · intro y0 y1 y2 y3 y4
    unfold handshakerlaw09_ShapeJoins.l0
    repeat' first
    | (with_reducible exact ih0 _ _ _ _ _)
    | (with_reducible exact handshakerlaw09_awake.mono _)
    | (with_reducible exact handshakerlaw09_small.mono _ _)
    | (with_reducible exact shape_Size.mono _ _)
    | (with_reducible exact shape_Write.mono _ _)
    | (with_reducible exact LeO.refl _)
    | (with_reducible exact LeO.none _)
    | (with_reducible refine LeO.ite ?_ ?_)
    | (with_reducible refine LeO.bind ?_ (fun _ => ?_))
    | exact ih0 _ _ _ _ _
    | exact handshakerlaw09_awake.mono _
    | exact handshakerlaw09_small.mono _ _
    | exact shape_Size.mono _ _
    | exact shape_Write.mono _ _
    | exact LeO.none _
    | refine LeO.ite ?_ ?_
    | refine LeO.bind ?_ (fun _ => ?_)
theorem handshakerlaw09_ShapeJoins.mono : ∀ a0 k, LeO (handshakerlaw09_ShapeJoins.f k a0) (handshakerlaw09_ShapeJoins.f (k + 1) a0) := by
 intro a0 k
 have ih0 := handshakerlaw09_ShapeJoins.mono_l k
 unfold handshakerlaw09_ShapeJoins.f
 repeat' first
  | (with_reducible exact ih0 _ _ _ _ _)
  | (with_reducible exact handshakerlaw09_awake.mono _)
  | (with_reducible exact handshakerlaw09_small.mono _ _)
  | (with_reducible exact shape_Size.mono _ _)
  | (with_reducible exact shape_Write.mono _ _)
  | (with_reducible exact LeO.refl _)
  | (with_reducible exact LeO.none _)
  | (with_reducible refine LeO.ite ?_ ?_)
  | (with_reducible refine LeO.bind ?_ (fun _ => ?_))
  | exact ih0 _ _ _ _ _
  | exact handshakerlaw09_awake.mono _
  | exact handshakerlaw09_small.mono _ _
  | exact shape_Size.mono _ _
  | exact shape_Write.mono _ _
  | exact LeO.none _
  | refine LeO.ite ?_ ?_
  | refine LeO.bind ?_ (fun _ => ?_)
set_option maxHeartbeats 8000000 in
set_option maxRecDepth 100000 in
theorem handshakerlaw09_ShapeJoins.calls (k : Nat) (P0_ : Nat → Prop) (A0 : Option Addr) (c0 : Nat) (l0 : List (List (S53))) (r : Bool) (w : World) (HT : Aside0 (r = true)) (hs0 : Kd.V (Kd.slice 53 k53) 33 w w.heap.size (fun k_ => P0_ k_) (.slice A0 l0.length c0) l0) (h : handshakerlaw09_ShapeJoins.f k l0 = some r) :
 Calls Try.prog 7 #[.slice A0 l0.length c0] w fun e w' => e = .returned (.bool r) ∧ Below w.heap.size w w' := by
 have HO0 := ak (show Kd.V (Kd.slice 53 k53) 33 w w.heap.size (fun k_ => (P0_ k_ ∨ w.heap.size ≤ k_)) (.slice A0 l0.length c0) l0 from Kd.V_mono hs0 (fun k_ hk => .inl hk))
 have HB := ak (Below.refl w.heap.size w)
 have H : ((handshakerlaw09_small.f k l0).bind fun t229 => (if t229 = true then ((shape_Write.f k l0).bind fun bt231 => (if bt231.2 = 0 then (handshakerlaw09_ShapeJoins.l0 k bt231.1 (strOfNums (([((l0.length : Int)) % 256] : List Int))) l0 (l0.length : Int) 0) else (if (bt231.1.length : Int) = 0 then ((handshakerlaw09_awake.f k).bind fun t235 => (some t235)) else (some false)))) else ((handshakerlaw09_awake.f k).bind fun t230 => (some t230)))) = some r := h
 clear h
 obtain ⟨t229, A2, H⟩ := bd_ H
 by_cases c3 : t229 = true
 rotate_left
 · replace c3 := Bool.eq_false_iff.mpr c3
   subst c3
   rw [if_neg (show ¬ (false = true) by decide)] at H
   obtain ⟨t230, A38, H⟩ := bd_ H
   obtain rfl := Option.some.inj H
   go_enter Try.func7, Try.ntmps7
   go_wp2_with (first | ((with_reducible refine gate_callee (f := 9) rfl ?_); refine goesL_ (some 11) rfl rfl Try.func9 (by kernel_rfl) rfl #[.slice A0 l0.length c0] rfl mp_ ?_; (with_reducible refine (handshakerlaw09_small.calls k _ _ l0 false _ ?side1 ?side2 A2.out).mono ?_); (case side1 => exact vc_ HO0); (case side2 => exact vl_ HO0); rintro e w39 ⟨rfl, hb⟩; refine ⟨_, rfl, ?_⟩; replace HO0 := vb_ HO0 hb; replace HB := ak (bst_ hb); (try clear hb)) | ((with_reducible refine gate_callee (f := 10) rfl ?_); refine goesL_ (some 13) rfl rfl Try.func10 (by kernel_rfl) rfl #[] rfl mp_ ?_; (with_reducible refine (handshakerlaw09_awake.calls k  t230 _ A38.out).mono ?_); rintro e w40 ⟨rfl, hb⟩; refine ⟨_, rfl, ?_⟩; replace HO0 := vb_ HO0 hb; replace HB := ak (bst_ hb); (try clear hb)))
   go_ret
   exact ⟨by first | rfl | (simp [errW_none, errW_some] <;> rfl) | (simp [*, errW_none, errW_some] <;> rfl), bsv_⟩
 subst c3
 rw [if_pos rfl] at H
 replace H := Option.bind_eq_some_iff.mp H
 obtain ⟨⟨t231, t232⟩, A40, H⟩ := H
 have A4 := ak A40
 clear A40
 by_cases c5 : t232 = 0
 rotate_left
 · rw [if_neg c5] at H
   have c5b0 : (t232 == 0) = false := beq_eq_false_iff_ne.mpr c5
   have c5b1 : (t232 != 0) = true := bne_iff_ne.mpr c5
   by_cases c32 : (t231.length : Int) = 0
   rotate_left
   · rw [if_neg c32] at H
     have c32b0 : ((t231.length : Int) == 0) = false := beq_eq_false_iff_ne.mpr c32
     have c32b1 : ((t231.length : Int) != 0) = true := bne_iff_ne.mpr c32
     have c32b2 : ¬ (t231 = []) := fun h_ => c32 (by rw [h_]; rfl)
     exact absurd (Option.some.inj H) (by rw [HT.out]; decide)
   rw [if_pos c32] at H
   have c32b0 : ((t231.length : Int) == 0) = true := beq_iff_eq.mpr c32
   have c32b1 : ((t231.length : Int) != 0) = false := bne_eq_false_iff_eq.mpr c32
   clear c32
   obtain ⟨t235, A33, H⟩ := bd_ H
   obtain rfl := Option.some.inj H
   go_enter Try.func7, Try.ntmps7
   go_wp2_with (first | ((with_reducible refine gate_callee (f := 9) rfl ?_); refine goesL_ (some 11) rfl rfl Try.func9 (by kernel_rfl) rfl #[.slice A0 l0.length c0] rfl mp_ ?_; (with_reducible refine (handshakerlaw09_small.calls k _ _ l0 true _ ?side1 ?side2 A2.out).mono ?_); (case side1 => exact vc_ HO0); (case side2 => exact vl_ HO0); rintro e w34 ⟨rfl, hb⟩; refine ⟨_, rfl, ?_⟩; replace HO0 := vb_ HO0 hb; replace HB := ak (bst_ hb); (try clear hb)) | ((with_reducible refine gate_callee (f := 11) rfl ?_); refine goesL_ (some 16) rfl rfl Try.func11 (by kernel_rfl) rfl #[.slice A0 l0.length c0] rfl mp_ ?_; (with_reducible refine (shape_Write.calls k _ _ l0 t231 t232 _ ?side1 ?side2 A4.out).mono ?_); (case side1 => exact vc_ HO0); (case side2 => exact vl_ HO0); rintro e w35 ⟨v233, rfl, ho0, hb⟩; refine ⟨_, rfl, ?_⟩; replace HO0 := ak (Kd.V_elder' (vq_ HO0) (Kd.R_base ho0) hb); replace HO234 := ak (Kd.R_lower (Kd.R_newM (M := fun k_ => (w.heap.size ≤ k_)) ho0 bsz_ (fun k_ h_ => h_)) bsz_); replace HB := ak (bst_ hb); (try clear hb); (try clear ho0); obtain ⟨Ao36, co36, eo36⟩ := Kd.R_slice HO234.out; subst eo36) | (go_at_call 10; (with_reducible refine (handshakerlaw09_awake.calls k  t235 _ A33.out).mono ?_); rintro e w37 ⟨rfl, hb⟩; replace HO0 := vb_ HO0 hb; replace HO234 := rb_ HO234 hb; replace HB := ak (bst_ hb); (try clear hb)))
   go_ret
   exact ⟨by first | rfl | (simp [errW_none, errW_some] <;> rfl) | (simp [*, errW_none, errW_some] <;> rfl), bsv_⟩
 rw [if_pos c5] at H
 have c5b0 : (t232 == 0) = true := beq_iff_eq.mpr c5
 have c5b1 : (t232 != 0) = false := bne_eq_false_iff_eq.mpr c5
 clear c5
 obtain ⟨y236, hy236⟩ : ∃ y_ : List Int, y_ = (([((l0.length : Int)) % 256] : List Int)) := ⟨_, rfl⟩
 replace H : (handshakerlaw09_ShapeJoins.l0 k t231 (strOfNums y236) l0 (l0.length : Int) 0) = some r := rh_ hy236 H
 have Ny236 := ak hy236
 clear hy236
 have H' := ak H
 clear H
 go_enter Try.func7, Try.ntmps7
 go_wp2_with (first | ((with_reducible refine gate_callee (f := 9) rfl ?_); refine goesL_ (some 11) rfl rfl Try.func9 (by kernel_rfl) rfl #[.slice A0 l0.length c0] rfl mp_ ?_; (with_reducible refine (handshakerlaw09_small.calls k _ _ l0 true _ ?side1 ?side2 A2.out).mono ?_); (case side1 => exact vc_ HO0); (case side2 => exact vl_ HO0); rintro e w6 ⟨rfl, hb⟩; refine ⟨_, rfl, ?_⟩; replace HO0 := vb_ HO0 hb; replace HB := ak (bst_ hb); (try clear hb)) | ((with_reducible refine gate_callee (f := 11) rfl ?_); refine goesL_ (some 16) rfl rfl Try.func11 (by kernel_rfl) rfl #[.slice A0 l0.length c0] rfl mp_ ?_; (with_reducible refine (shape_Write.calls k _ _ l0 t231 t232 _ ?side1 ?side2 A4.out).mono ?_); (case side1 => exact vc_ HO0); (case side2 => exact vl_ HO0); rintro e w7 ⟨v233, rfl, ho0, hb⟩; refine ⟨_, rfl, ?_⟩; replace HO0 := ak (Kd.V_elder' (vq_ HO0) (Kd.R_base ho0) hb); replace HO234 := ak (Kd.R_lower (Kd.R_newM (M := fun k_ => (w.heap.size ≤ k_)) ho0 bsz_ (fun k_ h_ => h_)) bsz_); replace HB := ak (bst_ hb); (try clear hb); (try clear ho0)) | ((with_reducible refine gate_dst (N := 30) rfl ?_); (try (refine gate_guard (by rfl) ?_; dsimp only)); refine Kd.R_lit (Kd.int .u8) _ 5 ?hg (N := 30) ?hd (xs := ([((l0.length : Int)) % 256] : List Int)) (inner := [.int .u8 (((l0.length : Int)) % 256)]) (ok := fun _ => True) (okp := fun _ => True) ?hr ?hp (fun _ hk => hk) trivial (Below.refl _ _) (Nat.le_refl _) (by simp) ?_; (case hd => rfl); (case hg => rfl); (case hr => first | (go_simp; done) | (go_simp; rfl)); (case hp => exact (Reps.one (show Kd.M (Kd.int .u8) _ _ _ (((l0.length : Int)) % 256) [.int .u8 (((l0.length : Int)) % 256)] from rfl) (Reps.none _ _))); intro v237 w8 ho9 hb hg_ hnew_; clear hg_ hnew_; (first | rw [← Ny236.out] at ho9 | (simp only [Int.reduceToNat] at ho9; rw [← Ny236.out] at ho9)); replace HO0 := ak (Kd.V_elder' (vq_ HO0) (Kd.R_base ho9) hb); replace HO238 := ak (Kd.R_lower (Kd.R_new' (Kd.R_newM (M := fun k_ => (w.heap.size ≤ k_)) ho9 bsz_ (fun k_ h_ => h_)) (Kd.R_lt (rq_ HO234))) bsz_); replace HO234 := ak (Kd.R_elder' (rq_ HO234) (Kd.R_base ho9) hb); replace HB := ak (bst_ hb); clear hb ho9; have hcv10 := own_string (P := Try.prog) Try.underlying25 Try.underlying5 Try.underlying9 (Kd.own_of_R HO238.out)))
 go_loopg [5, 34] k (fun kq v5 v34 w' => ∃ (x5_1 : ByteArray) (x34_1 : Int), v5 = .string x5_1 ∧ v34 = .int .i64 x34_1 ∧ Aside0 (handshakerlaw09_ShapeJoins.l0 kq t231 x5_1 l0 (l0.length : Int) x34_1 = some r) ∧ Aside0 (kq ≤ k) ∧ Aside0 (Kd.R (Kd.int .u8) 5 w' w.heap.size (fun k_ => (w.heap.size ≤ k_)) v233 t231) ∧ Aside0 (Kd.V (Kd.slice 53 k53) 33 w' w.heap.size (fun k_ => (P0_ k_ ∨ w.heap.size ≤ k_) ∧ some k_ ≠ (v233 : Value).ownBlock) (.slice A0 l0.length c0) l0) ∧ Aside0 (Below w.heap.size w w'))
 case atStart => exact ⟨(strOfNums y236), (0), (by first | rfl | (simp; done) | (simp [*]; done)), (by first | rfl | (simp; done) | (simp [*]; done)), H', ⟨Nat.le_refl _⟩, ⟨Kd.R_mono (rq_ HO234) (fun _ hk => hk.1.1)⟩, ⟨Kd.V_mono (vq_ HO0) (fun _ hk => ⟨hk.1.1, hk.1.2⟩)⟩, ⟨bsv_⟩⟩
 case round =>
  clear H'
  try clear c1
  try clear hcv1
  try clear p2
  try clear c3
  try clear c5
  try clear c5b0
  try clear c5b1
  try clear c7
  try clear c9
  try clear hcv10
  obtain ⟨x5_1, x34_1, rfl, rfl, HA, HK1, HO_3, HO_32, HB⟩ := hrel
  cases gk with
  | zero => exact absurd HA.out (by simp [handshakerlaw09_ShapeJoins.l0])
  | succ k1 =>
   have H := HA.out
   clear HA
   simp only [handshakerlaw09_ShapeJoins.l0] at H
   by_cases c11 : x34_1 < (l0.length : Int)
   rotate_left
   · rw [if_neg c11] at H
     have c11b0 : decide (x34_1 < (l0.length : Int)) = false := decide_eq_false c11
     clear c11
     by_cases c28 : (strOfNums t231).toList = x5_1.toList
     rotate_left
     · rw [if_neg c28] at H
       have c28b0 : ((strOfNums t231).toList == x5_1.toList) = false := beq_eq_false_iff_ne.mpr c28
       have c28b1 : ((strOfNums t231).toList != x5_1.toList) = true := bne_iff_ne.mpr c28
       exact absurd (Option.some.inj H) (by rw [HT.out]; decide)
     rw [if_pos c28] at H
     have c28b0 : ((strOfNums t231).toList == x5_1.toList) = true := beq_iff_eq.mpr c28
     have c28b1 : ((strOfNums t231).toList != x5_1.toList) = false := bne_eq_false_iff_eq.mpr c28
     clear c28
     obtain ⟨t239, A29, H⟩ := bd_ H
     obtain rfl := Option.some.inj H
     have hcv30 := own_string (P := Try.prog) Try.underlying25 Try.underlying5 Try.underlying9 (Kd.own_of_R HO_3.out)
     go_wp2_with (first | (go_at_call 10; (with_reducible refine (handshakerlaw09_awake.calls k1  t239 _ A29.out).mono ?_); rintro e w31 ⟨rfl, hb⟩; replace HO_3 := rb_ HO_3 hb; replace HO_32 := vb_ HO_32 hb; replace HB := ak (bst_ hb); (try clear hb)))
     go_ret
     exact ⟨by first | rfl | (simp [errW_none, errW_some] <;> rfl) | (simp [*, errW_none, errW_some] <;> rfl), bsv_⟩
   rw [if_pos c11] at H
   have c11b0 : decide (x34_1 < (l0.length : Int)) = true := decide_eq_true c11
   clear c11
   by_cases c12 : 0 ≤ x34_1
   rotate_left
   · rw [if_neg c12] at H
     exact absurd H (by simp)
   rw [if_pos c12] at H
   have c12b0 : decide (0 ≤ x34_1) = true := decide_eq_true c12
   clear c12
   by_cases c13 : x34_1 < (l0.length : Int)
   rotate_left
   · rw [if_neg c13] at H
     exact absurd H (by simp)
   rw [if_pos c13] at H
   have c13b0 : decide (x34_1 < (l0.length : Int)) = true := decide_eq_true c13
   clear c13
   obtain ⟨y241, hy241⟩ : ∃ y_ : List (List (S53)), y_ = (([rd_L5 l0 x34_1] : List (List (S53)))) := ⟨_, rfl⟩
   replace H : ((shape_Write.f k1 y241).bind fun bt244 => (if bt244.2 = 0 then ((shape_Size.f k1 (rd_L5 l0 x34_1)).bind fun t248 => (if (bt244.1.length : Int) = (wrap64 (1 + t248)) then (if 1 ≤ (bt244.1.length : Int) then ((some (bt244.1.drop 1 : List Int)).bind fun y249 => (if x5_1.size + (strOfNums y249).size ≤ 9223372036854775807 then (handshakerlaw09_ShapeJoins.l0 k1 t231 (x5_1 ++ (strOfNums y249)) l0 (l0.length : Int) (wrap64 (x34_1 + 1))) else (none))) else (none)) else (some false))) else (some false))) = some r := rh_ hy241 H
   have Ny241 := ak hy241
   clear hy241
   replace H := Option.bind_eq_some_iff.mp H
   obtain ⟨⟨t244, t245⟩, A140, H⟩ := H
   have A14 := ak A140
   clear A140
   by_cases c15 : t245 = 0
   rotate_left
   · rw [if_neg c15] at H
     have c15b0 : (t245 == 0) = false := beq_eq_false_iff_ne.mpr c15
     have c15b1 : (t245 != 0) = true := bne_iff_ne.mpr c15
     exact absurd (Option.some.inj H) (by rw [HT.out]; decide)
   rw [if_pos c15] at H
   have c15b0 : (t245 == 0) = true := beq_iff_eq.mpr c15
   have c15b1 : (t245 != 0) = false := bne_eq_false_iff_eq.mpr c15
   clear c15
   obtain ⟨t248, A16, H⟩ := bd_ H
   by_cases c17 : (t244.length : Int) = (wrap64 (1 + t248))
   rotate_left
   · rw [if_neg c17] at H
     have c17b0 : ((t244.length : Int) == (wrap64 (1 + t248))) = false := beq_eq_false_iff_ne.mpr c17
     have c17b1 : ((t244.length : Int) != (wrap64 (1 + t248))) = true := bne_iff_ne.mpr c17
     exact absurd (Option.some.inj H) (by rw [HT.out]; decide)
   rw [if_pos c17] at H
   have c17b0 : ((t244.length : Int) == (wrap64 (1 + t248))) = true := beq_iff_eq.mpr c17
   have c17b1 : ((t244.length : Int) != (wrap64 (1 + t248))) = false := bne_eq_false_iff_eq.mpr c17
   clear c17
   by_cases c18 : 1 ≤ (t244.length : Int)
   rotate_left
   · rw [if_neg c18] at H
     exact absurd H (by simp)
   rw [if_pos c18] at H
   have c18b0 := eq_true c18
   have c18b1 : decide (1 ≤ (t244.length : Int)) = true := decide_eq_true c18
   clear c18
   obtain ⟨y249, hy249⟩ : ∃ y_ : List Int, y_ = (t244.drop 1) := ⟨_, rfl⟩
   replace H : (if x5_1.size + (strOfNums y249).size ≤ 9223372036854775807 then (handshakerlaw09_ShapeJoins.l0 k1 t231 (x5_1 ++ (strOfNums y249)) l0 (l0.length : Int) (wrap64 (x34_1 + 1))) else (none)) = some r := rh_ hy249 H
   have Ny249 := ak hy249
   clear hy249
   by_cases c19 : x5_1.size + (strOfNums y249).size ≤ 9223372036854775807
   rotate_left
   · rw [if_neg c19] at H
     exact absurd H (by simp)
   rw [if_pos c19] at H
   have c19b0 := eq_true c19
   have c19b1 : decide (x5_1.size + (strOfNums y249).size ≤ 9223372036854775807) = true := decide_eq_true c19
   try have c19b2 : (9223372036854775807 < x5_1.size + (strOfNums y249).size) = False := eq_false (Nat.not_lt.2 c19)
   have H' := ak H
   clear H
   have p240 : 0 ≤ (x34_1 : Int) := oda_
   have q240 : x34_1 < (l0.length : Int) := oda_
   obtain ⟨ad240, A240_0, c240_0, e240, hx240_0, hl240_0, hi240_0⟩ := at_L5 (Kd.V_reads' HO_32.out).2.2 x34_1 p240 q240
   cases e240
   obtain ⟨ce240, hce240, hMe240, hcc240⟩ := Kd.V_get HO_32.out [] x34_1 p240 (by first | exact q240 | exact oda_ | (have e_ := (Kd.V_reads' HO_32.out).1; omega))
   obtain ⟨ua240_0, uc240_0, rfl, ul240_0, ge240_0⟩ := Kd.FK_slice_open hMe240
   have hv240_0 := hcc240 0 _ rfl
   rw [Nat.add_zero, show ((Kd.slice 53 k53)).sz = 1 from rfl, Nat.mul_one] at hv240_0
   replace hv240_0 := Option.some.inj (hv240_0.symm.trans hx240_0)
   injection hv240_0 with hva_ hvn_ hvc_
   rw [hva_] at ge240_0
   rw [hvc_] at ul240_0
   have HL240_0 := ak (show Kd.V k53 53 _ w.heap.size _ _ (rd_L5 l0 x34_1) from Kd.V_mk ul240_0 ge240_0)
   clear hva_ hvn_ hvc_ ge240_0 ul240_0
   clear hcc240 hce240
   have HR240_0 := ak hi240_0
   have HC240_0 := ak hl240_0
   clear hi240_0 hl240_0
   replace p240 := eq_true p240
   replace q240 := eq_true q240
   go_wp2_with (first | ((with_reducible refine gate_dst (N := 40) rfl ?_); (try (refine gate_guard (by rfl) ?_; dsimp only)); refine Kd.N_lit (Kd.slice 53 k53) _ 33 ?hg (N' := 40) ?hd (xs := ([rd_L5 l0 x34_1] : List (List (S53)))) (inner := [.slice A240_0 (rd_L5 l0 x34_1).length c240_0]) (ok := (fun k_ => (P0_ k_ ∨ w.heap.size ≤ k_) ∧ some k_ ≠ (v233 : Value).ownBlock)) (okp := (fun k_ => (P0_ k_ ∨ w.heap.size ≤ k_) ∧ some k_ ≠ (v233 : Value).ownBlock)) ?hr ?hp (fun _ hk => hk) ((show ∀ k_, wr.heap.size ≤ k_ → (fun k_ => (P0_ k_ ∨ w.heap.size ≤ k_) ∧ some k_ ≠ (v233 : Value).ownBlock) k_ from fun k_ hk => ⟨(.inr (Nat.le_trans bsz_ hk)), Kd.fresh' (Kd.R_lt (rq_ HO_3)) k_ hk⟩) _ (Nat.le_refl _)) (Below.refl _ _) (Nat.le_refl _) (by simp) ?_; (case hd => rfl); (case hg => rfl); (case hr => first | (go_simp; done) | (go_simp; rfl)); (case hp => exact (Reps.one (show Kd.FK (Kd.slice 53 k53) _ _ (rd_L5 l0 x34_1) [.slice A240_0 (rd_L5 l0 x34_1).length c240_0] from (Kd.FK_slice_mk (Kd.V_reads' (Kd.V_mono (ok' := (fun k_ => (P0_ k_ ∨ w.heap.size ≤ k_) ∧ some k_ ≠ (v233 : Value).ownBlock)) (HL240_0.out) (fun k_ hk => ⟨hk.1, hk.2⟩))).2.1 (Kd.V_F (Kd.V_mono (ok' := (fun k_ => (P0_ k_ ∨ w.heap.size ≤ k_) ∧ some k_ ≠ (v233 : Value).ownBlock)) (HL240_0.out) (fun k_ hk => ⟨hk.1, hk.2⟩))))) (Reps.none _ _))); intro v242 w20 ho21 hb hg_ hnew_; clear hg_ hnew_; (first | rw [← Ny241.out] at ho21 | (simp only [Int.reduceToNat] at ho21; rw [← Ny241.out] at ho21)); replace HO_3 := rb_ HO_3 hb; replace HO_32 := ak (Kd.V_elder' (vq_ HO_32) (Kd.N_base ho21) hb); replace HL240_0 := ak (Kd.V_elder' (vq_ HL240_0) (Kd.N_base ho21) hb); replace HO243 := ak (Kd.N_lower ho21 bsz_); replace HR240_0 := ak (Kd.V_reads' HL240_0.out).2.2; replace HB := ak (bst_ hb); clear hb ho21; obtain ⟨Ao22, co22, eo22⟩ := Kd.N_slice HO243.out; subst eo22) | ((with_reducible refine gate_callee (f := 11) rfl ?_); refine goesL_ (some 41) rfl rfl Try.func11 (by kernel_rfl) rfl #[.slice Ao22 y241.length co22] rfl mp_ ?_; (with_reducible refine (shape_Write.calls k1 _ _ y241 t244 t245 _ ?side1 ?side2 A14.out).mono ?_); (case side1 => exact nc_ HO243); (case side2 => exact (Kd.N_reads' HO243.out).2.1); rintro e w23 ⟨v246, rfl, ho0, hb⟩; refine ⟨_, rfl, ?_⟩; replace HO_32 := ak (Kd.V_elder' (vq_ HO_32) (Kd.R_base ho0) hb); replace HL240_0 := ak (Kd.V_elder' (vq_ HL240_0) (Kd.R_base ho0) hb); replace HO243 := ak (Kd.N_elder' (nq_ HO243) (Kd.R_base ho0) hb); replace HO247 := ak (Kd.R_lower (Kd.R_new' (Kd.R_newM (M := fun k_ => (w.heap.size ≤ k_)) ho0 bsz_ (fun k_ h_ => h_)) (Kd.R_lt (rq_ HO_3))) bsz_); replace HO_3 := ak (Kd.R_elder' (rq_ HO_3) (Kd.R_base ho0) hb); replace HR240_0 := ak (Kd.V_reads' HL240_0.out).2.2; replace HB := ak (bst_ hb); (try clear hb); (try clear ho0); obtain ⟨Ao24, co24, eo24⟩ := Kd.R_slice HO247.out; subst eo24) | (go_at_call 17; (with_reducible refine (shape_Size.calls k1 _ _ (rd_L5 l0 x34_1) t248 _ ?side1 ?side2 A16.out).mono ?_); (case side1 => repeat (first | exact (Kd.V_reads' HL240_0.out).2.2 | exact cp_ HR240_0 | with_reducible first | refine Kd.C_alloc ?_ _ | refine Kd.C_drewN ?_ _ | refine Kd.C_drew ?_)); (case side2 => exact HC240_0.out); rintro e w25 ⟨rfl, hb⟩; replace HO_3 := rb_ HO_3 hb; replace HO_32 := vb_ HO_32 hb; replace HL240_0 := vb_ HL240_0 hb; replace HO243 := nb_ HO243 hb; replace HO247 := rb_ HO247 hb; replace HR240_0 := ak (Kd.V_reads' HL240_0.out).2.2; replace HB := ak (bst_ hb); (try clear hb); have q26 : (1 : Int) ≤ ((t244.length : Int) : Int) := oda_; obtain ⟨i026, hi026, _, hsz26, _⟩ := info_parts info5; have hroom26 : t244.length ≤ co24 := (Kd.R_reads' HO247.out).2.1; have hC26 : Kd.F (Kd.int .u8) _ _ Ao24 t244.length t244 := (Kd.V_at (base := w.heap.size) (Kd.V_mono (ok' := (fun k_ => ((((P0_ k_ ∨ w.heap.size ≤ k_) ∧ True) ∧ some k_ ≠ (v233 : Value).ownBlock) ∧ some k_ ≠ (.slice Ao22 y241.length co22 : Value).ownBlock))) (Kd.R_V (Kd.R_apart' (HO247.out) (Kd.N_typed HO243.out) (by decide))) (fun k_ hk => ⟨⟨⟨(.inr (hk.1.1.1)), trivial⟩, hk.1.2⟩, hk.2⟩))).2.2; have hcut26 := cut_from (P := Try.prog) 25 5 .i64 Try.underlying25 hi026 1 hsz26 Ao24 t244.length co24 1 (by omega) q26; have hr26 := Kd.F_cut (m := (1 : Int).toNat) (c := co24) hC26 (by omega) hroom26; obtain ⟨A26, hA26⟩ : ∃ A1, A1 = (if co24 = (1 : Int).toNat then Ao24 else (Ao24 : Option Addr).map (·.add ((1 : Int).toNat * 1))) := ⟨_, rfl⟩; obtain ⟨c26, hc26⟩ : ∃ c1, c1 = co24 - (1 : Int).toNat := ⟨_, rfl⟩; have hy26 : y249.length = t244.length - (1 : Int).toNat := (by rw [Ny249.out, List.length_drop] <;> omega); rw [show (t244).drop (1 : Int).toNat = y249 from Ny249.out.symm] at hr26; replace hr26 : Kd.F (Kd.int .u8) _ _ A26 y249.length y249 := (by rw [hA26]; exact hr26); rw [← hy26, ← hA26, ← hc26] at hcut26; have HO253 := ak (show Kd.V (Kd.int .u8) 5 _ w.heap.size _ (.slice A26 y249.length c26) y249 from Kd.V_mk (by rw [hy26, hc26]; exact Nat.sub_le_sub_right hroom26 _) hr26); have HC253 := ak (show y249.length ≤ c26 from by rw [hy26, hc26]; exact Nat.sub_le_sub_right hroom26 _); clear hr26 hC26 hroom26 hi026 hsz26 hc26; have KY26 := ak hy26; have KA26 := ak hA26; clear hy26 hA26; replace q26 := eq_true q26; have hcv27 := Kd.C_string (P := Try.prog) (c := c26) Try.underlying25 Try.underlying5 Try.underlying9 (Kd.V_reads' HO253.out).2.2))
   go_roundg k1
   case measure => have := HK1.out; omega
   case rel => exact ⟨(x5_1 ++ (strOfNums y249)), (wrap64 (x34_1 + 1)), (by first | rfl | (simp; done) | (simp [*]; done)), (by first | rfl | (simp; done) | (simp [*]; done)), H', ⟨by have := HK1.out; omega⟩, ⟨Kd.R_mono (rq_ HO_3) (fun _ hk => hk.1)⟩, ⟨Kd.V_mono (vq_ HO_32) (fun _ hk => ⟨hk.1.1.1, hk.1.1.2⟩)⟩, ⟨bsv_⟩⟩

/-- THE ONE PURE STATEMENT of handshakerlaw09_ShapeJoins. -/
def handshakerlaw09_ShapeJoins.Pure : Prop := ∀ (l0 : List (List (S53))), l0.length ≤ maxLen → l0.length * 24 ≤ 140737488351232 → (∀ y ∈ l0, (y.length ≤ maxLen ∧ ∀ z ∈ y, wfS53 z)) → ∃ k, handshakerlaw09_ShapeJoins.f k l0 = some true

end Go.Proofs.Ytpeblomhhofhkaa.H
