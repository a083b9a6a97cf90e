-- PRINTED by print.py (a twelfth state) out of the translation. Not trusted: Lean checks it.
import Derived.Test.YtpeblomhhofhkaaHShI
import Derived.Test.YtpeblomhhofhkaaHx0
import Derived.Test.YtpeblomhhofhkaaHx5
import Derived.Test.YtpeblomhhofhkaaHx8
namespace Go.Proofs.Ytpeblomhhofhkaa.H
open Go.Proofs.Ytpeblomhhofhkaa.Ho
open Go.RowKit Go.Proofs.YtpeblomhhofhkaaW.PrintWords Go.Proofs.YtpeblomhhofhkaaW.PrintLast Go.Proofs.YtpeblomhhofhkaaW.PrintMore
attribute [local go_sem] max2_int min2_int max_two min_two max_three min_three max_four min_four   -- for this text's walks alone
set_option linter.unusedVariables false
set_option linter.unusedSimpArgs false

/-! ### handshakerlaw09_ShapeSizes: function 8 -/
mutual
def handshakerlaw09_ShapeSizes.j0 : Nat → List (S53) → List (S53) → Bool → Option (Bool)
 | 0, _, _, _ => none
 | k + 1, x0, x1, x13 => if x13 = true then ((handshakerlaw09_awake.f k).bind fun t206 => (some t206)) else ((some (([] : List (S53)) : List (S53))).bind fun y207 => (if y207.length + x0.length < 2932031007402 then ((some (y207 ++ x0 : List (S53))).bind fun y210 => (if y210.length + x1.length < 2932031007402 then ((some (y210 ++ x1 : List (S53))).bind fun y213 => ((code_Check.f k x0).bind fun t216 => (if t216 = 0 then ((code_Check.f k x1).bind fun t219 => (if t219 = 0 then ((code_Check.f k y213).bind fun t220 => (handshakerlaw09_ShapeSizes.j1 k x0 x1 y213 (t220 != 0))) else (handshakerlaw09_ShapeSizes.j1 k x0 x1 y213 true))) else ((shape_Size.f k x0).bind fun t217 => (if t217 = 0 then ((handshakerlaw09_awake.f k).bind fun t218 => (some t218)) else (some false)))))) else (none))) else (none)))
def handshakerlaw09_ShapeSizes.j1 : Nat → List (S53) → List (S53) → List (S53) → Bool → Option (Bool)
 | 0, _, _, _, _ => none
 | k + 1, x0, x1, x5, x36 => if x36 = true then ((handshakerlaw09_awake.f k).bind fun t221 => (some t221)) else ((shape_Size.f k x5).bind fun t222 => ((shape_Size.f k x0).bind fun t223 => ((shape_Size.f k x1).bind fun t224 => (if t222 = (wrap64 ((wrap64 (t223 + t224)) - 1)) then ((shape_Size.f k x0).bind fun t225 => (if t225 ≥ (wrap64 (1 + (wrap64 (4 * (x0.length : Int))))) then ((handshakerlaw09_awake.f k).bind fun t226 => (some t226)) else (some false))) else (some false)))))
end
def handshakerlaw09_ShapeSizes.f (k : Nat) (l0 : List (S53)) (l1 : List (S53)) : Option (Bool) := (handshakerlaw08_Small.f k l0).bind fun t204 => (if t204 < 0 then (handshakerlaw09_ShapeSizes.j0 k l0 l1 true) else ((handshakerlaw08_Small.f k l1).bind fun t205 => (handshakerlaw09_ShapeSizes.j0 k l0 l1 (decide (t205 < 0)))))
theorem handshakerlaw09_ShapeSizes.mono_l : ∀ k, (∀ y0 y1 y2, LeO (handshakerlaw09_ShapeSizes.j0 k y0 y1 y2) (handshakerlaw09_ShapeSizes.j0 (k + 1) y0 y1 y2)) ∧ (∀ y0 y1 y2 y3, LeO (handshakerlaw09_ShapeSizes.j1 k y0 y1 y2 y3) (handshakerlaw09_ShapeSizes.j1 (k + 1) y0 y1 y2 y3))
 | 0 => ⟨fun _ _ _ r h => by simp [handshakerlaw09_ShapeSizes.j0] at h, fun _ _ _ _ r h => by simp [handshakerlaw09_ShapeSizes.j1] at h⟩
 | k + 1 => by
  obtain ⟨ih0, ih1⟩ := handshakerlaw09_ShapeSizes.mono_l k
  refine ⟨?_, ?_⟩
  all_goals intros
  all_goals first | unfold handshakerlaw09_ShapeSizes.j0 | unfold handshakerlaw09_ShapeSizes.j1
  all_goals repeat' first | exact LeO.refl _ | exact LeO.none _ | (with_reducible apply ih0) | (with_reducible apply ih1) | (with_reducible apply code_Check.mono) | (with_reducible apply handshakerlaw08_Small.mono) | (with_reducible apply handshakerlaw09_awake.mono) | (with_reducible apply shape_Size.mono) | (with_reducible refine LeO.ite ?_ ?_) | (with_reducible refine LeO.bind ?_ (fun _ => ?_)) | apply ih0 | apply ih1 | apply code_Check.mono | apply handshakerlaw08_Small.mono | apply handshakerlaw09_awake.mono | apply shape_Size.mono | refine LeO.ite ?_ ?_ | refine LeO.bind ?_ (fun _ => ?_)
theorem handshakerlaw09_ShapeSizes.mono : ∀ a0 a1 k, LeO (handshakerlaw09_ShapeSizes.f k a0 a1) (handshakerlaw09_ShapeSizes.f (k + 1) a0 a1) := by
 intro a0 a1 k
 obtain ⟨ih0, ih1⟩ := handshakerlaw09_ShapeSizes.mono_l k
 unfold handshakerlaw09_ShapeSizes.f
 repeat' first
  | (with_reducible exact ih0 _ _ _)
  | (with_reducible exact ih1 _ _ _ _)
  | (with_reducible exact code_Check.mono _ _)
  | (with_reducible exact handshakerlaw08_Small.mono _ _)
  | (with_reducible exact handshakerlaw09_awake.mono _)
  | (with_reducible exact shape_Size.mono _ _)
  | (with_reducible exact LeO.refl _)
  | (with_reducible exact LeO.none _)
  | (with_reducible refine LeO.ite ?_ ?_)
  | (with_reducible refine LeO.bind ?_ (fun _ => ?_))
  | exact ih0 _ _ _
  | exact ih1 _ _ _ _
  | exact code_Check.mono _ _
  | exact handshakerlaw08_Small.mono _ _
  | exact handshakerlaw09_awake.mono _
  | exact shape_Size.mono _ _
  | exact LeO.none _
  | refine LeO.ite ?_ ?_
  | refine LeO.bind ?_ (fun _ => ?_)
set_option maxHeartbeats 8000000 in
set_option maxRecDepth 100000 in
theorem handshakerlaw09_ShapeSizes.calls (k : Nat) (P0_ : Nat → Prop) (A0 : Option Addr) (c0 : Nat) (l0 : List (S53)) (P1_ : Nat → Prop) (A1 : Option Addr) (c1 : Nat) (l1 : List (S53)) (r : Bool) (w : World) (HT : Aside0 (r = true)) (hs0 : Kd.V k53 53 w w.heap.size (fun k_ => P0_ k_) (.slice A0 l0.length c0) l0) (hs1 : Kd.V k53 53 w w.heap.size (fun k_ => P1_ k_) (.slice A1 l1.length c1) l1) (h : handshakerlaw09_ShapeSizes.f k l0 l1 = some r) :
 Calls Try.prog 8 #[.slice A0 l0.length c0, .slice A1 l1.length c1] w fun e w' => e = .returned (.bool r) ∧ Below w.heap.size w w' := by
 have HO0 := ak (show Kd.V k53 53 w w.heap.size (fun k_ => ((P0_ k_ ∨ P1_ k_) ∨ w.heap.size ≤ k_)) (.slice A0 l0.length c0) l0 from Kd.V_mono hs0 (fun k_ hk => .inl (.inl hk)))
 have HO1 := ak (show Kd.V k53 53 w w.heap.size (fun k_ => ((P0_ k_ ∨ P1_ k_) ∨ w.heap.size ≤ k_)) (.slice A1 l1.length c1) l1 from Kd.V_mono hs1 (fun k_ hk => .inl (.inr hk)))
 have HB := ak (Below.refl w.heap.size w)
 have H : ((handshakerlaw08_Small.f k l0).bind fun t204 => (if t204 < 0 then (handshakerlaw09_ShapeSizes.j0 k l0 l1 true) else ((handshakerlaw08_Small.f k l1).bind fun t205 => (handshakerlaw09_ShapeSizes.j0 k l0 l1 (decide (t205 < 0)))))) = some r := h
 clear h
 have HC3 := ak H
 clear H
 go_enter Try.func8, Try.ntmps8
 go_upto_region 1 with (fail)
 go_cut [13] (fun v13 wc => ∃ (kq : Nat) (x13_2 : Bool), v13 = .bool x13_2 ∧ Aside0 (handshakerlaw09_ShapeSizes.j0 kq l0 l1 x13_2 = some r) ∧ Aside0 (kq ≤ k) ∧ Aside0 (Kd.V k53 53 wc w.heap.size (fun k_ => ((P0_ k_ ∨ P1_ k_) ∨ w.heap.size ≤ k_)) (.slice A0 l0.length c0) l0) ∧ Aside0 (Kd.V k53 53 wc w.heap.size (fun k_ => ((P0_ k_ ∨ P1_ k_) ∨ w.heap.size ≤ k_)) (.slice A1 l1.length c1) l1) ∧ Aside0 (Below w.heap.size w wc))
 case first =>
  have H := HC3.out
  clear HC3
  obtain ⟨t204, A4, H⟩ := bd_ H
  by_cases c5 : t204 < 0
  · rw [if_pos c5] at H
    have c5b0 : decide (t204 < 0) = true := decide_eq_true c5
    clear c5
    (first | rw [c5b0] | (simp only [i64_w, i32_w]; rw [c5b0]) | skip)
    have H' := ak H
    clear H
    go_wp2_with (first | ((with_reducible refine gate_callee (f := 22) rfl ?_); refine goesL_ (some 7) rfl rfl Try.func22 (by kernel_rfl) rfl #[.slice A0 l0.length c0] rfl mp_ ?_; (with_reducible refine (handshakerlaw08_Small.calls k _ _ l0 t204 _ ?side1 ?side2 A4.out).mono ?_); (case side1 => exact vc_ HO0); (case side2 => exact vl_ HO0); rintro e w6 ⟨rfl, hb⟩; refine ⟨_, rfl, ?_⟩; replace HO0 := vb_ HO0 hb; replace HO1 := vb_ HO1 hb; replace HB := ak (bst_ hb); (try clear hb)))
    go_meet
    case rel => exact ⟨_, (true), (by first | rfl | (simp; done) | (simp [*]; done)), H', ⟨by first | omega | exact Nat.le_refl _⟩, ⟨vq_ HO0⟩, ⟨vq_ HO1⟩, ⟨bsv_⟩⟩
  rw [if_neg c5] at H
  have c5b0 : decide (t204 < 0) = false := decide_eq_false c5
  clear c5
  (first | rw [c5b0] | (simp only [i64_w, i32_w]; rw [c5b0]) | skip)
  obtain ⟨t205, A7, H⟩ := bd_ H
  have H' := ak H
  clear H
  go_wp2_with (first | ((with_reducible refine gate_callee (f := 22) rfl ?_); refine goesL_ (some 7) rfl rfl Try.func22 (by kernel_rfl) rfl #[.slice A0 l0.length c0] rfl mp_ ?_; (with_reducible refine (handshakerlaw08_Small.calls k _ _ l0 t204 _ ?side1 ?side2 A4.out).mono ?_); (case side1 => exact vc_ HO0); (case side2 => exact vl_ HO0); rintro e w8 ⟨rfl, hb⟩; refine ⟨_, rfl, ?_⟩; replace HO0 := vb_ HO0 hb; replace HO1 := vb_ HO1 hb; replace HB := ak (bst_ hb); (try clear hb)) | (go_at_call 22; (with_reducible refine (handshakerlaw08_Small.calls k _ _ l1 t205 _ ?side1 ?side2 A7.out).mono ?_); (case side1 => exact vc_ HO1); (case side2 => exact vl_ HO1); rintro e w9 ⟨rfl, hb⟩; replace HO0 := vb_ HO0 hb; replace HO1 := vb_ HO1 hb; replace HB := ak (bst_ hb); (try clear hb)))
  go_meet
  case rel => exact ⟨_, (decide (t205 < 0)), (by first | rfl | (simp; done) | (simp [*]; done)), H', ⟨by first | omega | exact Nat.le_refl _⟩, ⟨vq_ HO0⟩, ⟨vq_ HO1⟩, ⟨bsv_⟩⟩
 case rest =>
  clear HC3
  try clear c1
  try clear c2
  try clear p2
  try clear c5
  try clear c5b0
  try clear c8
  obtain ⟨kq, x13_2, rfl, HA, HJ2, HO_0, HO_1, HB⟩ := hcut
  cases kq with
  | zero => exact absurd HA.out (by simp [handshakerlaw09_ShapeSizes.j0])
  | succ kj2 =>
   have H := HA.out
   clear HA
   simp only [handshakerlaw09_ShapeSizes.j0] at H
   by_cases c10 : x13_2 = true
   · subst c10
     rw [if_pos rfl] at H
     obtain ⟨t206, A11, H⟩ := bd_ H
     obtain rfl := Option.some.inj H
     go_wp2_with (first | ((with_reducible refine gate_callee (f := 10) rfl ?_); refine goesL_ (some 14) rfl rfl Try.func10 (by kernel_rfl) rfl #[] rfl mp_ ?_; (with_reducible refine (handshakerlaw09_awake.calls kj2  t206 _ A11.out).mono ?_); rintro e w12 ⟨rfl, hb⟩; refine ⟨_, rfl, ?_⟩; replace HO_0 := vb_ HO_0 hb; replace HO_1 := vb_ HO_1 hb; replace HB := ak (bst_ hb); (try clear hb)))
     go_ret
     exact ⟨by first | rfl | (simp [errW_none, errW_some] <;> rfl) | (simp [*, errW_none, errW_some] <;> rfl), bsv_⟩
   replace c10 := Bool.eq_false_iff.mpr c10
   subst c10
   rw [if_neg (show ¬ (false = true) by decide)] at H
   obtain ⟨y207, hy207⟩ : ∃ y_ : List (S53), y_ = (([] : List (S53))) := ⟨_, rfl⟩
   replace H : (if y207.length + l0.length < 2932031007402 then ((some (y207 ++ l0 : List (S53))).bind fun y210 => (if y210.length + l1.length < 2932031007402 then ((some (y210 ++ l1 : List (S53))).bind fun y213 => ((code_Check.f kj2 l0).bind fun t216 => (if t216 = 0 then ((code_Check.f kj2 l1).bind fun t219 => (if t219 = 0 then ((code_Check.f kj2 y213).bind fun t220 => (handshakerlaw09_ShapeSizes.j1 kj2 l0 l1 y213 (t220 != 0))) else (handshakerlaw09_ShapeSizes.j1 kj2 l0 l1 y213 true))) else ((shape_Size.f kj2 l0).bind fun t217 => (if t217 = 0 then ((handshakerlaw09_awake.f kj2).bind fun t218 => (some t218)) else (some false)))))) else (none))) else (none)) = some r := rh_ hy207 H
   have Ny207 := ak hy207
   clear hy207
   by_cases c13 : y207.length + l0.length < 2932031007402
   rotate_left
   · rw [if_neg c13] at H
     exact absurd H (by simp)
   rw [if_pos c13] at H
   have LMc13 := ak c13
   clear c13
   obtain ⟨y210, hy210⟩ : ∃ y_ : List (S53), y_ = (y207 ++ l0) := ⟨_, rfl⟩
   replace H : (if y210.length + l1.length < 2932031007402 then ((some (y210 ++ l1 : List (S53))).bind fun y213 => ((code_Check.f kj2 l0).bind fun t216 => (if t216 = 0 then ((code_Check.f kj2 l1).bind fun t219 => (if t219 = 0 then ((code_Check.f kj2 y213).bind fun t220 => (handshakerlaw09_ShapeSizes.j1 kj2 l0 l1 y213 (t220 != 0))) else (handshakerlaw09_ShapeSizes.j1 kj2 l0 l1 y213 true))) else ((shape_Size.f kj2 l0).bind fun t217 => (if t217 = 0 then ((handshakerlaw09_awake.f kj2).bind fun t218 => (some t218)) else (some false)))))) else (none)) = some r := rh_ hy210 H
   have Ny210 := ak hy210
   clear hy210
   by_cases c14 : y210.length + l1.length < 2932031007402
   rotate_left
   · rw [if_neg c14] at H
     exact absurd H (by simp)
   rw [if_pos c14] at H
   have LMc14 := ak c14
   clear c14
   obtain ⟨y213, hy213⟩ : ∃ y_ : List (S53), y_ = (y210 ++ l1) := ⟨_, rfl⟩
   replace H : ((code_Check.f kj2 l0).bind fun t216 => (if t216 = 0 then ((code_Check.f kj2 l1).bind fun t219 => (if t219 = 0 then ((code_Check.f kj2 y213).bind fun t220 => (handshakerlaw09_ShapeSizes.j1 kj2 l0 l1 y213 (t220 != 0))) else (handshakerlaw09_ShapeSizes.j1 kj2 l0 l1 y213 true))) else ((shape_Size.f kj2 l0).bind fun t217 => (if t217 = 0 then ((handshakerlaw09_awake.f kj2).bind fun t218 => (some t218)) else (some false))))) = some r := rh_ hy213 H
   have Ny213 := ak hy213
   clear hy213
   obtain ⟨t216, A15, H⟩ := bd_ H
   by_cases c16 : t216 = 0
   rotate_left
   · rw [if_neg c16] at H
     have c16b0 : (t216 == 0) = false := beq_eq_false_iff_ne.mpr c16
     have c16b1 : (t216 != 0) = true := bne_iff_ne.mpr c16
     obtain ⟨t217, A46, H⟩ := bd_ H
     by_cases c47 : t217 = 0
     rotate_left
     · rw [if_neg c47] at H
       have c47b0 : (t217 == 0) = false := beq_eq_false_iff_ne.mpr c47
       have c47b1 : (t217 != 0) = true := bne_iff_ne.mpr c47
       exact absurd (Option.some.inj H) (by rw [HT.out]; decide)
     rw [if_pos c47] at H
     have c47b0 : (t217 == 0) = true := beq_iff_eq.mpr c47
     have c47b1 : (t217 != 0) = false := bne_eq_false_iff_eq.mpr c47
     clear c47
     obtain ⟨t218, A48, H⟩ := bd_ H
     obtain rfl := Option.some.inj H
     go_wp2_with (first | ((with_reducible refine gate_dst (N := 15) rfl ?_); (try (refine gate_guard (by rfl) ?_; dsimp only)); refine Kd.N_lit k53 _ 53 ?hg (N' := 15) ?hd (xs := ([] : List (S53))) (inner := []) (ok := (fun k_ => ((P0_ k_ ∨ P1_ k_) ∨ w.heap.size ≤ k_))) (okp := (fun k_ => ((P0_ k_ ∨ P1_ k_) ∨ w.heap.size ≤ k_))) ?hr ?hp (fun _ hk => hk) ((show ∀ k_, wc.heap.size ≤ k_ → (fun k_ => ((P0_ k_ ∨ P1_ k_) ∨ w.heap.size ≤ k_)) k_ from fun k_ hk => (.inr (Nat.le_trans bsz_ hk))) _ (Nat.le_refl _)) (Below.refl _ _) (Nat.le_refl _) (by simp) ?_; (case hd => rfl); (case hg => rfl); (case hr => first | (go_simp; done) | (go_simp; rfl)); (case hp => exact (Reps.none _ _)); intro v208 w49 ho50 hb hg_ hnew_; clear hg_ hnew_; (first | rw [← Ny207.out] at ho50 | (simp only [Int.reduceToNat] at ho50; rw [← Ny207.out] at ho50)); replace HO_0 := ak (Kd.V_elder' (vq_ HO_0) (Kd.N_base ho50) hb); replace HO_1 := ak (Kd.V_elder' (vq_ HO_1) (Kd.N_base ho50) hb); replace HO209 := ak (Kd.N_lower ho50 bsz_); replace HB := ak (bst_ hb); clear hb ho50) | ((with_reducible refine gate_builtin (b := .append) (xs := #[.tmp 15, .tmp 16]) rfl ?_); (try (refine gate_guard (by rfl) ?_; dsimp only)); at_builtin; refine Kd.N_append_rows k53 (w0 := w) w.heap.size rfl (.tmp 15) (.tmp 16) 33 53 (.agg #[(.int .i64 0), (.int .i64 0), (.int .i64 0), (.slice none 0 0)]) 48 rfl Try.underlying33 info53 rfl (by decide) (by omega) v208 y207 l0 _ _ _ (fun k_ => ((P0_ k_ ∨ P1_ k_) ∨ w.heap.size ≤ k_)) (fun k_ => ((fun k_ => ((P0_ k_ ∨ P1_ k_) ∨ w.heap.size ≤ k_))) k_ ∧ some k_ ≠ (v208 : Value).ownBlock) rfl rfl ?aO ?aR (fun _ hk => hk) ?aF ?aB ?aS ?aL ?_; (case aR => exact (by skip; exact Kd.V_F (e := 0) (base := 0) (Kd.V_mono (ok' := (fun k_ => ((fun k_ => ((P0_ k_ ∨ P1_ k_) ∨ w.heap.size ≤ k_))) k_ ∧ some k_ ≠ (v208 : Value).ownBlock)) (HO_0.out) (fun k_ hk => ⟨hk.1, hk.2⟩)))); (case aB => exact bsv_); (case aF => exact (fun k_ hk => (.inr (Nat.le_trans bsz_ hk)))); (case aO => exact (nq_ HO209)); (case aS => exact bsz_); (case aL => have := LMc13.out; omega); intro v211 w51 ho hb hg hat; rw [← Ny210.out] at ho; replace HO_0 := ak (Kd.V_afterv (ok := (fun k_ => ((P0_ k_ ∨ P1_ k_) ∨ w.heap.size ≤ k_))) (vq_ HO_0) hg hat); replace HO_1 := ak (Kd.V_afterv (ok := (fun k_ => ((P0_ k_ ∨ P1_ k_) ∨ w.heap.size ≤ k_))) (vq_ HO_1) hg hat); replace HB := ak (hb); replace HO212 := ak (ho); clear HO209; clear ho hb hg hat) | ((with_reducible refine gate_builtin (b := .append) (xs := #[.tmp 17, .tmp 18]) rfl ?_); (try (refine gate_guard (by rfl) ?_; dsimp only)); at_builtin; refine Kd.N_append_rows k53 (w0 := w) w.heap.size rfl (.tmp 17) (.tmp 18) 33 53 (.agg #[(.int .i64 0), (.int .i64 0), (.int .i64 0), (.slice none 0 0)]) 48 rfl Try.underlying33 info53 rfl (by decide) (by omega) v211 y210 l1 _ _ _ (fun k_ => ((P0_ k_ ∨ P1_ k_) ∨ w.heap.size ≤ k_)) (fun k_ => ((fun k_ => ((P0_ k_ ∨ P1_ k_) ∨ w.heap.size ≤ k_))) k_ ∧ some k_ ≠ (v211 : Value).ownBlock) rfl rfl ?aO ?aR (fun _ hk => hk) ?aF ?aB ?aS ?aL ?_; (case aR => exact (by skip; exact Kd.V_F (e := 0) (base := 0) (Kd.V_mono (ok' := (fun k_ => ((fun k_ => ((P0_ k_ ∨ P1_ k_) ∨ w.heap.size ≤ k_))) k_ ∧ some k_ ≠ (v211 : Value).ownBlock)) (HO_1.out) (fun k_ hk => ⟨hk.1, hk.2⟩)))); (case aB => exact bsv_); (case aF => exact (fun k_ hk => (.inr (Nat.le_trans bsz_ hk)))); (case aO => exact (nq_ HO212)); (case aS => exact bsz_); (case aL => have := LMc14.out; omega); intro v214 w52 ho hb hg hat; rw [← Ny213.out] at ho; replace HO_0 := ak (Kd.V_afterv (ok := (fun k_ => ((P0_ k_ ∨ P1_ k_) ∨ w.heap.size ≤ k_))) (vq_ HO_0) hg hat); replace HO_1 := ak (Kd.V_afterv (ok := (fun k_ => ((P0_ k_ ∨ P1_ k_) ∨ w.heap.size ≤ k_))) (vq_ HO_1) hg hat); replace HB := ak (hb); replace HO215 := ak (ho); clear HO212; clear ho hb hg hat) | ((with_reducible refine gate_callee (f := 21) rfl ?_); refine goesL_ (some 21) rfl rfl Try.func21 (by kernel_rfl) rfl #[.slice A0 l0.length c0] rfl mp_ ?_; (with_reducible refine (code_Check.calls kj2 _ _ l0 t216 _ ?side1 ?side2 A15.out).mono ?_); (case side1 => exact vc_ HO_0); (case side2 => exact vl_ HO_0); rintro e w53 ⟨rfl, hb⟩; refine ⟨_, rfl, ?_⟩; replace HO_0 := vb_ HO_0 hb; replace HO_1 := vb_ HO_1 hb; replace HO215 := nb_ HO215 hb; replace HB := ak (bst_ hb); (try clear hb)) | ((with_reducible refine gate_callee (f := 17) rfl ?_); refine goesL_ (some 24) rfl rfl Try.func17 (by kernel_rfl) rfl #[.slice A0 l0.length c0] rfl mp_ ?_; (with_reducible refine (shape_Size.calls kj2 _ _ l0 t217 _ ?side1 ?side2 A46.out).mono ?_); (case side1 => exact vc_ HO_0); (case side2 => exact vl_ HO_0); rintro e w54 ⟨rfl, hb⟩; refine ⟨_, rfl, ?_⟩; replace HO_0 := vb_ HO_0 hb; replace HO_1 := vb_ HO_1 hb; replace HO215 := nb_ HO215 hb; replace HB := ak (bst_ hb); (try clear hb)) | (go_at_call 10; (with_reducible refine (handshakerlaw09_awake.calls kj2  t218 _ A48.out).mono ?_); rintro e w55 ⟨rfl, hb⟩; replace HO_0 := vb_ HO_0 hb; replace HO_1 := vb_ HO_1 hb; replace HO215 := nb_ HO215 hb; replace HB := ak (bst_ hb); (try clear hb)))
     go_ret
     exact ⟨by first | rfl | (simp [errW_none, errW_some] <;> rfl) | (simp [*, errW_none, errW_some] <;> rfl), bsv_⟩
   rw [if_pos c16] at H
   have c16b0 : (t216 == 0) = true := beq_iff_eq.mpr c16
   have c16b1 : (t216 != 0) = false := bne_eq_false_iff_eq.mpr c16
   clear c16
   have HC17 := ak H
   clear H
   go_upto_region 6 with (first | ((with_reducible refine gate_dst (N := 15) rfl ?_); (try (refine gate_guard (by rfl) ?_; dsimp only)); refine Kd.N_lit k53 _ 53 ?hg (N' := 15) ?hd (xs := ([] : List (S53))) (inner := []) (ok := (fun k_ => ((P0_ k_ ∨ P1_ k_) ∨ w.heap.size ≤ k_))) (okp := (fun k_ => ((P0_ k_ ∨ P1_ k_) ∨ w.heap.size ≤ k_))) ?hr ?hp (fun _ hk => hk) ((show ∀ k_, wc.heap.size ≤ k_ → (fun k_ => ((P0_ k_ ∨ P1_ k_) ∨ w.heap.size ≤ k_)) k_ from fun k_ hk => (.inr (Nat.le_trans bsz_ hk))) _ (Nat.le_refl _)) (Below.refl _ _) (Nat.le_refl _) (by simp) ?_; (case hd => rfl); (case hg => rfl); (case hr => first | (go_simp; done) | (go_simp; rfl)); (case hp => exact (Reps.none _ _)); intro v208 w18 ho19 hb hg_ hnew_; clear hg_ hnew_; (first | rw [← Ny207.out] at ho19 | (simp only [Int.reduceToNat] at ho19; rw [← Ny207.out] at ho19)); replace HO_0 := ak (Kd.V_elder' (vq_ HO_0) (Kd.N_base ho19) hb); replace HO_1 := ak (Kd.V_elder' (vq_ HO_1) (Kd.N_base ho19) hb); replace HO209 := ak (Kd.N_lower ho19 bsz_); replace HB := ak (bst_ hb); clear hb ho19) | ((with_reducible refine gate_builtin (b := .append) (xs := #[.tmp 15, .tmp 16]) rfl ?_); (try (refine gate_guard (by rfl) ?_; dsimp only)); at_builtin; refine Kd.N_append_rows k53 (w0 := w) w.heap.size rfl (.tmp 15) (.tmp 16) 33 53 (.agg #[(.int .i64 0), (.int .i64 0), (.int .i64 0), (.slice none 0 0)]) 48 rfl Try.underlying33 info53 rfl (by decide) (by omega) v208 y207 l0 _ _ _ (fun k_ => ((P0_ k_ ∨ P1_ k_) ∨ w.heap.size ≤ k_)) (fun k_ => ((fun k_ => ((P0_ k_ ∨ P1_ k_) ∨ w.heap.size ≤ k_))) k_ ∧ some k_ ≠ (v208 : Value).ownBlock) rfl rfl ?aO ?aR (fun _ hk => hk) ?aF ?aB ?aS ?aL ?_; (case aR => exact (by skip; exact Kd.V_F (e := 0) (base := 0) (Kd.V_mono (ok' := (fun k_ => ((fun k_ => ((P0_ k_ ∨ P1_ k_) ∨ w.heap.size ≤ k_))) k_ ∧ some k_ ≠ (v208 : Value).ownBlock)) (HO_0.out) (fun k_ hk => ⟨hk.1, hk.2⟩)))); (case aB => exact bsv_); (case aF => exact (fun k_ hk => (.inr (Nat.le_trans bsz_ hk)))); (case aO => exact (nq_ HO209)); (case aS => exact bsz_); (case aL => have := LMc13.out; omega); intro v211 w20 ho hb hg hat; rw [← Ny210.out] at ho; replace HO_0 := ak (Kd.V_afterv (ok := (fun k_ => ((P0_ k_ ∨ P1_ k_) ∨ w.heap.size ≤ k_))) (vq_ HO_0) hg hat); replace HO_1 := ak (Kd.V_afterv (ok := (fun k_ => ((P0_ k_ ∨ P1_ k_) ∨ w.heap.size ≤ k_))) (vq_ HO_1) hg hat); replace HB := ak (hb); replace HO212 := ak (ho); clear HO209; clear ho hb hg hat) | ((with_reducible refine gate_builtin (b := .append) (xs := #[.tmp 17, .tmp 18]) rfl ?_); (try (refine gate_guard (by rfl) ?_; dsimp only)); at_builtin; refine Kd.N_append_rows k53 (w0 := w) w.heap.size rfl (.tmp 17) (.tmp 18) 33 53 (.agg #[(.int .i64 0), (.int .i64 0), (.int .i64 0), (.slice none 0 0)]) 48 rfl Try.underlying33 info53 rfl (by decide) (by omega) v211 y210 l1 _ _ _ (fun k_ => ((P0_ k_ ∨ P1_ k_) ∨ w.heap.size ≤ k_)) (fun k_ => ((fun k_ => ((P0_ k_ ∨ P1_ k_) ∨ w.heap.size ≤ k_))) k_ ∧ some k_ ≠ (v211 : Value).ownBlock) rfl rfl ?aO ?aR (fun _ hk => hk) ?aF ?aB ?aS ?aL ?_; (case aR => exact (by skip; exact Kd.V_F (e := 0) (base := 0) (Kd.V_mono (ok' := (fun k_ => ((fun k_ => ((P0_ k_ ∨ P1_ k_) ∨ w.heap.size ≤ k_))) k_ ∧ some k_ ≠ (v211 : Value).ownBlock)) (HO_1.out) (fun k_ hk => ⟨hk.1, hk.2⟩)))); (case aB => exact bsv_); (case aF => exact (fun k_ hk => (.inr (Nat.le_trans bsz_ hk)))); (case aO => exact (nq_ HO212)); (case aS => exact bsz_); (case aL => have := LMc14.out; omega); intro v214 w21 ho hb hg hat; rw [← Ny213.out] at ho; replace HO_0 := ak (Kd.V_afterv (ok := (fun k_ => ((P0_ k_ ∨ P1_ k_) ∨ w.heap.size ≤ k_))) (vq_ HO_0) hg hat); replace HO_1 := ak (Kd.V_afterv (ok := (fun k_ => ((P0_ k_ ∨ P1_ k_) ∨ w.heap.size ≤ k_))) (vq_ HO_1) hg hat); replace HB := ak (hb); replace HO215 := ak (ho); clear HO212; clear ho hb hg hat) | ((with_reducible refine gate_callee (f := 21) rfl ?_); refine goesL_ (some 21) rfl rfl Try.func21 (by kernel_rfl) rfl #[.slice A0 l0.length c0] rfl mp_ ?_; (with_reducible refine (code_Check.calls kj2 _ _ l0 t216 _ ?side1 ?side2 A15.out).mono ?_); (case side1 => exact vc_ HO_0); (case side2 => exact vl_ HO_0); rintro e w22 ⟨rfl, hb⟩; refine ⟨_, rfl, ?_⟩; replace HO_0 := vb_ HO_0 hb; replace HO_1 := vb_ HO_1 hb; replace HO215 := nb_ HO215 hb; replace HB := ak (bst_ hb); (try clear hb)))
   (try simp only [Act.put, List.setIfInBounds_toArray, List.set_cons_zero, List.set_cons_succ])
   go_cut [36] (fun v36 wc => ∃ (kq : Nat) (x36_16 : Bool), v36 = .bool x36_16 ∧ Aside0 (handshakerlaw09_ShapeSizes.j1 kq l0 l1 y213 x36_16 = some r) ∧ Aside0 (kq ≤ kj2) ∧ Aside0 (Kd.V k53 53 wc w.heap.size (fun k_ => ((P0_ k_ ∨ P1_ k_) ∨ w.heap.size ≤ k_) ∧ some k_ ≠ (v214 : Value).ownBlock) (.slice A0 l0.length c0) l0) ∧ Aside0 (Kd.V k53 53 wc w.heap.size (fun k_ => ((P0_ k_ ∨ P1_ k_) ∨ w.heap.size ≤ k_) ∧ some k_ ≠ (v214 : Value).ownBlock) (.slice A1 l1.length c1) l1) ∧ Aside0 (Kd.N k53 53 wc w.heap.size (fun k_ => ((P0_ k_ ∨ P1_ k_) ∨ w.heap.size ≤ k_)) v214 y213) ∧ Aside0 (Below w.heap.size w wc))
   case first =>
    have H := HC17.out
    clear HC17
    obtain ⟨t219, A23, H⟩ := bd_ H
    by_cases c24 : t219 = 0
    rotate_left
    · rw [if_neg c24] at H
      have c24b0 : (t219 == 0) = false := beq_eq_false_iff_ne.mpr c24
      have c24b1 : (t219 != 0) = true := bne_iff_ne.mpr c24
      (first | rw [c24b0] | (simp only [i64_w, i32_w]; rw [c24b0]) | skip)
      have H' := ak H
      clear H
      go_wp2_with (first | ((with_reducible refine gate_callee (f := 21) rfl ?_); refine goesL_ (some 30) rfl rfl Try.func21 (by kernel_rfl) rfl #[.slice A1 l1.length c1] rfl mp_ ?_; (with_reducible refine (code_Check.calls kj2 _ _ l1 t219 _ ?side1 ?side2 A23.out).mono ?_); (case side1 => exact vc_ HO_1); (case side2 => exact vl_ HO_1); rintro e w29 ⟨rfl, hb⟩; refine ⟨_, rfl, ?_⟩; replace HO_0 := vb_ HO_0 hb; replace HO_1 := vb_ HO_1 hb; replace HO215 := nb_ HO215 hb; replace HB := ak (bst_ hb); (try clear hb)))
      go_meet
      case rel => exact ⟨_, (true), (by first | rfl | (simp; done) | (simp [*]; done)), H', ⟨by have := HJ2.out; first | omega | exact Nat.le_refl _⟩, ⟨vq_ HO_0⟩, ⟨vq_ HO_1⟩, ⟨nq_ HO215⟩, ⟨bsv_⟩⟩
    rw [if_pos c24] at H
    have c24b0 : (t219 == 0) = true := beq_iff_eq.mpr c24
    have c24b1 : (t219 != 0) = false := bne_eq_false_iff_eq.mpr c24
    clear c24
    (first | rw [c24b0] | (simp only [i64_w, i32_w]; rw [c24b0]) | skip)
    obtain ⟨t220, A25, H⟩ := bd_ H
    have H' := ak H
    clear H
    go_wp2_with (first | ((with_reducible refine gate_callee (f := 21) rfl ?_); refine goesL_ (some 30) rfl rfl Try.func21 (by kernel_rfl) rfl #[.slice A1 l1.length c1] rfl mp_ ?_; (with_reducible refine (code_Check.calls kj2 _ _ l1 t219 _ ?side1 ?side2 A23.out).mono ?_); (case side1 => exact vc_ HO_1); (case side2 => exact vl_ HO_1); rintro e w26 ⟨rfl, hb⟩; refine ⟨_, rfl, ?_⟩; replace HO_0 := vb_ HO_0 hb; replace HO_1 := vb_ HO_1 hb; replace HO215 := nb_ HO215 hb; replace HB := ak (bst_ hb); (try clear hb); obtain ⟨Ao27, co27, eo27⟩ := Kd.N_slice HO215.out; subst eo27) | (go_at_call 21; (with_reducible refine (code_Check.calls kj2 _ _ y213 t220 _ ?side1 ?side2 A25.out).mono ?_); (case side1 => exact nc_ HO215); (case side2 => exact (Kd.N_reads' HO215.out).2.1); rintro e w28 ⟨rfl, hb⟩; replace HO_0 := vb_ HO_0 hb; replace HO_1 := vb_ HO_1 hb; replace HO215 := nb_ HO215 hb; replace HB := ak (bst_ hb); (try clear hb)))
    go_meet
    case rel => exact ⟨_, ((t220 != 0)), (by first | rfl | (simp; done) | (simp [*]; done)), H', ⟨by have := HJ2.out; first | omega | exact Nat.le_refl _⟩, ⟨vq_ HO_0⟩, ⟨vq_ HO_1⟩, ⟨nq_ HO215⟩, ⟨bsv_⟩⟩
   case rest =>
    clear HC17
    try clear c1
    try clear c2
    try clear p2
    try clear c5
    try clear c5b0
    try clear c8
    try clear c10
    try clear c13
    try clear c14
    try clear c16
    try clear c16b0
    try clear c16b1
    try clear c21
    try clear c22
    try clear c24
    try clear c24b0
    try clear c24b1
    try clear p2
    obtain ⟨kq, x36_16, rfl, HA, HJ16, HO_0, HO_1, HO_5, HB⟩ := hcut
    cases kq with
    | zero => exact absurd HA.out (by simp [handshakerlaw09_ShapeSizes.j1])
    | succ kj16 =>
     have H := HA.out
     clear HA
     simp only [handshakerlaw09_ShapeSizes.j1] at H
     by_cases c30 : x36_16 = true
     · subst c30
       rw [if_pos rfl] at H
       obtain ⟨t221, A31, H⟩ := bd_ H
       obtain rfl := Option.some.inj H
       go_wp2_with (first | ((with_reducible refine gate_callee (f := 10) rfl ?_); refine goesL_ (some 37) rfl rfl Try.func10 (by kernel_rfl) rfl #[] rfl mp_ ?_; (with_reducible refine (handshakerlaw09_awake.calls kj16  t221 _ A31.out).mono ?_); rintro e w32 ⟨rfl, hb⟩; refine ⟨_, rfl, ?_⟩; replace HO_0 := vb_ HO_0 hb; replace HO_1 := vb_ HO_1 hb; replace HO_5 := nb_ HO_5 hb; replace HB := ak (bst_ hb); (try clear hb)))
       go_ret
       exact ⟨by first | rfl | (simp [errW_none, errW_some] <;> rfl) | (simp [*, errW_none, errW_some] <;> rfl), bsv_⟩
     replace c30 := Bool.eq_false_iff.mpr c30
     subst c30
     rw [if_neg (show ¬ (false = true) by decide)] at H
     obtain ⟨t222, A33, H⟩ := bd_ H
     obtain ⟨t223, A34, H⟩ := bd_ H
     obtain ⟨t224, A35, H⟩ := bd_ H
     by_cases c36 : t222 = (wrap64 ((wrap64 (t223 + t224)) - 1))
     rotate_left
     · rw [if_neg c36] at H
       have c36b0 : (t222 == (wrap64 ((wrap64 (t223 + t224)) - 1))) = false := beq_eq_false_iff_ne.mpr c36
       have c36b1 : (t222 != (wrap64 ((wrap64 (t223 + t224)) - 1))) = true := bne_iff_ne.mpr c36
       exact absurd (Option.some.inj H) (by rw [HT.out]; decide)
     rw [if_pos c36] at H
     have c36b0 : (t222 == (wrap64 ((wrap64 (t223 + t224)) - 1))) = true := beq_iff_eq.mpr c36
     have c36b1 : (t222 != (wrap64 ((wrap64 (t223 + t224)) - 1))) = false := bne_eq_false_iff_eq.mpr c36
     clear c36
     obtain ⟨t225, A37, H⟩ := bd_ H
     by_cases c38 : t225 ≥ (wrap64 (1 + (wrap64 (4 * (l0.length : Int)))))
     rotate_left
     · rw [if_neg c38] at H
       have c38b0 : decide ((wrap64 (1 + (wrap64 (4 * (l0.length : Int))))) ≤ t225) = false := decide_eq_false c38
       clear c38
       exact absurd (Option.some.inj H) (by rw [HT.out]; decide)
     rw [if_pos c38] at H
     have c38b0 : decide ((wrap64 (1 + (wrap64 (4 * (l0.length : Int))))) ≤ t225) = true := decide_eq_true c38
     clear c38
     obtain ⟨t226, A39, H⟩ := bd_ H
     obtain rfl := Option.some.inj H
     obtain ⟨Ao40, co40, eo40⟩ := Kd.N_slice HO_5.out
     subst eo40
     go_wp2_with (first | ((with_reducible refine gate_callee (f := 17) rfl ?_); refine goesL_ (some 39) rfl rfl Try.func17 (by kernel_rfl) rfl #[.slice Ao40 y213.length co40] rfl mp_ ?_; (with_reducible refine (shape_Size.calls kj16 _ _ y213 t222 _ ?side1 ?side2 A33.out).mono ?_); (case side1 => exact nc_ HO_5); (case side2 => exact (Kd.N_reads' HO_5.out).2.1); rintro e w41 ⟨rfl, hb⟩; refine ⟨_, rfl, ?_⟩; replace HO_0 := vb_ HO_0 hb; replace HO_1 := vb_ HO_1 hb; replace HO_5 := nb_ HO_5 hb; replace HB := ak (bst_ hb); (try clear hb)) | ((with_reducible refine gate_callee (f := 17) rfl ?_); refine goesL_ (some 41) rfl rfl Try.func17 (by kernel_rfl) rfl #[.slice A0 l0.length c0] rfl mp_ ?_; (with_reducible refine (shape_Size.calls kj16 _ _ l0 t223 _ ?side1 ?side2 A34.out).mono ?_); (case side1 => exact vc_ HO_0); (case side2 => exact vl_ HO_0); rintro e w42 ⟨rfl, hb⟩; refine ⟨_, rfl, ?_⟩; replace HO_0 := vb_ HO_0 hb; replace HO_1 := vb_ HO_1 hb; replace HO_5 := nb_ HO_5 hb; replace HB := ak (bst_ hb); (try clear hb)) | ((with_reducible refine gate_callee (f := 17) rfl ?_); refine goesL_ (some 43) rfl rfl Try.func17 (by kernel_rfl) rfl #[.slice A1 l1.length c1] rfl mp_ ?_; (with_reducible refine (shape_Size.calls kj16 _ _ l1 t224 _ ?side1 ?side2 A35.out).mono ?_); (case side1 => exact vc_ HO_1); (case side2 => exact vl_ HO_1); rintro e w43 ⟨rfl, hb⟩; refine ⟨_, rfl, ?_⟩; replace HO_0 := vb_ HO_0 hb; replace HO_1 := vb_ HO_1 hb; replace HO_5 := nb_ HO_5 hb; replace HB := ak (bst_ hb); (try clear hb)) | (go_at_call 17; (with_reducible refine (shape_Size.calls kj16 _ _ l0 t225 _ ?side1 ?side2 A37.out).mono ?_); (case side1 => exact vc_ HO_0); (case side2 => exact vl_ HO_0); rintro e w44 ⟨rfl, hb⟩; replace HO_0 := vb_ HO_0 hb; replace HO_1 := vb_ HO_1 hb; replace HO_5 := nb_ HO_5 hb; replace HB := ak (bst_ hb); (try clear hb)) | (go_at_call 10; (with_reducible refine (handshakerlaw09_awake.calls kj16  t226 _ A39.out).mono ?_); rintro e w45 ⟨rfl, hb⟩; replace HO_0 := vb_ HO_0 hb; replace HO_1 := vb_ HO_1 hb; replace HO_5 := nb_ HO_5 hb; replace HB := ak (bst_ hb); (try clear hb)))
     go_ret
     exact ⟨by first | rfl | (simp [errW_none, errW_some] <;> rfl) | (simp [*, errW_none, errW_some] <;> rfl), bsv_⟩

/-- THE ONE PURE STATEMENT of handshakerlaw09_ShapeSizes. -/
def handshakerlaw09_ShapeSizes.Pure : Prop := ∀ (l0 : List (S53)) (l1 : List (S53)), l0.length ≤ maxLen → l0.length * 48 ≤ 140737488351232 → (∀ y ∈ l0, wfS53 y) → l1.length ≤ maxLen → l1.length * 48 ≤ 140737488351232 → (∀ y ∈ l1, wfS53 y) → ∃ k, handshakerlaw09_ShapeSizes.f k l0 l1 = some true

end Go.Proofs.Ytpeblomhhofhkaa.H
