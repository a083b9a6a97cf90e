-- PRINTED by print.py (a twelfth state) out of the translation. Not trusted: Lean checks it.
import Derived.Test.YtjnkpocfmpbpoaaFx0
import Derived.Test.YtjnkpocfmpbpoaaFx11
import Derived.Test.YtjnkpocfmpbpoaaFx12
import Derived.Test.YtjnkpocfmpbpoaaFx13
import Derived.Test.YtjnkpocfmpbpoaaFx15
import Derived.Test.YtjnkpocfmpbpoaaFx17
import Derived.Test.YtjnkpocfmpbpoaaFx19
namespace Go.Proofs.Ytjnkpocfmpbpoaa.F
open Go.Proofs.Ytjnkpocfmpbpoaa.Ho
open Go.RowKit Go.Proofs.YtjnkpocfmpbpoaaW.PrintWords Go.Proofs.YtjnkpocfmpbpoaaW.PrintLast Go.Proofs.YtjnkpocfmpbpoaaW.PrintMore
attribute [local go_sem] max2_int min2_int max_two min_two max_three min_three max_four min_four   -- for this text's walks alone
set_option linter.unusedVariables false
set_option linter.unusedSimpArgs false

/-! ### handshakerlaw16_FilterParts: function 10 -/
def handshakerlaw16_FilterParts.j0 : Nat → List (S26) → List (S98) → List (S62) → List (S62) → Bool → Option (Bool)
 | 0, _, _, _, _, _ => none
 | k + 1, x0, x1, x2, x3, x32 => if x32 = true then ((handshakerlaw16_awake.f k).bind fun t512 => (some t512)) else ((some (([] : List (S62)) : List (S62))).bind fun y513 => (if y513.length + x2.length < 8796093022208 then ((some (y513 ++ x2 : List (S62))).bind fun y516 => (if y516.length + x3.length < 8796093022208 then ((filter_Wake.f k x0 x1 (y516 ++ x3)).bind fun bt522 => ((filter_Wake.f k x0 x1 x2).bind fun bt528 => ((filter_Wake.f k bt528.1 x1 x3).bind fun bt534 => (if (wrap64 ((bt528.2.length : Int) + (bt534.2.length : Int))) = (bt522.2.length : Int) then ((handshakerlaw15_Refs.f k bt534.1).bind fun t540 => ((handshakerlaw15_Refs.f k bt522.1).bind fun t543 => ((handshakerref15_Same.f k t540 t543).bind fun t546 => (if t546 = true then ((handshakerlaw16_awake.f k).bind fun t547 => (some t547)) else (some false))))) else (some false))))) else (none))) else (none)))
def handshakerlaw16_FilterParts.f (k : Nat) (l0 : List (S26)) (l1 : List (S98)) (l2 : List (S62)) (l3 : List (S62)) : Option (Bool) := (handshakerlaw15_Small.f k l0).bind fun t511 => (if t511 < 0 then (handshakerlaw16_FilterParts.j0 k l0 l1 l2 l3 true) else (if (l1.length : Int) > 80 then (handshakerlaw16_FilterParts.j0 k l0 l1 l2 l3 true) else (if (l2.length : Int) > 20 then (handshakerlaw16_FilterParts.j0 k l0 l1 l2 l3 true) else (handshakerlaw16_FilterParts.j0 k l0 l1 l2 l3 (decide ((l3.length : Int) > 20))))))
theorem handshakerlaw16_FilterParts.mono_l : ∀ k, (∀ y0 y1 y2 y3 y4, LeO (handshakerlaw16_FilterParts.j0 k y0 y1 y2 y3 y4) (handshakerlaw16_FilterParts.j0 (k + 1) y0 y1 y2 y3 y4))
 | 0 => fun _ _ _ _ _ r h => by simp [handshakerlaw16_FilterParts.j0] at h
 | k + 1 => by
  have ih0 := handshakerlaw16_FilterParts.mono_l k
  · intro y0 y1 y2 y3 y4
    unfold handshakerlaw16_FilterParts.j0
    repeat' first
    | (with_reducible exact ih0 _ _ _ _ _)
    | (with_reducible exact filter_Wake.mono _ _ _ _)
    | (with_reducible exact handshakerlaw15_Refs.mono _ _)
    | (with_reducible exact handshakerlaw15_Small.mono _ _)
    | (with_reducible exact handshakerlaw16_awake.mono _)
    | (with_reducible exact handshakerref15_Same.mono _ _ _)
    | (with_reducible exact LeO.refl _)
    | (with_reducible exact LeO.none _)
    | (with_reducible refine LeO.ite ?_ ?_)
    | (with_reducible refine LeO.bind ?_ (fun _ => ?_))
    | exact ih0 _ _ _ _ _
    | exact filter_Wake.mono _ _ _ _
    | exact handshakerlaw15_Refs.mono _ _
    | exact handshakerlaw15_Small.mono _ _
    | exact handshakerlaw16_awake.mono _
    | exact handshakerref15_Same.mono _ _ _
    | exact LeO.none _
    | refine LeO.ite ?_ ?_
    | refine LeO.bind ?_ (fun _ => ?_)
theorem handshakerlaw16_FilterParts.mono : ∀ a0 a1 a2 a3 k, LeO (handshakerlaw16_FilterParts.f k a0 a1 a2 a3) (handshakerlaw16_FilterParts.f (k + 1) a0 a1 a2 a3) := by
 intro a0 a1 a2 a3 k
 have ih0 := handshakerlaw16_FilterParts.mono_l k
 unfold handshakerlaw16_FilterParts.f
 repeat' first
  | (with_reducible exact ih0 _ _ _ _ _)
  | (with_reducible exact filter_Wake.mono _ _ _ _)
  | (with_reducible exact handshakerlaw15_Refs.mono _ _)
  | (with_reducible exact handshakerlaw15_Small.mono _ _)
  | (with_reducible exact handshakerlaw16_awake.mono _)
  | (with_reducible exact handshakerref15_Same.mono _ _ _)
  | (with_reducible exact LeO.refl _)
  | (with_reducible exact LeO.none _)
  | (with_reducible refine LeO.ite ?_ ?_)
  | (with_reducible refine LeO.bind ?_ (fun _ => ?_))
  | exact ih0 _ _ _ _ _
  | exact filter_Wake.mono _ _ _ _
  | exact handshakerlaw15_Refs.mono _ _
  | exact handshakerlaw15_Small.mono _ _
  | exact handshakerlaw16_awake.mono _
  | exact handshakerref15_Same.mono _ _ _
  | exact LeO.none _
  | refine LeO.ite ?_ ?_
  | refine LeO.bind ?_ (fun _ => ?_)
set_option maxHeartbeats 8000000 in
set_option maxRecDepth 100000 in
theorem handshakerlaw16_FilterParts.calls (k : Nat) (A0 : Option Addr) (c0 : Nat) (l0 : List (S26)) (A1 : Option Addr) (c1 : Nat) (l1 : List (S98)) (A2 : Option Addr) (c2 : Nat) (l2 : List (S62)) (A3 : Option Addr) (c3 : Nat) (l3 : List (S62)) (r : Bool) (w : World) (HT : Aside0 (r = true)) (hr0 : Kd.C k26 w A0 l0.length l0) (hc0 : l0.length ≤ c0) (hr1 : Kd.C k98 w A1 l1.length l1) (hc1 : l1.length ≤ c1) (hr2 : Kd.C k62 w A2 l2.length l2) (hc2 : l2.length ≤ c2) (hr3 : Kd.C k62 w A3 l3.length l3) (hc3 : l3.length ≤ c3) (h : handshakerlaw16_FilterParts.f k l0 l1 l2 l3 = some r) :
 Calls Try.prog 10 #[.slice A0 l0.length c0, .slice A1 l1.length c1, .slice A2 l2.length c2, .slice A3 l3.length c3] w fun e w' => e = .returned (.bool r) ∧ Below w.heap.size w w' := by
 have HR0 := ak hr0
 have HC0 := ak hc0
 clear hr0 hc0
 have HR1 := ak hr1
 have HC1 := ak hc1
 clear hr1 hc1
 have HR2 := ak hr2
 have HC2 := ak hc2
 clear hr2 hc2
 have HR3 := ak hr3
 have HC3 := ak hc3
 clear hr3 hc3
 have HB := ak (Below.refl w.heap.size w)
 have H : ((handshakerlaw15_Small.f k l0).bind fun t511 => (if t511 < 0 then (handshakerlaw16_FilterParts.j0 k l0 l1 l2 l3 true) else (if (l1.length : Int) > 80 then (handshakerlaw16_FilterParts.j0 k l0 l1 l2 l3 true) else (if (l2.length : Int) > 20 then (handshakerlaw16_FilterParts.j0 k l0 l1 l2 l3 true) else (handshakerlaw16_FilterParts.j0 k l0 l1 l2 l3 (decide ((l3.length : Int) > 20))))))) = some r := h
 clear h
 have HC5 := ak H
 clear H
 go_enter Try.func10, Try.ntmps10
 go_upto_region 1 with (fail)
 go_cut [32] (fun v32 wc => ∃ (kq : Nat) (x32_4 : Bool), v32 = .bool x32_4 ∧ Aside0 (handshakerlaw16_FilterParts.j0 kq l0 l1 l2 l3 x32_4 = some r) ∧ Aside0 (kq ≤ k) ∧ Aside0 (Below w.heap.size w wc))
 case first =>
  have H := HC5.out
  clear HC5
  obtain ⟨t511, A6, H⟩ := bd_ H
  by_cases c7 : t511 < 0
  · rw [if_pos c7] at H
    have c7b0 : decide (t511 < 0) = true := decide_eq_true c7
    clear c7
    (first | rw [c7b0] | (simp only [i64_w, i32_w]; rw [c7b0]) | skip)
    have H' := ak H
    clear H
    go_wp2_with (first | ((with_reducible refine gate_callee (f := 14) rfl ?_); refine goesL_ (some 16) rfl rfl Try.func14 (by kernel_rfl) rfl #[.slice A0 l0.length c0] rfl mp_ ?_; (with_reducible refine (handshakerlaw15_Small.calls k _ _ l0 t511 _ ?side1 ?side2 A6.out).mono ?_); (case side1 => repeat (first | exact (Kd.C_below HR0.out HB.out) | with_reducible first | refine Kd.C_alloc ?_ _ | refine Kd.C_drewN ?_ _ | refine Kd.C_drew ?_)); (case side2 => exact HC0.out); rintro e w8 ⟨rfl, hb⟩; refine ⟨_, rfl, ?_⟩; replace HB := ak (bst_ hb); (try clear hb); (try clear hb2); (try clear hk); (try clear hi)))
    go_meet
    case rel => exact ⟨_, (true), (by first | rfl | (simp; done) | (simp [*]; done)), H', ⟨by first | omega | exact Nat.le_refl _⟩, ⟨bsv_⟩⟩
  · rw [if_neg c7] at H
    have c7b0 : decide (t511 < 0) = false := decide_eq_false c7
    clear c7
    (first | rw [c7b0] | (simp only [i64_w, i32_w]; rw [c7b0]) | skip)
    by_cases c9 : (l1.length : Int) > 80
    · rw [if_pos c9] at H
      have c9b0 : decide (80 < (l1.length : Int)) = true := decide_eq_true c9
      have c9b1 : decide (80 < l1.length) = true := decide_eq_true (by omega)
      clear c9
      have H' := ak H
      clear H
      go_wp2_with (first | ((with_reducible refine gate_callee (f := 14) rfl ?_); refine goesL_ (some 16) rfl rfl Try.func14 (by kernel_rfl) rfl #[.slice A0 l0.length c0] rfl mp_ ?_; (with_reducible refine (handshakerlaw15_Small.calls k _ _ l0 t511 _ ?side1 ?side2 A6.out).mono ?_); (case side1 => repeat (first | exact (Kd.C_below HR0.out HB.out) | with_reducible first | refine Kd.C_alloc ?_ _ | refine Kd.C_drewN ?_ _ | refine Kd.C_drew ?_)); (case side2 => exact HC0.out); rintro e w10 ⟨rfl, hb⟩; refine ⟨_, rfl, ?_⟩; replace HB := ak (bst_ hb); (try clear hb); (try clear hb2); (try clear hk); (try clear hi)))
      go_meet
      case rel => exact ⟨_, (true), (by first | rfl | (simp; done) | (simp [*]; done)), H', ⟨by first | omega | exact Nat.le_refl _⟩, ⟨bsv_⟩⟩
    · rw [if_neg c9] at H
      have c9b0 : decide (80 < (l1.length : Int)) = false := decide_eq_false c9
      have c9b1 : decide (80 < l1.length) = false := decide_eq_false (by omega)
      clear c9
      by_cases c11 : (l2.length : Int) > 20
      · rw [if_pos c11] at H
        have c11b0 : decide (20 < (l2.length : Int)) = true := decide_eq_true c11
        have c11b1 : decide (20 < l2.length) = true := decide_eq_true (by omega)
        clear c11
        have H' := ak H
        clear H
        go_wp2_with (first | ((with_reducible refine gate_callee (f := 14) rfl ?_); refine goesL_ (some 16) rfl rfl Try.func14 (by kernel_rfl) rfl #[.slice A0 l0.length c0] rfl mp_ ?_; (with_reducible refine (handshakerlaw15_Small.calls k _ _ l0 t511 _ ?side1 ?side2 A6.out).mono ?_); (case side1 => repeat (first | exact (Kd.C_below HR0.out HB.out) | with_reducible first | refine Kd.C_alloc ?_ _ | refine Kd.C_drewN ?_ _ | refine Kd.C_drew ?_)); (case side2 => exact HC0.out); rintro e w12 ⟨rfl, hb⟩; refine ⟨_, rfl, ?_⟩; replace HB := ak (bst_ hb); (try clear hb); (try clear hb2); (try clear hk); (try clear hi)))
        go_meet
        case rel => exact ⟨_, (true), (by first | rfl | (simp; done) | (simp [*]; done)), H', ⟨by first | omega | exact Nat.le_refl _⟩, ⟨bsv_⟩⟩
      · rw [if_neg c11] at H
        have c11b0 : decide (20 < (l2.length : Int)) = false := decide_eq_false c11
        have c11b1 : decide (20 < l2.length) = false := decide_eq_false (by omega)
        clear c11
        have H' := ak H
        clear H
        go_wp2_with (first | ((with_reducible refine gate_callee (f := 14) rfl ?_); refine goesL_ (some 16) rfl rfl Try.func14 (by kernel_rfl) rfl #[.slice A0 l0.length c0] rfl mp_ ?_; (with_reducible refine (handshakerlaw15_Small.calls k _ _ l0 t511 _ ?side1 ?side2 A6.out).mono ?_); (case side1 => repeat (first | exact (Kd.C_below HR0.out HB.out) | with_reducible first | refine Kd.C_alloc ?_ _ | refine Kd.C_drewN ?_ _ | refine Kd.C_drew ?_)); (case side2 => exact HC0.out); rintro e w13 ⟨rfl, hb⟩; refine ⟨_, rfl, ?_⟩; replace HB := ak (bst_ hb); (try clear hb); (try clear hb2); (try clear hk); (try clear hi)))
        go_meet
        case rel => exact ⟨_, (decide ((l3.length : Int) > 20)), (by first | rfl | (simp; done) | (simp [*]; done)), H', ⟨by first | omega | exact Nat.le_refl _⟩, ⟨bsv_⟩⟩
 case rest =>
  clear HC5
  try clear c1
  try clear c2
  try clear p2
  try clear c3
  try clear c7
  try clear c7b0
  try clear c9
  try clear c9b0
  try clear c9b1
  try clear c10
  try clear c11
  try clear c11b0
  try clear c11b1
  obtain ⟨kq, x32_4, rfl, HA, HJ4, HB⟩ := hcut
  cases kq with
  | zero => exact absurd HA.out (by simp [handshakerlaw16_FilterParts.j0])
  | succ kj4 =>
   have H := HA.out
   clear HA
   simp only [handshakerlaw16_FilterParts.j0] at H
   by_cases c14 : x32_4 = true
   · subst c14
     rw [if_pos rfl] at H
     obtain ⟨t512, A15, H⟩ := bd_ H
     obtain rfl := Option.some.inj H
     go_wp2_with (first | ((with_reducible refine gate_callee (f := 35) rfl ?_); refine goesL_ (some 33) rfl rfl Try.func35 (by kernel_rfl) rfl #[] rfl mp_ ?_; (with_reducible refine (handshakerlaw16_awake.calls kj4  t512 _ A15.out).mono ?_); rintro e w16 ⟨rfl, hb⟩; refine ⟨_, rfl, ?_⟩; replace HB := ak (bst_ hb); (try clear hb); (try clear hb2); (try clear hk); (try clear hi)))
     go_ret
     exact ⟨by first | rfl | (simp [errW_none, errW_some] <;> rfl) | (simp [*, errW_none, errW_some] <;> rfl), bsv_⟩
   · replace c14 := Bool.eq_false_iff.mpr c14
     subst c14
     rw [if_neg (show ¬ (false = true) by decide)] at H
     obtain ⟨y513, hy513⟩ : ∃ y_ : List (S62), y_ = (([] : List (S62))) := ⟨_, rfl⟩
     replace H : (if y513.length + l2.length < 8796093022208 then ((some (y513 ++ l2 : List (S62))).bind fun y516 => (if y516.length + l3.length < 8796093022208 then ((filter_Wake.f kj4 l0 l1 (y516 ++ l3)).bind fun bt522 => ((filter_Wake.f kj4 l0 l1 l2).bind fun bt528 => ((filter_Wake.f kj4 bt528.1 l1 l3).bind fun bt534 => (if (wrap64 ((bt528.2.length : Int) + (bt534.2.length : Int))) = (bt522.2.length : Int) then ((handshakerlaw15_Refs.f kj4 bt534.1).bind fun t540 => ((handshakerlaw15_Refs.f kj4 bt522.1).bind fun t543 => ((handshakerref15_Same.f kj4 t540 t543).bind fun t546 => (if t546 = true then ((handshakerlaw16_awake.f kj4).bind fun t547 => (some t547)) else (some false))))) else (some false))))) else (none))) else (none)) = some r := by first | (rw [hy513]; with_reducible exact H) | (have H2_ := (Option.bind_some _ _).symm.trans H; rw [hy513]; with_reducible exact H2_) | (have H2_ := (Option.bind_some _ _).symm.trans H; with_reducible exact H2_) | with_reducible exact H | (rw [hy513]; exact H) | exact H
     have Ny513 := ak hy513
     clear hy513
     by_cases c17 : y513.length + l2.length < 8796093022208
     · rw [if_pos c17] at H
       have LMc17 := ak c17
       clear c17
       obtain ⟨y516, hy516⟩ : ∃ y_ : List (S62), y_ = (y513 ++ l2) := ⟨_, rfl⟩
       replace H : (if y516.length + l3.length < 8796093022208 then ((filter_Wake.f kj4 l0 l1 (y516 ++ l3)).bind fun bt522 => ((filter_Wake.f kj4 l0 l1 l2).bind fun bt528 => ((filter_Wake.f kj4 bt528.1 l1 l3).bind fun bt534 => (if (wrap64 ((bt528.2.length : Int) + (bt534.2.length : Int))) = (bt522.2.length : Int) then ((handshakerlaw15_Refs.f kj4 bt534.1).bind fun t540 => ((handshakerlaw15_Refs.f kj4 bt522.1).bind fun t543 => ((handshakerref15_Same.f kj4 t540 t543).bind fun t546 => (if t546 = true then ((handshakerlaw16_awake.f kj4).bind fun t547 => (some t547)) else (some false))))) else (some false))))) else (none)) = some r := by first | (rw [hy516]; with_reducible exact H) | (have H2_ := (Option.bind_some _ _).symm.trans H; rw [hy516]; with_reducible exact H2_) | (have H2_ := (Option.bind_some _ _).symm.trans H; with_reducible exact H2_) | with_reducible exact H | (rw [hy516]; exact H) | exact H
       have Ny516 := ak hy516
       clear hy516
       by_cases c18 : y516.length + l3.length < 8796093022208
       · rw [if_pos c18] at H
         have LMc18 := ak c18
         clear c18
         obtain ⟨y519, hy519⟩ : ∃ y_ : List (S62), y_ = (y516 ++ l3) := ⟨_, rfl⟩
         replace H : ((filter_Wake.f kj4 l0 l1 y519).bind fun bt522 => ((filter_Wake.f kj4 l0 l1 l2).bind fun bt528 => ((filter_Wake.f kj4 bt528.1 l1 l3).bind fun bt534 => (if (wrap64 ((bt528.2.length : Int) + (bt534.2.length : Int))) = (bt522.2.length : Int) then ((handshakerlaw15_Refs.f kj4 bt534.1).bind fun t540 => ((handshakerlaw15_Refs.f kj4 bt522.1).bind fun t543 => ((handshakerref15_Same.f kj4 t540 t543).bind fun t546 => (if t546 = true then ((handshakerlaw16_awake.f kj4).bind fun t547 => (some t547)) else (some false))))) else (some false))))) = some r := by first | (rw [hy519]; with_reducible exact H) | (have H2_ := (Option.bind_some _ _).symm.trans H; rw [hy519]; with_reducible exact H2_) | (have H2_ := (Option.bind_some _ _).symm.trans H; with_reducible exact H2_) | with_reducible exact H | (rw [hy519]; exact H) | exact H
         have Ny519 := ak hy519
         clear hy519
         replace H := Option.bind_eq_some_iff.mp H
         obtain ⟨⟨t522, t525⟩, A190, H⟩ := H
         have A19 := ak A190
         clear A190
         replace H := Option.bind_eq_some_iff.mp H
         obtain ⟨⟨t528, t531⟩, A200, H⟩ := H
         have A20 := ak A200
         clear A200
         replace H := Option.bind_eq_some_iff.mp H
         obtain ⟨⟨t534, t537⟩, A210, H⟩ := H
         have A21 := ak A210
         clear A210
         by_cases c22 : (wrap64 ((t531.length : Int) + (t537.length : Int))) = (t525.length : Int)
         · rw [if_pos c22] at H
           have c22b0 : ((wrap64 ((t531.length : Int) + (t537.length : Int))) == (t525.length : Int)) = true := beq_iff_eq.mpr c22
           have c22b1 : ((wrap64 ((t531.length : Int) + (t537.length : Int))) != (t525.length : Int)) = false := bne_eq_false_iff_eq.mpr c22
           clear c22
           obtain ⟨t540, A23, H⟩ := bd_ H
           obtain ⟨t543, A24, H⟩ := bd_ H
           obtain ⟨t546, A25, H⟩ := bd_ H
           by_cases c26 : t546 = true
           · subst c26
             rw [if_pos rfl] at H
             obtain ⟨t547, A27, H⟩ := bd_ H
             obtain rfl := Option.some.inj H
             go_wp2_with (first | ((with_reducible refine gate_dst (N := 37) rfl ?_); (try (refine gate_guard (by rfl) ?_; dsimp only)); refine Kd.R_lit k62 _ 62 ?hg (N := 37) ?hd (xs := ([] : List (S62))) (inner := []) (ok := fun _ => True) (okp := fun _ => True) ?hr ?hp (fun _ hk => hk) trivial (Below.refl _ _) (Nat.le_refl _) (by simp) ?_; (case hd => rfl); (case hg => rfl); (case hr => first | (go_simp; done) | (go_simp; rfl)); (case hp => exact (Reps.none _ _)); intro v514 w28 ho29 hb hg_ hnew_; clear hg_ hnew_; (first | rw [← Ny513.out] at ho29 | (simp only [Int.reduceToNat] at ho29; rw [← Ny513.out] at ho29)); replace HO515 := ak (Kd.R_lower ho29 bsz_); replace HB := ak (bst_ hb); clear hb ho29) | ((with_reducible refine gate_builtin (b := .append) (xs := #[.tmp 37, .tmp 38]) rfl ?_); (try (refine gate_guard (by rfl) ?_; dsimp only)); at_builtin; refine Kd.R_append_rows k62 (w0 := w) w.heap.size rfl (.tmp 37) (.tmp 38) 23 62 (.agg #[(.int .i64 0), (.int .i64 0)]) 16 rfl Try.underlying23 info62 rfl (by decide) (by omega) v514 y513 l2 _ _ _ (fun _ => True) (fun _ => False) rfl rfl ?aO ?aR (fun _ _ h => h) (fun _ h => h.elim) ?aF ?aB ?aS ?aL ?_; (case aR => repeat (first | exact (Kd.C_below HR2.out HB.out) | with_reducible first | refine Kd.C_alloc ?_ _ | refine Kd.C_drewN ?_ _ | refine Kd.C_drew ?_)); (case aB => exact bsv_); (case aF => exact (fun _ _ => trivial)); (case aO => exact (rq_ HO515)); (case aS => exact bsz_); (case aL => have := LMc17.out; omega); intro v517 w30 ho hb hg hat; rw [← Ny516.out] at ho; replace HB := ak (hb); replace HO518 := ak (ho); clear HO515; clear ho hb hg hat) | ((with_reducible refine gate_builtin (b := .append) (xs := #[.tmp 39, .tmp 40]) rfl ?_); (try (refine gate_guard (by rfl) ?_; dsimp only)); at_builtin; refine Kd.R_append_rows k62 (w0 := w) w.heap.size rfl (.tmp 39) (.tmp 40) 23 62 (.agg #[(.int .i64 0), (.int .i64 0)]) 16 rfl Try.underlying23 info62 rfl (by decide) (by omega) v517 y516 l3 _ _ _ (fun _ => True) (fun _ => False) rfl rfl ?aO ?aR (fun _ _ h => h) (fun _ h => h.elim) ?aF ?aB ?aS ?aL ?_; (case aR => repeat (first | exact (Kd.C_below HR3.out HB.out) | with_reducible first | refine Kd.C_alloc ?_ _ | refine Kd.C_drewN ?_ _ | refine Kd.C_drew ?_)); (case aB => exact bsv_); (case aF => exact (fun _ _ => trivial)); (case aO => exact (rq_ HO518)); (case aS => exact bsz_); (case aL => have := LMc18.out; omega); intro v520 w31 ho hb hg hat; rw [← Ny519.out] at ho; replace HB := ak (hb); replace HO521 := ak (ho); clear HO518; clear ho hb hg hat; obtain ⟨Ao32, co32, eo32⟩ := Kd.R_slice HO521.out; subst eo32) | ((with_reducible refine gate_callee (f := 36) rfl ?_); refine goesL_ (some 42) rfl rfl Try.func36 (by kernel_rfl) rfl #[.slice A0 l0.length c0, .slice A1 l1.length c1, .slice Ao32 y519.length co32] rfl mp_ ?_; (with_reducible refine (filter_Wake.calls kj4 (fun k_ => k_ < w.heap.size) _ _ l0 _ _ l1 _ _ y519 t522 t525 _ ?side1 ?side2 ?side3 ?side4 ?side5 A19.out).mono ?_); (case side1 => exact Kd.V_mk HC0.out (Kd.F_below (Kd.C_F k26_heap HR0.out) bsv_)); (case side2 => repeat (first | exact (Kd.C_below HR1.out HB.out) | with_reducible first | refine Kd.C_alloc ?_ _ | refine Kd.C_drewN ?_ _ | refine Kd.C_drew ?_)); (case side3 => exact HC1.out); (case side4 => repeat (first | exact (Kd.R_reads' HO521.out).2.2 | with_reducible first | refine Kd.C_alloc ?_ _ | refine Kd.C_drewN ?_ _ | refine Kd.C_drew ?_)); (case side5 => exact (Kd.R_reads' HO521.out).2.1); rintro e w33 ⟨v523, v526, rfl, ho0, ho1, hb⟩; refine ⟨_, rfl, ?_⟩; replace HO524 := ak (Kd.V_lower (Kd.V_mono (ok' := fun k_ => some k_ ≠ (v526 : Value).ownBlock ∧ some k_ ≠ (.slice Ao32 y519.length co32 : Value).ownBlock) ho0 (fun k_ hk_ => ⟨hk_.2, Or.elim hk_.1 (fun hs_ => fun e_ => Nat.not_le.2 hs_ (Kd.R_base HO521.out k_ e_.symm)) (fun hn_ => (Kd.fresh' (Kd.R_lt (rq_ HO521)) k_ hn_))⟩)) bsz_); replace HO521 := rb_ HO521 hb; replace HO527 := ak (Kd.R_lower (Kd.R_mono (ok' := fun k_ => True) ho1 (fun _ hk_ => trivial)) bsz_); replace HB := ak (bst_ hb); (try clear hb); (try clear hb2); (try clear hk); (try clear hi); (try clear ho0); (try clear ho1)) | ((with_reducible refine gate_callee (f := 36) rfl ?_); refine goesL_ (some 49) rfl rfl Try.func36 (by kernel_rfl) rfl #[.slice A0 l0.length c0, .slice A1 l1.length c1, .slice A2 l2.length c2] rfl mp_ ?_; (with_reducible refine (filter_Wake.calls kj4 (fun k_ => k_ < w.heap.size) _ _ l0 _ _ l1 _ _ l2 t528 t531 _ ?side1 ?side2 ?side3 ?side4 ?side5 A20.out).mono ?_); (case side1 => exact Kd.V_mk HC0.out (Kd.F_below (Kd.C_F k26_heap HR0.out) bsv_)); (case side2 => repeat (first | exact (Kd.C_below HR1.out HB.out) | with_reducible first | refine Kd.C_alloc ?_ _ | refine Kd.C_drewN ?_ _ | refine Kd.C_drew ?_)); (case side3 => exact HC1.out); (case side4 => repeat (first | exact (Kd.C_below HR2.out HB.out) | with_reducible first | refine Kd.C_alloc ?_ _ | refine Kd.C_drewN ?_ _ | refine Kd.C_drew ?_)); (case side5 => exact HC2.out); rintro e w34 ⟨v529, v532, rfl, ho0, ho1, hb⟩; refine ⟨_, rfl, ?_⟩; replace HO524 := ak (Kd.V_elder' (vq_ HO524) (Kd.R_base ho1) hb); replace HO530 := ak (Kd.V_lower (Kd.V_mono (ok' := fun k_ => some k_ ≠ (v532 : Value).ownBlock ∧ some k_ ≠ (.slice Ao32 y519.length co32 : Value).ownBlock ∧ some k_ ≠ (v526 : Value).ownBlock) ho0 (fun k_ hk_ => ⟨hk_.2, Or.elim hk_.1 (fun hs_ => fun e_ => Nat.not_le.2 hs_ (Kd.R_base HO521.out k_ e_.symm)) (fun hn_ => (Kd.fresh' (Kd.R_lt (rq_ HO521)) k_ hn_)), Or.elim hk_.1 (fun hs_ => fun e_ => Nat.not_le.2 hs_ (Kd.R_base HO527.out k_ e_.symm)) (fun hn_ => (Kd.fresh' (Kd.R_lt (rq_ HO527)) k_ hn_))⟩)) bsz_); replace HO521 := rb_ HO521 hb; replace HO533 := ak (Kd.R_lower (Kd.R_new' (Kd.R_mono (ok' := fun k_ => True) ho1 (fun _ hk_ => trivial)) (Kd.R_lt (rq_ HO527))) bsz_); replace HO527 := ak (Kd.R_elder' (rq_ HO527) (Kd.R_base ho1) hb); replace HB := ak (bst_ hb); (try clear hb); (try clear hb2); (try clear hk); (try clear hi); (try clear ho0); (try clear ho1); obtain ⟨Ao35, co35, eo35⟩ := Kd.V_slice HO530.out; subst eo35) | ((with_reducible refine gate_callee (f := 36) rfl ?_); refine goesL_ (some 56) rfl rfl Try.func36 (by kernel_rfl) rfl #[.slice Ao35 t528.length co35, .slice A1 l1.length c1, .slice A3 l3.length c3] rfl mp_ ?_; (with_reducible refine (filter_Wake.calls kj4 (fun k_ => (some k_ ≠ (v532 : Value).ownBlock ∧ (some k_ ≠ (.slice Ao32 y519.length co32 : Value).ownBlock ∧ some k_ ≠ (v526 : Value).ownBlock))) _ _ t528 _ _ l1 _ _ l3 t534 t537 _ ?side1 ?side2 ?side3 ?side4 ?side5 A21.out).mono ?_); (case side1 => exact HO530.out); (case side2 => repeat (first | exact (Kd.C_below HR1.out HB.out) | with_reducible first | refine Kd.C_alloc ?_ _ | refine Kd.C_drewN ?_ _ | refine Kd.C_drew ?_)); (case side3 => exact HC1.out); (case side4 => repeat (first | exact (Kd.C_below HR3.out HB.out) | with_reducible first | refine Kd.C_alloc ?_ _ | refine Kd.C_drewN ?_ _ | refine Kd.C_drew ?_)); (case side5 => exact HC3.out); rintro e w36 ⟨v535, v538, rfl, ho0, ho1, hb⟩; refine ⟨_, rfl, ?_⟩; replace HO524 := ak (Kd.V_elder' (vq_ HO524) (Kd.R_base ho1) hb); replace HO530 := ak (Kd.V_elder' (vq_ HO530) (Kd.R_base ho1) hb); replace HO536 := ak (Kd.V_lower (Kd.V_mono (ok' := fun k_ => some k_ ≠ (v538 : Value).ownBlock ∧ some k_ ≠ (.slice Ao32 y519.length co32 : Value).ownBlock ∧ some k_ ≠ (v526 : Value).ownBlock ∧ some k_ ≠ (v532 : Value).ownBlock) ho0 (fun k_ hk_ => ⟨hk_.2, Or.elim hk_.1 (fun hs_ => hs_.2.1) (fun hn_ => (Kd.fresh' (Kd.R_lt (rq_ HO521)) k_ hn_)), Or.elim hk_.1 (fun hs_ => hs_.2.2) (fun hn_ => (Kd.fresh' (Kd.R_lt (rq_ HO527)) k_ hn_)), Or.elim hk_.1 (fun hs_ => hs_.1) (fun hn_ => (Kd.fresh' (Kd.R_lt (rq_ HO533)) k_ hn_))⟩)) bsz_); replace HO521 := rb_ HO521 hb; replace HO539 := ak (Kd.R_lower (Kd.R_new' (Kd.R_new' (Kd.R_mono (ok' := fun k_ => True) ho1 (fun _ hk_ => trivial)) (Kd.R_lt (rq_ HO527))) (Kd.R_lt (rq_ HO533))) bsz_); replace HO527 := ak (Kd.R_elder' (rq_ HO527) (Kd.R_base ho1) hb); replace HO533 := ak (Kd.R_elder' (rq_ HO533) (Kd.R_base ho1) hb); replace HB := ak (bst_ hb); (try clear hb); (try clear hb2); (try clear hk); (try clear hi); (try clear ho0); (try clear ho1); obtain ⟨Ao37, co37, eo37⟩ := Kd.R_slice HO533.out; subst eo37; obtain ⟨Ao38, co38, eo38⟩ := Kd.R_slice HO539.out; subst eo38; obtain ⟨Ao39, co39, eo39⟩ := Kd.R_slice HO527.out; subst eo39; obtain ⟨Ao40, co40, eo40⟩ := Kd.V_slice HO536.out; subst eo40) | (go_at_call 16; (with_reducible refine (handshakerlaw15_Refs.calls kj4 (fun k_ => (some k_ ≠ (.slice Ao38 t537.length co38 : Value).ownBlock ∧ (some k_ ≠ (.slice Ao32 y519.length co32 : Value).ownBlock ∧ (some k_ ≠ (.slice Ao39 t525.length co39 : Value).ownBlock ∧ some k_ ≠ (.slice Ao37 t531.length co37 : Value).ownBlock)))) _ _ t534 t540 _ ?side1 A23.out).mono ?_); (case side1 => exact HO536.out); rintro e w41 ⟨v541, rfl, ho0, hb⟩; replace HO524 := ak (Kd.V_elder' (vq_ HO524) (Kd.N_base ho0) hb); replace HO530 := ak (Kd.V_elder' (vq_ HO530) (Kd.N_base ho0) hb); replace HO536 := ak (Kd.V_elder' (vq_ HO536) (Kd.N_base ho0) hb); replace HO542 := ak (Kd.N_lower (Kd.N_mono (ok' := fun k_ => some k_ ≠ (.slice Ao32 y519.length co32 : Value).ownBlock ∧ some k_ ≠ (.slice Ao39 t525.length co39 : Value).ownBlock ∧ some k_ ≠ (.slice Ao37 t531.length co37 : Value).ownBlock ∧ some k_ ≠ (.slice Ao38 t537.length co38 : Value).ownBlock) ho0 (fun k_ hk_ => ⟨Or.elim hk_ (fun hs_ => hs_.2.1) (fun hn_ => (Kd.fresh' (Kd.R_lt (rq_ HO521)) k_ hn_)), Or.elim hk_ (fun hs_ => hs_.2.2.1) (fun hn_ => (Kd.fresh' (Kd.R_lt (rq_ HO527)) k_ hn_)), Or.elim hk_ (fun hs_ => hs_.2.2.2) (fun hn_ => (Kd.fresh' (Kd.R_lt (rq_ HO533)) k_ hn_)), Or.elim hk_ (fun hs_ => hs_.1) (fun hn_ => (Kd.fresh' (Kd.R_lt (rq_ HO539)) k_ hn_))⟩)) bsz_); replace HO521 := rb_ HO521 hb; replace HO527 := rb_ HO527 hb; replace HO533 := rb_ HO533 hb; replace HO539 := rb_ HO539 hb; replace HB := ak (bst_ hb); (try clear hb); (try clear hb2); (try clear hk); (try clear hi); (try clear ho0); obtain ⟨Ao42, co42, eo42⟩ := Kd.V_slice HO524.out; subst eo42) | (go_at_call 16; (with_reducible refine (handshakerlaw15_Refs.calls kj4 (fun k_ => ((((some k_ ≠ (.slice Ao39 t525.length co39 : Value).ownBlock ∧ some k_ ≠ (.slice Ao32 y519.length co32 : Value).ownBlock) ∧ some k_ ≠ (.slice Ao37 t531.length co37 : Value).ownBlock) ∧ some k_ ≠ (.slice Ao38 t537.length co38 : Value).ownBlock) ∧ some k_ ≠ (v541 : Value).ownBlock)) _ _ t522 t543 _ ?side1 A24.out).mono ?_); (case side1 => exact HO524.out); rintro e w43 ⟨v544, rfl, ho0, hb⟩; replace HO524 := ak (Kd.V_elder' (vq_ HO524) (Kd.N_base ho0) hb); replace HO530 := ak (Kd.V_elder' (vq_ HO530) (Kd.N_base ho0) hb); replace HO536 := ak (Kd.V_elder' (vq_ HO536) (Kd.N_base ho0) hb); replace HO545 := ak (Kd.N_lower (Kd.N_mono (ok' := fun k_ => some k_ ≠ (.slice Ao32 y519.length co32 : Value).ownBlock ∧ some k_ ≠ (.slice Ao39 t525.length co39 : Value).ownBlock ∧ some k_ ≠ (.slice Ao37 t531.length co37 : Value).ownBlock ∧ some k_ ≠ (.slice Ao38 t537.length co38 : Value).ownBlock ∧ some k_ ≠ (v541 : Value).ownBlock) ho0 (fun k_ hk_ => ⟨Or.elim hk_ (fun hs_ => hs_.1.1.1.2) (fun hn_ => (Kd.fresh' (Kd.R_lt (rq_ HO521)) k_ hn_)), Or.elim hk_ (fun hs_ => hs_.1.1.1.1) (fun hn_ => (Kd.fresh' (Kd.R_lt (rq_ HO527)) k_ hn_)), Or.elim hk_ (fun hs_ => hs_.1.1.2) (fun hn_ => (Kd.fresh' (Kd.R_lt (rq_ HO533)) k_ hn_)), Or.elim hk_ (fun hs_ => hs_.1.2) (fun hn_ => (Kd.fresh' (Kd.R_lt (rq_ HO539)) k_ hn_)), Or.elim hk_ (fun hs_ => hs_.2) (fun hn_ => (Kd.fresh' (Kd.N_lt (nq_ HO542)) k_ hn_))⟩)) bsz_); replace HO521 := rb_ HO521 hb; replace HO527 := rb_ HO527 hb; replace HO533 := rb_ HO533 hb; replace HO539 := rb_ HO539 hb; replace HO542 := ak (Kd.N_elder' (nq_ HO542) (Kd.N_base ho0) hb); replace HB := ak (bst_ hb); (try clear hb); (try clear hb2); (try clear hk); (try clear hi); (try clear ho0); obtain ⟨Ao44, co44, eo44⟩ := Kd.N_slice HO542.out; subst eo44; obtain ⟨Ao45, co45, eo45⟩ := Kd.N_slice HO545.out; subst eo45) | (go_at_call 27; (with_reducible refine (handshakerref15_Same.calls kj4 _ _ t540 _ _ t543 true _ ?side1 ?side2 ?side3 ?side4 A25.out).mono ?_); (case side1 => repeat (first | exact (Kd.N_reads' HO542.out).2.2 | with_reducible first | refine Kd.C_alloc ?_ _ | refine Kd.C_drewN ?_ _ | refine Kd.C_drew ?_)); (case side2 => exact (Kd.N_reads' HO542.out).2.1); (case side3 => repeat (first | exact (Kd.N_reads' HO545.out).2.2 | with_reducible first | refine Kd.C_alloc ?_ _ | refine Kd.C_drewN ?_ _ | refine Kd.C_drew ?_)); (case side4 => exact (Kd.N_reads' HO545.out).2.1); rintro e w46 ⟨rfl, hb⟩; replace HO521 := rb_ HO521 hb; replace HO524 := vb_ HO524 hb; replace HO527 := rb_ HO527 hb; replace HO530 := vb_ HO530 hb; replace HO533 := rb_ HO533 hb; replace HO536 := vb_ HO536 hb; replace HO539 := rb_ HO539 hb; replace HO542 := nb_ HO542 hb; replace HO545 := nb_ HO545 hb; replace HB := ak (bst_ hb); (try clear hb); (try clear hb2); (try clear hk); (try clear hi)) | (go_at_call 35; (with_reducible refine (handshakerlaw16_awake.calls kj4  t547 _ A27.out).mono ?_); rintro e w47 ⟨rfl, hb⟩; replace HO521 := rb_ HO521 hb; replace HO524 := vb_ HO524 hb; replace HO527 := rb_ HO527 hb; replace HO530 := vb_ HO530 hb; replace HO533 := rb_ HO533 hb; replace HO536 := vb_ HO536 hb; replace HO539 := rb_ HO539 hb; replace HO542 := nb_ HO542 hb; replace HO545 := nb_ HO545 hb; replace HB := ak (bst_ hb); (try clear hb); (try clear hb2); (try clear hk); (try clear hi)))
             go_ret
             exact ⟨by first | rfl | (simp [errW_none, errW_some] <;> rfl) | (simp [*, errW_none, errW_some] <;> rfl), bsv_⟩
           · replace c26 := Bool.eq_false_iff.mpr c26
             subst c26
             rw [if_neg (show ¬ (false = true) by decide)] at H
             exact absurd (Option.some.inj H) (by rw [HT.out]; decide)
         · rw [if_neg c22] at H
           have c22b0 : ((wrap64 ((t531.length : Int) + (t537.length : Int))) == (t525.length : Int)) = false := beq_eq_false_iff_ne.mpr c22
           have c22b1 : ((wrap64 ((t531.length : Int) + (t537.length : Int))) != (t525.length : Int)) = true := bne_iff_ne.mpr c22
           exact absurd (Option.some.inj H) (by rw [HT.out]; decide)
       · rw [if_neg c18] at H
         exact absurd H (by simp)
     · rw [if_neg c17] at H
       exact absurd H (by simp)

/-- THE ONE PURE STATEMENT of handshakerlaw16_FilterParts. -/
def handshakerlaw16_FilterParts.Pure : Prop := ∀ (l0 : List (S26)) (l1 : List (S98)) (l2 : List (S62)) (l3 : List (S62)), l0.length ≤ maxLen → l0.length * 72 ≤ 140737488351232 → (∀ y ∈ l0, wfS26 y) → l1.length ≤ maxLen → l1.length * 16 ≤ 140737488351232 → (∀ y ∈ l1, wfS98 y) → l2.length ≤ maxLen → l2.length * 16 ≤ 140737488351232 → (∀ y ∈ l2, wfS62 y) → l3.length ≤ maxLen → l3.length * 16 ≤ 140737488351232 → (∀ y ∈ l3, wfS62 y) → ∃ k, handshakerlaw16_FilterParts.f k l0 l1 l2 l3 = some true

end Go.Proofs.Ytjnkpocfmpbpoaa.F
