-- PRINTED by print.py (a twelfth state) out of the translation. Not trusted: Lean checks it.
import Derived.Test.YtjnkpocfmpbpoaaFx0
import Derived.Test.YtjnkpocfmpbpoaaFx11
import Derived.Test.YtjnkpocfmpbpoaaFx12
import Derived.Test.YtjnkpocfmpbpoaaFx13
namespace Go.Proofs.Ytjnkpocfmpbpoaa.F
open Go.Proofs.Ytjnkpocfmpbpoaa.Ho
open Go.RowKit Go.Proofs.YtjnkpocfmpbpoaaW.PrintWords Go.Proofs.YtjnkpocfmpbpoaaW.PrintLast Go.Proofs.YtjnkpocfmpbpoaaW.PrintMore
attribute [local go_sem] max2_int min2_int max_two min_two max_three min_three max_four min_four   -- for this text's walks alone
set_option linter.unusedVariables false
set_option linter.unusedSimpArgs false

/-! ### handshakerlaw16_FilterModes: function 13 -/
mutual
def handshakerlaw16_FilterModes.j0 : Nat → List (S62) → List (S98) → List (S62) → Int → Bool → Option (Bool)
 | 0, _, _, _, _, _ => none
 | k + 1, x0, x1, x2, x3, x33 => if x33 = true then ((handshakerlaw16_awake.f k).bind fun t415 => (some t415)) else ((some (([(⟨wrap64 (1 + (wrap64 (Int.tmod x3 8))), 2, 0, x0, ([] : List (S80))⟩ : S26)] : List (S26)) : List (S26))).bind fun y419 => ((filter_Woken.f k (([(⟨wrap64 (1 + (wrap64 (Int.tmod x3 8))), 1, 0, x0, ([] : List (S80))⟩ : S26)] : List (S26))) x1 x2).bind fun t422 => ((filter_Woken.f k y419 x1 x2).bind fun t425 => (if (t425.length : Int) > (t422.length : Int) then (handshakerlaw16_FilterModes.j1 k x0 x1 x2 y419 t422 true) else (handshakerlaw16_FilterModes.j1 k x0 x1 x2 y419 t422 (decide ((t422.length : Int) > 1)))))))
def handshakerlaw16_FilterModes.j1 : Nat → List (S62) → List (S98) → List (S62) → List (S26) → List Int → Bool → Option (Bool)
 | 0, _, _, _, _, _, _ => none
 | k + 1, x0, x1, x2, x11, x12, x64 => if x64 = true then (some false) else (handshakerlaw16_FilterModes.l0 k x0 x1 x11 x12 false x2 (x2.length : Int) 0)
def handshakerlaw16_FilterModes.l0 : Nat → List (S62) → List (S98) → List (S26) → List Int → Bool → List (S62) → Int → Int → Option (Bool)
 | 0, _, _, _, _, _, _, _, _ => none
 | k + 1, x0, x1, x11, x12, x14, x65, x66, x67 => if x67 < x66 then (if 0 ≤ x67 then (if x67 < (x65.length : Int) then (handshakerlaw16_FilterModes.l1 k x0 x1 x11 x12 x14 x65 x66 x67 x0 (x0.length : Int) 0 ((rd_T62 x65 x67).f0) ((rd_T62 x65 x67).f1)) else (none)) else (none)) else (if x14 = true then (handshakerlaw16_FilterModes.j4 k x0 x1 x11 false) else (handshakerlaw16_FilterModes.j4 k x0 x1 x11 (decide ((x12.length : Int) > 0))))
def handshakerlaw16_FilterModes.l1 : Nat → List (S62) → List (S98) → List (S26) → List Int → Bool → List (S62) → Int → Int → List (S62) → Int → Int → Int → Int → Option (Bool)
 | 0, _, _, _, _, _, _, _, _, _, _, _, _, _ => none
 | k + 1, x0, x1, x11, x12, x14, x65, x66, x67, x71, x72, x73, x430000, x430001 => if x73 < x72 then (if 0 ≤ x73 then (if x73 < (x71.length : Int) then (if x14 = true then (handshakerlaw16_FilterModes.l1 k x0 x1 x11 x12 true x65 x66 x67 x71 x72 (wrap64 (x73 + 1)) x430000 x430001) else (handshakerlaw16_FilterModes.l1 k x0 x1 x11 x12 (x430000 == ((rd_T62 x71 x73).f0)) x65 x66 x67 x71 x72 (wrap64 (x73 + 1)) x430000 x430001)) else (none)) else (none)) else (handshakerlaw16_FilterModes.l0 k x0 x1 x11 x12 x14 x65 x66 (wrap64 (x67 + 1)))
def handshakerlaw16_FilterModes.j4 : Nat → List (S62) → List (S98) → List (S26) → Bool → Option (Bool)
 | 0, _, _, _, _ => none
 | k + 1, x0, x1, x11, x93 => if x93 = true then (some false) else ((heap_Put.f k x1 x0).bind fun bt432 => (if bt432.2 = 0 then ((filter_Woken.f k x11 bt432.1 x0).bind fun t436 => (if (t436.length : Int) = 0 then ((handshakerlaw16_awake.f k).bind fun t439 => (some t439)) else (some false))) else ((handshakerlaw16_awake.f k).bind fun t440 => (some t440))))
end
def handshakerlaw16_FilterModes.f (k : Nat) (l0 : List (S62)) (l1 : List (S98)) (l2 : List (S62)) (a3 : Int) : Option (Bool) := if (l0.length : Int) > 24 then (handshakerlaw16_FilterModes.j0 k l0 l1 l2 a3 true) else (if (l1.length : Int) > 64 then (handshakerlaw16_FilterModes.j0 k l0 l1 l2 a3 true) else (handshakerlaw16_FilterModes.j0 k l0 l1 l2 a3 (decide ((l2.length : Int) > 40))))
theorem handshakerlaw16_FilterModes.mono_l : ∀ k, (∀ y0 y1 y2 y3 y4, LeO (handshakerlaw16_FilterModes.j0 k y0 y1 y2 y3 y4) (handshakerlaw16_FilterModes.j0 (k + 1) y0 y1 y2 y3 y4)) ∧ (∀ y0 y1 y2 y3 y4 y5, LeO (handshakerlaw16_FilterModes.j1 k y0 y1 y2 y3 y4 y5) (handshakerlaw16_FilterModes.j1 (k + 1) y0 y1 y2 y3 y4 y5)) ∧ (∀ y0 y1 y2 y3 y4 y5 y6 y7, LeO (handshakerlaw16_FilterModes.l0 k y0 y1 y2 y3 y4 y5 y6 y7) (handshakerlaw16_FilterModes.l0 (k + 1) y0 y1 y2 y3 y4 y5 y6 y7)) ∧ (∀ y0 y1 y2 y3 y4 y5 y6 y7 y8 y9 y10 y11 y12, LeO (handshakerlaw16_FilterModes.l1 k y0 y1 y2 y3 y4 y5 y6 y7 y8 y9 y10 y11 y12) (handshakerlaw16_FilterModes.l1 (k + 1) y0 y1 y2 y3 y4 y5 y6 y7 y8 y9 y10 y11 y12)) ∧ (∀ y0 y1 y2 y3, LeO (handshakerlaw16_FilterModes.j4 k y0 y1 y2 y3) (handshakerlaw16_FilterModes.j4 (k + 1) y0 y1 y2 y3))
 | 0 => ⟨fun _ _ _ _ _ r h => by simp [handshakerlaw16_FilterModes.j0] at h, fun _ _ _ _ _ _ r h => by simp [handshakerlaw16_FilterModes.j1] at h, fun _ _ _ _ _ _ _ _ r h => by simp [handshakerlaw16_FilterModes.l0] at h, fun _ _ _ _ _ _ _ _ _ _ _ _ _ r h => by simp [handshakerlaw16_FilterModes.l1] at h, fun _ _ _ _ r h => by simp [handshakerlaw16_FilterModes.j4] at h⟩
 | k + 1 => by
  obtain ⟨ih0, ih1, ih2, ih3, ih4⟩ := handshakerlaw16_FilterModes.mono_l k
  refine ⟨?_, ?_, ?_, ?_, ?_⟩
  · intro y0 y1 y2 y3 y4
    unfold handshakerlaw16_FilterModes.j0
    repeat' first
    | (with_reducible exact ih0 _ _ _ _ _)
    | (with_reducible exact ih1 _ _ _ _ _ _)
    | (with_reducible exact ih2 _ _ _ _ _ _ _ _)
    | (with_reducible exact ih3 _ _ _ _ _ _ _ _ _ _ _ _ _)
    | (with_reducible exact ih4 _ _ _ _)
    | (with_reducible exact filter_Woken.mono _ _ _ _)
    | (with_reducible exact handshakerlaw16_awake.mono _)
    | (with_reducible exact heap_Put.mono _ _ _)
    | (with_reducible exact LeO.refl _)
    | (with_reducible exact LeO.none _)
    | (with_reducible refine LeO.ite ?_ ?_)
    | (with_reducible refine LeO.bind ?_ (fun _ => ?_))
    | exact ih0 _ _ _ _ _
    | exact ih1 _ _ _ _ _ _
    | exact ih2 _ _ _ _ _ _ _ _
    | exact ih3 _ _ _ _ _ _ _ _ _ _ _ _ _
    | exact ih4 _ _ _ _
    | exact filter_Woken.mono _ _ _ _
    | exact handshakerlaw16_awake.mono _
    | exact heap_Put.mono _ _ _
    | exact LeO.none _
    | refine LeO.ite ?_ ?_
    | refine LeO.bind ?_ (fun _ => ?_)
  · intro y0 y1 y2 y3 y4 y5
    unfold handshakerlaw16_FilterModes.j1
    repeat' first
    | (with_reducible exact ih0 _ _ _ _ _)
    | (with_reducible exact ih1 _ _ _ _ _ _)
    | (with_reducible exact ih2 _ _ _ _ _ _ _ _)
    | (with_reducible exact ih3 _ _ _ _ _ _ _ _ _ _ _ _ _)
    | (with_reducible exact ih4 _ _ _ _)
    | (with_reducible exact filter_Woken.mono _ _ _ _)
    | (with_reducible exact handshakerlaw16_awake.mono _)
    | (with_reducible exact heap_Put.mono _ _ _)
    | (with_reducible exact LeO.refl _)
    | (with_reducible exact LeO.none _)
    | (with_reducible refine LeO.ite ?_ ?_)
    | (with_reducible refine LeO.bind ?_ (fun _ => ?_))
    | exact ih0 _ _ _ _ _
    | exact ih1 _ _ _ _ _ _
    | exact ih2 _ _ _ _ _ _ _ _
    | exact ih3 _ _ _ _ _ _ _ _ _ _ _ _ _
    | exact ih4 _ _ _ _
    | exact filter_Woken.mono _ _ _ _
    | exact handshakerlaw16_awake.mono _
    | exact heap_Put.mono _ _ _
    | exact LeO.none _
    | refine LeO.ite ?_ ?_
    | refine LeO.bind ?_ (fun _ => ?_)
  · intro y0 y1 y2 y3 y4 y5 y6 y7
    unfold handshakerlaw16_FilterModes.l0
    repeat' first
    | (with_reducible exact ih0 _ _ _ _ _)
    | (with_reducible exact ih1 _ _ _ _ _ _)
    | (with_reducible exact ih2 _ _ _ _ _ _ _ _)
    | (with_reducible exact ih3 _ _ _ _ _ _ _ _ _ _ _ _ _)
    | (with_reducible exact ih4 _ _ _ _)
    | (with_reducible exact filter_Woken.mono _ _ _ _)
    | (with_reducible exact handshakerlaw16_awake.mono _)
    | (with_reducible exact heap_Put.mono _ _ _)
    | (with_reducible exact LeO.refl _)
    | (with_reducible exact LeO.none _)
    | (with_reducible refine LeO.ite ?_ ?_)
    | (with_reducible refine LeO.bind ?_ (fun _ => ?_))
    | exact ih0 _ _ _ _ _
    | exact ih1 _ _ _ _ _ _
    | exact ih2 _ _ _ _ _ _ _ _
    | exact ih3 _ _ _ _ _ _ _ _ _ _ _ _ _
    | exact ih4 _ _ _ _
    | exact filter_Woken.mono _ _ _ _
    | exact handshakerlaw16_awake.mono _
    | exact heap_Put.mono _ _ _
    | exact LeO.none _
    | refine LeO.ite ?_ ?_
    | refine LeO.bind ?_ (fun _ => ?_)
  · intro y0 y1 y2 y3 y4 y5 y6 y7 y8 y9 y10 y11 y12
    unfold handshakerlaw16_FilterModes.l1
    repeat' first
    | (with_reducible exact ih0 _ _ _ _ _)
    | (with_reducible exact ih1 _ _ _ _ _ _)
    | (with_reducible exact ih2 _ _ _ _ _ _ _ _)
    | (with_reducible exact ih3 _ _ _ _ _ _ _ _ _ _ _ _ _)
    | (with_reducible exact ih4 _ _ _ _)
    | (with_reducible exact filter_Woken.mono _ _ _ _)
    | (with_reducible exact handshakerlaw16_awake.mono _)
    | (with_reducible exact heap_Put.mono _ _ _)
    | (with_reducible exact LeO.refl _)
    | (with_reducible exact LeO.none _)
    | (with_reducible refine LeO.ite ?_ ?_)
    | (with_reducible refine LeO.bind ?_ (fun _ => ?_))
    | exact ih0 _ _ _ _ _
    | exact ih1 _ _ _ _ _ _
    | exact ih2 _ _ _ _ _ _ _ _
    | exact ih3 _ _ _ _ _ _ _ _ _ _ _ _ _
    | exact ih4 _ _ _ _
    | exact filter_Woken.mono _ _ _ _
    | exact handshakerlaw16_awake.mono _
    | exact heap_Put.mono _ _ _
    | exact LeO.none _
    | refine LeO.ite ?_ ?_
    | refine LeO.bind ?_ (fun _ => ?_)
  · intro y0 y1 y2 y3
    unfold handshakerlaw16_FilterModes.j4
    repeat' first
    | (with_reducible exact ih0 _ _ _ _ _)
    | (with_reducible exact ih1 _ _ _ _ _ _)
    | (with_reducible exact ih2 _ _ _ _ _ _ _ _)
    | (with_reducible exact ih3 _ _ _ _ _ _ _ _ _ _ _ _ _)
    | (with_reducible exact ih4 _ _ _ _)
    | (with_reducible exact filter_Woken.mono _ _ _ _)
    | (with_reducible exact handshakerlaw16_awake.mono _)
    | (with_reducible exact heap_Put.mono _ _ _)
    | (with_reducible exact LeO.refl _)
    | (with_reducible exact LeO.none _)
    | (with_reducible refine LeO.ite ?_ ?_)
    | (with_reducible refine LeO.bind ?_ (fun _ => ?_))
    | exact ih0 _ _ _ _ _
    | exact ih1 _ _ _ _ _ _
    | exact ih2 _ _ _ _ _ _ _ _
    | exact ih3 _ _ _ _ _ _ _ _ _ _ _ _ _
    | exact ih4 _ _ _ _
    | exact filter_Woken.mono _ _ _ _
    | exact handshakerlaw16_awake.mono _
    | exact heap_Put.mono _ _ _
    | exact LeO.none _
    | refine LeO.ite ?_ ?_
    | refine LeO.bind ?_ (fun _ => ?_)
theorem handshakerlaw16_FilterModes.mono : ∀ a0 a1 a2 a3 k, LeO (handshakerlaw16_FilterModes.f k a0 a1 a2 a3) (handshakerlaw16_FilterModes.f (k + 1) a0 a1 a2 a3) := by
 intro a0 a1 a2 a3 k
 obtain ⟨ih0, ih1, ih2, ih3, ih4⟩ := handshakerlaw16_FilterModes.mono_l k
 unfold handshakerlaw16_FilterModes.f
 repeat' first
  | (with_reducible exact ih0 _ _ _ _ _)
  | (with_reducible exact ih1 _ _ _ _ _ _)
  | (with_reducible exact ih2 _ _ _ _ _ _ _ _)
  | (with_reducible exact ih3 _ _ _ _ _ _ _ _ _ _ _ _ _)
  | (with_reducible exact ih4 _ _ _ _)
  | (with_reducible exact filter_Woken.mono _ _ _ _)
  | (with_reducible exact handshakerlaw16_awake.mono _)
  | (with_reducible exact heap_Put.mono _ _ _)
  | (with_reducible exact LeO.refl _)
  | (with_reducible exact LeO.none _)
  | (with_reducible refine LeO.ite ?_ ?_)
  | (with_reducible refine LeO.bind ?_ (fun _ => ?_))
  | exact ih0 _ _ _ _ _
  | exact ih1 _ _ _ _ _ _
  | exact ih2 _ _ _ _ _ _ _ _
  | exact ih3 _ _ _ _ _ _ _ _ _ _ _ _ _
  | exact ih4 _ _ _ _
  | exact filter_Woken.mono _ _ _ _
  | exact handshakerlaw16_awake.mono _
  | exact heap_Put.mono _ _ _
  | exact LeO.none _
  | refine LeO.ite ?_ ?_
  | refine LeO.bind ?_ (fun _ => ?_)
set_option maxHeartbeats 8000000 in
set_option maxRecDepth 100000 in
theorem handshakerlaw16_FilterModes.calls (k : Nat) (P0_ : Nat → Prop) (A0 : Option Addr) (c0 : Nat) (l0 : List (S62)) (P1_ : Nat → Prop) (A1 : Option Addr) (c1 : Nat) (l1 : List (S98)) (A2 : Option Addr) (c2 : Nat) (l2 : List (S62)) (a3 : Int) (r : Bool) (w : World) (HT : Aside0 (r = true)) (hs0 : Kd.V k62 62 w w.heap.size (fun k_ => P0_ k_) (.slice A0 l0.length c0) l0) (hs1 : Kd.V k98 98 w w.heap.size (fun k_ => P1_ k_) (.slice A1 l1.length c1) l1) (hr2 : Kd.C k62 w A2 l2.length l2) (hc2 : l2.length ≤ c2) (h : handshakerlaw16_FilterModes.f k l0 l1 l2 a3 = some r) :
 Calls Try.prog 13 #[.slice A0 l0.length c0, .slice A1 l1.length c1, .slice A2 l2.length c2, .int .u8 a3] w fun e w' => e = .returned (.bool r) ∧ Below w.heap.size w w' := by
 have hu26 := Try.underlying26
 have hu62 := Try.underlying62
 have HO0 := ak (show Kd.V k62 62 w w.heap.size (fun k_ => ((P0_ k_ ∨ P1_ k_) ∨ w.heap.size ≤ k_)) (.slice A0 l0.length c0) l0 from Kd.V_mono hs0 (fun k_ hk => .inl (.inl hk)))
 have HO1 := ak (show Kd.V k98 98 w w.heap.size (fun k_ => ((P0_ k_ ∨ P1_ k_) ∨ w.heap.size ≤ k_)) (.slice A1 l1.length c1) l1 from Kd.V_mono hs1 (fun k_ hk => .inl (.inr hk)))
 have HR2 := ak hr2
 have HC2 := ak hc2
 clear hr2 hc2
 have HB := ak (Below.refl w.heap.size w)
 have H : (if (l0.length : Int) > 24 then (handshakerlaw16_FilterModes.j0 k l0 l1 l2 a3 true) else (if (l1.length : Int) > 64 then (handshakerlaw16_FilterModes.j0 k l0 l1 l2 a3 true) else (handshakerlaw16_FilterModes.j0 k l0 l1 l2 a3 (decide ((l2.length : Int) > 40))))) = some r := h
 clear h
 have HC5 := ak H
 clear H
 go_enter Try.func13, Try.ntmps13
 go_upto_region 1 with (fail)
 go_cut [33] (fun v33 wc => ∃ (kq : Nat) (x33_4 : Bool), v33 = .bool x33_4 ∧ Aside0 (handshakerlaw16_FilterModes.j0 kq l0 l1 l2 a3 x33_4 = some r) ∧ Aside0 (kq ≤ k) ∧ Aside0 (Kd.V k62 62 wc w.heap.size (fun k_ => ((P0_ k_ ∨ P1_ k_) ∨ w.heap.size ≤ k_)) (.slice A0 l0.length c0) l0) ∧ Aside0 (Kd.V k98 98 wc w.heap.size (fun k_ => ((P0_ k_ ∨ P1_ k_) ∨ w.heap.size ≤ k_)) (.slice A1 l1.length c1) l1) ∧ Aside0 (Below w.heap.size w wc))
 case first =>
  have H := HC5.out
  clear HC5
  by_cases c6 : (l0.length : Int) > 24
  · rw [if_pos c6] at H
    have c6b0 : decide (24 < (l0.length : Int)) = true := decide_eq_true c6
    have c6b1 : decide (24 < l0.length) = true := decide_eq_true (by omega)
    clear c6
    (first | rw [c6b0] | (simp only [i64_w, i32_w]; rw [c6b0]) | skip)
    have H' := ak H
    clear H
    go_wp2
    go_meet
    case rel => exact ⟨_, (true), (by first | rfl | (simp; done) | (simp [*]; done)), H', ⟨by first | omega | exact Nat.le_refl _⟩, ⟨vq_ HO0⟩, ⟨vq_ HO1⟩, ⟨bsv_⟩⟩
  · rw [if_neg c6] at H
    have c6b0 : decide (24 < (l0.length : Int)) = false := decide_eq_false c6
    have c6b1 : decide (24 < l0.length) = false := decide_eq_false (by omega)
    clear c6
    (first | rw [c6b0] | (simp only [i64_w, i32_w]; rw [c6b0]) | skip)
    by_cases c7 : (l1.length : Int) > 64
    · rw [if_pos c7] at H
      have c7b0 : decide (64 < (l1.length : Int)) = true := decide_eq_true c7
      have c7b1 : decide (64 < l1.length) = true := decide_eq_true (by omega)
      clear c7
      have H' := ak H
      clear H
      go_wp2
      go_meet
      case rel => exact ⟨_, (true), (by first | rfl | (simp; done) | (simp [*]; done)), H', ⟨by first | omega | exact Nat.le_refl _⟩, ⟨vq_ HO0⟩, ⟨vq_ HO1⟩, ⟨bsv_⟩⟩
    · rw [if_neg c7] at H
      have c7b0 : decide (64 < (l1.length : Int)) = false := decide_eq_false c7
      have c7b1 : decide (64 < l1.length) = false := decide_eq_false (by omega)
      clear c7
      have H' := ak H
      clear H
      go_wp2
      go_meet
      case rel => exact ⟨_, (decide ((l2.length : Int) > 40)), (by first | rfl | (simp; done) | (simp [*]; done)), H', ⟨by first | omega | exact Nat.le_refl _⟩, ⟨vq_ HO0⟩, ⟨vq_ HO1⟩, ⟨bsv_⟩⟩
 case rest =>
  clear HC5
  try clear c1
  try clear c2
  try clear p2
  try clear c6
  try clear c6b0
  try clear c6b1
  try clear c7
  try clear c7b0
  try clear c7b1
  obtain ⟨kq, x33_4, rfl, HA, HJ4, HO_0, HO_1, HB⟩ := hcut
  cases kq with
  | zero => exact absurd HA.out (by simp [handshakerlaw16_FilterModes.j0])
  | succ kj4 =>
   have H := HA.out
   clear HA
   simp only [handshakerlaw16_FilterModes.j0] at H
   by_cases c8 : x33_4 = true
   · subst c8
     rw [if_pos rfl] at H
     obtain ⟨t415, A9, H⟩ := bd_ H
     obtain rfl := Option.some.inj H
     go_wp2_with (first | ((with_reducible refine gate_callee (f := 35) rfl ?_); refine goesL_ (some 34) rfl rfl Try.func35 (by kernel_rfl) rfl #[] rfl mp_ ?_; (with_reducible refine (handshakerlaw16_awake.calls kj4  t415 _ A9.out).mono ?_); rintro e w10 ⟨rfl, hb⟩; refine ⟨_, rfl, ?_⟩; replace HO_0 := vb_ HO_0 hb; replace HO_1 := vb_ HO_1 hb; replace HB := ak (bst_ hb); (try clear hb); (try clear hb2); (try clear hk); (try clear hi)))
     go_ret
     exact ⟨by first | rfl | (simp [errW_none, errW_some] <;> rfl) | (simp [*, errW_none, errW_some] <;> rfl), bsv_⟩
   · replace c8 := Bool.eq_false_iff.mpr c8
     subst c8
     rw [if_neg (show ¬ (false = true) by decide)] at H
     obtain ⟨y416, hy416⟩ : ∃ y_ : List (S26), y_ = (([(⟨wrap64 (1 + (wrap64 (Int.tmod a3 8))), 1, 0, l0, ([] : List (S80))⟩ : S26)] : List (S26))) := ⟨_, rfl⟩
     replace H : ((some (([(⟨wrap64 (1 + (wrap64 (Int.tmod a3 8))), 2, 0, l0, ([] : List (S80))⟩ : S26)] : List (S26)) : List (S26))).bind fun y419 => ((filter_Woken.f kj4 y416 l1 l2).bind fun t422 => ((filter_Woken.f kj4 y419 l1 l2).bind fun t425 => (if (t425.length : Int) > (t422.length : Int) then (handshakerlaw16_FilterModes.j1 kj4 l0 l1 l2 y419 t422 true) else (handshakerlaw16_FilterModes.j1 kj4 l0 l1 l2 y419 t422 (decide ((t422.length : Int) > 1))))))) = some r := by first | (rw [hy416]; with_reducible exact H) | (have H2_ := (Option.bind_some _ _).symm.trans H; rw [hy416]; with_reducible exact H2_) | (have H2_ := (Option.bind_some _ _).symm.trans H; with_reducible exact H2_) | with_reducible exact H | (rw [hy416]; exact H) | exact H
     have Ny416 := ak hy416
     clear hy416
     obtain ⟨y419, hy419⟩ : ∃ y_ : List (S26), y_ = (([(⟨wrap64 (1 + (wrap64 (Int.tmod a3 8))), 2, 0, l0, ([] : List (S80))⟩ : S26)] : List (S26))) := ⟨_, rfl⟩
     replace H : ((filter_Woken.f kj4 y416 l1 l2).bind fun t422 => ((filter_Woken.f kj4 y419 l1 l2).bind fun t425 => (if (t425.length : Int) > (t422.length : Int) then (handshakerlaw16_FilterModes.j1 kj4 l0 l1 l2 y419 t422 true) else (handshakerlaw16_FilterModes.j1 kj4 l0 l1 l2 y419 t422 (decide ((t422.length : Int) > 1)))))) = some r := by first | (rw [hy419]; with_reducible exact H) | (have H2_ := (Option.bind_some _ _).symm.trans H; rw [hy419]; with_reducible exact H2_) | (have H2_ := (Option.bind_some _ _).symm.trans H; with_reducible exact H2_) | with_reducible exact H | (rw [hy419]; exact H) | exact H
     have Ny419 := ak hy419
     clear hy419
     obtain ⟨t422, A11, H⟩ := bd_ H
     obtain ⟨t425, A12, H⟩ := bd_ H
     have HC13 := ak H
     clear H
     go_upto_region 7 with (first | ((with_reducible refine gate_dst (N := 42) rfl ?_); (try (refine gate_guard (by rfl) ?_; dsimp only)); refine Kd.N_lit k26 _ 26 ?hg (N' := 42) ?hd (xs := ([(⟨wrap64 (1 + (wrap64 (Int.tmod a3 8))), 1, 0, l0, ([] : List (S80))⟩ : S26)] : List (S26))) (inner := [.int .i64 (wrap64 (1 + (wrap64 (Int.tmod a3 8)))), .int .i64 1, .int .i64 0, .slice A0 l0.length c0, .slice none 0 0]) (ok := (fun k_ => ((P0_ k_ ∨ P1_ k_) ∨ w.heap.size ≤ k_))) (okp := (fun k_ => ((P0_ k_ ∨ P1_ k_) ∨ w.heap.size ≤ k_))) ?hr ?hp (fun _ hk => hk) ((show ∀ k_, wc.heap.size ≤ k_ → (fun k_ => ((P0_ k_ ∨ P1_ k_) ∨ w.heap.size ≤ k_)) k_ from fun k_ hk => (.inr (Nat.le_trans bsz_ hk))) _ (Nat.le_refl _)) (Below.refl _ _) (Nat.le_refl _) (by simp) ?_; (case hd => rfl); (case hg => rfl); (case hr => first | (go_simp; done) | (go_simp; rfl)); (case hp => exact (Reps.c5 (show Kd.FK k26 _ _ (⟨wrap64 (1 + (wrap64 (Int.tmod a3 8))), 1, 0, l0, ([] : List (S80))⟩ : S26) [.int .i64 (wrap64 (1 + (wrap64 (Int.tmod a3 8)))), .int .i64 1, .int .i64 0, .slice A0 l0.length c0, .slice none 0 0] from (k26_mkF _ _ (⟨wrap64 (1 + (wrap64 (Int.tmod a3 8))), 1, 0, l0, ([] : List (S80))⟩ : S26) (Kd.V_reads' (Kd.V_mono (ok' := (fun k_ => ((P0_ k_ ∨ P1_ k_) ∨ w.heap.size ≤ k_))) (HO_0.out) (fun k_ hk => hk))).2.1 (Kd.V_F (Kd.V_mono (ok' := (fun k_ => ((P0_ k_ ∨ P1_ k_) ∨ w.heap.size ≤ k_))) (HO_0.out) (fun k_ hk => hk))) (Nat.le_refl _) (Kd.F_nil _ _ _))) (Reps.none _ _))); intro v417 w14 ho15 hb hg_ hnew_; clear hg_ hnew_; (first | rw [← Ny416.out] at ho15 | (simp only [Int.reduceToNat] at ho15; rw [← Ny416.out] at ho15)); replace HO_0 := ak (Kd.V_elder' (vq_ HO_0) (Kd.N_base ho15) hb); replace HO_1 := ak (Kd.V_elder' (vq_ HO_1) (Kd.N_base ho15) hb); replace HO418 := ak (Kd.N_lower ho15 bsz_); replace HB := ak (bst_ hb); clear hb ho15) | ((with_reducible refine gate_dst (N := 46) rfl ?_); (try (refine gate_guard (by rfl) ?_; dsimp only)); refine Kd.N_lit k26 _ 26 ?hg (N' := 46) ?hd (xs := ([(⟨wrap64 (1 + (wrap64 (Int.tmod a3 8))), 2, 0, l0, ([] : List (S80))⟩ : S26)] : List (S26))) (inner := [.int .i64 (wrap64 (1 + (wrap64 (Int.tmod a3 8)))), .int .i64 2, .int .i64 0, .slice A0 l0.length c0, .slice none 0 0]) (ok := (fun k_ => ((P0_ k_ ∨ P1_ k_) ∨ w.heap.size ≤ k_) ∧ some k_ ≠ (v417 : Value).ownBlock)) (okp := (fun k_ => ((P0_ k_ ∨ P1_ k_) ∨ w.heap.size ≤ k_) ∧ some k_ ≠ (v417 : Value).ownBlock)) ?hr ?hp (fun _ hk => hk) ((show ∀ k_, w14.heap.size ≤ k_ → (fun k_ => ((P0_ k_ ∨ P1_ k_) ∨ w.heap.size ≤ k_) ∧ some k_ ≠ (v417 : Value).ownBlock) k_ from fun k_ hk => ⟨(.inr (Nat.le_trans bsz_ hk)), Kd.fresh' (Kd.N_lt (nq_ HO418)) k_ hk⟩) _ (Nat.le_refl _)) (Below.refl _ _) (Nat.le_refl _) (by simp) ?_; (case hd => rfl); (case hg => rfl); (case hr => first | (go_simp; done) | (go_simp; rfl)); (case hp => exact (Reps.c5 (show Kd.FK k26 _ _ (⟨wrap64 (1 + (wrap64 (Int.tmod a3 8))), 2, 0, l0, ([] : List (S80))⟩ : S26) [.int .i64 (wrap64 (1 + (wrap64 (Int.tmod a3 8)))), .int .i64 2, .int .i64 0, .slice A0 l0.length c0, .slice none 0 0] from (k26_mkF _ _ (⟨wrap64 (1 + (wrap64 (Int.tmod a3 8))), 2, 0, l0, ([] : List (S80))⟩ : S26) (Kd.V_reads' (Kd.V_mono (ok' := (fun k_ => ((P0_ k_ ∨ P1_ k_) ∨ w.heap.size ≤ k_) ∧ some k_ ≠ (v417 : Value).ownBlock)) (HO_0.out) (fun k_ hk => ⟨hk.1, hk.2⟩))).2.1 (Kd.V_F (Kd.V_mono (ok' := (fun k_ => ((P0_ k_ ∨ P1_ k_) ∨ w.heap.size ≤ k_) ∧ some k_ ≠ (v417 : Value).ownBlock)) (HO_0.out) (fun k_ hk => ⟨hk.1, hk.2⟩))) (Nat.le_refl _) (Kd.F_nil _ _ _))) (Reps.none _ _))); intro v420 w16 ho17 hb hg_ hnew_; clear hg_ hnew_; (first | rw [← Ny419.out] at ho17 | (simp only [Int.reduceToNat] at ho17; rw [← Ny419.out] at ho17)); replace HO_0 := ak (Kd.V_elder' (vq_ HO_0) (Kd.N_base ho17) hb); replace HO_1 := ak (Kd.V_elder' (vq_ HO_1) (Kd.N_base ho17) hb); replace HO418 := ak (Kd.N_elder' (nq_ HO418) (Kd.N_base ho17) hb); replace HO421 := ak (Kd.N_lower ho17 bsz_); replace HB := ak (bst_ hb); clear hb ho17; obtain ⟨Ao18, co18, eo18⟩ := Kd.N_slice HO418.out; subst eo18) | ((with_reducible refine gate_callee (f := 40) rfl ?_); refine goesL_ (some 50) rfl rfl Try.func40 (by kernel_rfl) rfl #[.slice Ao18 y416.length co18, .slice A1 l1.length c1, .slice A2 l2.length c2] rfl mp_ ?_; (with_reducible refine (filter_Woken.calls kj4 _ _ y416 _ _ l1 _ _ l2 t422 _ ?side1 ?side2 ?side3 ?side4 ?side5 ?side6 A11.out).mono ?_); (case side1 => repeat (first | exact (Kd.N_reads' HO418.out).2.2 | with_reducible first | refine Kd.C_alloc ?_ _ | refine Kd.C_drewN ?_ _ | refine Kd.C_drew ?_)); (case side2 => exact (Kd.N_reads' HO418.out).2.1); (case side3 => exact vc_ HO_1); (case side4 => exact vl_ HO_1); (case side5 => repeat (first | exact (Kd.C_below HR2.out HB.out) | with_reducible first | refine Kd.C_alloc ?_ _ | refine Kd.C_drewN ?_ _ | refine Kd.C_drew ?_)); (case side6 => exact HC2.out); rintro e w19 ⟨v423, rfl, ho0, hb⟩; refine ⟨_, rfl, ?_⟩; replace HO_0 := ak (Kd.V_elder' (vq_ HO_0) (Kd.R_base ho0) hb); replace HO_1 := ak (Kd.V_elder' (vq_ HO_1) (Kd.R_base ho0) hb); replace HO418 := ak (Kd.N_elder' (nq_ HO418) (Kd.R_base ho0) hb); replace HO421 := ak (Kd.N_elder' (nq_ HO421) (Kd.R_base ho0) hb); replace HO424 := ak (Kd.R_lower (Kd.R_newM (M := fun k_ => (w.heap.size ≤ k_)) ho0 bsz_ (fun k_ h_ => h_)) bsz_); replace HB := ak (bst_ hb); (try clear hb); (try clear hb2); (try clear hk); (try clear hi); (try clear ho0); obtain ⟨Ao20, co20, eo20⟩ := Kd.N_slice HO421.out; subst eo20) | ((with_reducible refine gate_callee (f := 40) rfl ?_); refine goesL_ (some 54) rfl rfl Try.func40 (by kernel_rfl) rfl #[.slice Ao20 y419.length co20, .slice A1 l1.length c1, .slice A2 l2.length c2] rfl mp_ ?_; (with_reducible refine (filter_Woken.calls kj4 _ _ y419 _ _ l1 _ _ l2 t425 _ ?side1 ?side2 ?side3 ?side4 ?side5 ?side6 A12.out).mono ?_); (case side1 => repeat (first | exact (Kd.N_reads' HO421.out).2.2 | with_reducible first | refine Kd.C_alloc ?_ _ | refine Kd.C_drewN ?_ _ | refine Kd.C_drew ?_)); (case side2 => exact (Kd.N_reads' HO421.out).2.1); (case side3 => exact vc_ HO_1); (case side4 => exact vl_ HO_1); (case side5 => repeat (first | exact (Kd.C_below HR2.out HB.out) | with_reducible first | refine Kd.C_alloc ?_ _ | refine Kd.C_drewN ?_ _ | refine Kd.C_drew ?_)); (case side6 => exact HC2.out); rintro e w21 ⟨v426, rfl, ho0, hb⟩; refine ⟨_, rfl, ?_⟩; replace HO_0 := ak (Kd.V_elder' (vq_ HO_0) (Kd.R_base ho0) hb); replace HO_1 := ak (Kd.V_elder' (vq_ HO_1) (Kd.R_base ho0) hb); replace HO418 := ak (Kd.N_elder' (nq_ HO418) (Kd.R_base ho0) hb); replace HO421 := ak (Kd.N_elder' (nq_ HO421) (Kd.R_base ho0) hb); replace HO427 := ak (Kd.R_lower (Kd.R_new' (Kd.R_newM (M := fun k_ => (w.heap.size ≤ k_)) ho0 bsz_ (fun k_ h_ => h_)) (Kd.R_lt (rq_ HO424))) bsz_); replace HO424 := ak (Kd.R_elder' (rq_ HO424) (Kd.R_base ho0) hb); replace HB := ak (bst_ hb); (try clear hb); (try clear hb2); (try clear hk); (try clear hi); (try clear ho0)))
     (try simp only [Act.put, List.setIfInBounds_toArray, List.set_cons_zero, List.set_cons_succ])
     go_cut [64] (fun v64 wc => ∃ (kq : Nat) (x64_12 : Bool), v64 = .bool x64_12 ∧ Aside0 (handshakerlaw16_FilterModes.j1 kq l0 l1 l2 y419 t422 x64_12 = some r) ∧ Aside0 (kq ≤ kj4) ∧ Aside0 (Kd.V k62 62 wc w.heap.size (fun k_ => ((P0_ k_ ∨ P1_ k_) ∨ w.heap.size ≤ k_) ∧ some k_ ≠ ((.slice Ao20 y419.length co20) : Value).ownBlock ∧ some k_ ≠ (v423 : Value).ownBlock) (.slice A0 l0.length c0) l0) ∧ Aside0 (Kd.V k98 98 wc w.heap.size (fun k_ => ((P0_ k_ ∨ P1_ k_) ∨ w.heap.size ≤ k_) ∧ some k_ ≠ ((.slice Ao20 y419.length co20) : Value).ownBlock ∧ some k_ ≠ (v423 : Value).ownBlock) (.slice A1 l1.length c1) l1) ∧ Aside0 (Kd.N k26 26 wc w.heap.size (fun k_ => ((P0_ k_ ∨ P1_ k_) ∨ w.heap.size ≤ k_) ∧ some k_ ≠ (v423 : Value).ownBlock) (.slice Ao20 y419.length co20) y419) ∧ Aside0 (Kd.R (Kd.int .i64) 3 wc w.heap.size (fun k_ => (w.heap.size ≤ k_)) v423 t422) ∧ Aside0 (Below w.heap.size w wc))
     case first =>
      have H := HC13.out
      clear HC13
      by_cases c22 : (t425.length : Int) > (t422.length : Int)
      · rw [if_pos c22] at H
        have c22b0 : decide ((t422.length : Int) < (t425.length : Int)) = true := decide_eq_true c22
        have c22b1 : decide (t422.length < t425.length) = true := decide_eq_true (Int.ofNat_lt.mp c22)
        clear c22
        (first | rw [c22b0] | (simp only [i64_w, i32_w]; rw [c22b0]) | skip)
        have H' := ak H
        clear H
        obtain ⟨Ao23, co23, eo23⟩ := Kd.R_slice HO427.out
        subst eo23
        obtain ⟨Ao24, co24, eo24⟩ := Kd.R_slice HO424.out
        subst eo24
        go_wp2
        go_meet
        case rel => exact ⟨_, (true), (by first | rfl | (simp; done) | (simp [*]; done)), H', ⟨by have := HJ4.out; first | omega | exact Nat.le_refl _⟩, ⟨Kd.V_mono (vq_ HO_0) (fun _ hk => ⟨hk.1.1.1.1, ⟨hk.1.1.2, hk.1.2⟩⟩)⟩, ⟨Kd.V_mono (vq_ HO_1) (fun _ hk => ⟨hk.1.1.1.1, ⟨hk.1.1.2, hk.1.2⟩⟩)⟩, ⟨Kd.N_mono (nq_ HO421) (fun _ hk => ⟨hk.1.1.1, hk.1.2⟩)⟩, ⟨Kd.R_mono (rq_ HO424) (fun _ hk => hk.1.1)⟩, ⟨bsv_⟩⟩
      · rw [if_neg c22] at H
        have c22b0 : decide ((t422.length : Int) < (t425.length : Int)) = false := decide_eq_false c22
        have c22b1 : decide (t422.length < t425.length) = false := decide_eq_false (fun h => c22 (Int.ofNat_lt.mpr h))
        clear c22
        (first | rw [c22b0] | (simp only [i64_w, i32_w]; rw [c22b0]) | skip)
        have H' := ak H
        clear H
        obtain ⟨Ao25, co25, eo25⟩ := Kd.R_slice HO427.out
        subst eo25
        obtain ⟨Ao26, co26, eo26⟩ := Kd.R_slice HO424.out
        subst eo26
        go_wp2
        go_meet
        case rel => exact ⟨_, (decide ((t422.length : Int) > 1)), (by first | rfl | (simp; done) | (simp [*]; done)), H', ⟨by have := HJ4.out; first | omega | exact Nat.le_refl _⟩, ⟨Kd.V_mono (vq_ HO_0) (fun _ hk => ⟨hk.1.1.1.1, ⟨hk.1.1.2, hk.1.2⟩⟩)⟩, ⟨Kd.V_mono (vq_ HO_1) (fun _ hk => ⟨hk.1.1.1.1, ⟨hk.1.1.2, hk.1.2⟩⟩)⟩, ⟨Kd.N_mono (nq_ HO421) (fun _ hk => ⟨hk.1.1.1, hk.1.2⟩)⟩, ⟨Kd.R_mono (rq_ HO424) (fun _ hk => hk.1.1)⟩, ⟨bsv_⟩⟩
     case rest =>
      clear HC13
      try clear c1
      try clear c2
      try clear p2
      try clear c3
      try clear c4
      try clear c5
      try clear c6
      try clear c6b0
      try clear c6b1
      try clear p6
      try clear c7
      try clear c7b0
      try clear c7b1
      try clear c8
      try clear c13
      try clear c22
      try clear c22b0
      try clear c22b1
      try clear p2
      obtain ⟨kq, x64_12, rfl, HA, HJ12, HO_0, HO_1, HO_11, HO_12, HB⟩ := hcut
      cases kq with
      | zero => exact absurd HA.out (by simp [handshakerlaw16_FilterModes.j1])
      | succ kj12 =>
       have H := HA.out
       clear HA
       simp only [handshakerlaw16_FilterModes.j1] at H
       by_cases c27 : x64_12 = true
       · subst c27
         rw [if_pos rfl] at H
         exact absurd (Option.some.inj H) (by rw [HT.out]; decide)
       · replace c27 := Bool.eq_false_iff.mpr c27
         subst c27
         rw [if_neg (show ¬ (false = true) by decide)] at H
         have H' := ak H
         clear H
         go_wp2
         go_loopg [14, 67] kj12 (fun kq v14 v67 w' => ∃ (x14_3 : Bool) (x67_3 : Int), v14 = .bool x14_3 ∧ v67 = .int .i64 x67_3 ∧ Aside0 (handshakerlaw16_FilterModes.l0 kq l0 l1 y419 t422 x14_3 l2 (l2.length : Int) x67_3 = some r) ∧ Aside0 (kq ≤ kj12) ∧ Aside0 (Kd.V k62 62 w' w.heap.size (fun k_ => ((P0_ k_ ∨ P1_ k_) ∨ w.heap.size ≤ k_) ∧ some k_ ≠ ((.slice Ao20 y419.length co20) : Value).ownBlock ∧ some k_ ≠ (v423 : Value).ownBlock) (.slice A0 l0.length c0) l0) ∧ Aside0 (Kd.V k98 98 w' w.heap.size (fun k_ => ((P0_ k_ ∨ P1_ k_) ∨ w.heap.size ≤ k_) ∧ some k_ ≠ ((.slice Ao20 y419.length co20) : Value).ownBlock ∧ some k_ ≠ (v423 : Value).ownBlock) (.slice A1 l1.length c1) l1) ∧ Aside0 (Kd.N k26 26 w' w.heap.size (fun k_ => ((P0_ k_ ∨ P1_ k_) ∨ w.heap.size ≤ k_) ∧ some k_ ≠ (v423 : Value).ownBlock) (.slice Ao20 y419.length co20) y419) ∧ Aside0 (Kd.R (Kd.int .i64) 3 w' w.heap.size (fun k_ => (w.heap.size ≤ k_)) v423 t422) ∧ Aside0 (Below w.heap.size w w'))
         case atStart => exact ⟨(false), (0), (by first | rfl | (simp; done) | (simp [*]; done)), (by first | rfl | (simp; done) | (simp [*]; done)), H', ⟨Nat.le_refl _⟩, ⟨vq_ HO_0⟩, ⟨vq_ HO_1⟩, ⟨nq_ HO_11⟩, ⟨rq_ HO_12⟩, ⟨bsv_⟩⟩
         case round =>
          clear H'
          try clear c1
          try clear c2
          try clear p2
          try clear c3
          try clear c4
          try clear c5
          try clear c6
          try clear c6b0
          try clear c6b1
          try clear p6
          try clear c7
          try clear c7b0
          try clear c7b1
          try clear c8
          try clear c13
          try clear c22
          try clear c22b0
          try clear c22b1
          try clear c27
          try clear p2
          try clear p6
          obtain ⟨x14_3, x67_3, rfl, rfl, HA, HK3, HO_0, HO_1, HO_11, HO_12, HB⟩ := hrel
          cases gk with
          | zero => exact absurd HA.out (by simp [handshakerlaw16_FilterModes.l0])
          | succ k3 =>
           have H := HA.out
           clear HA
           simp only [handshakerlaw16_FilterModes.l0] at H
           by_cases c28 : x67_3 < (l2.length : Int)
           · rw [if_pos c28] at H
             have c28b0 : decide (x67_3 < (l2.length : Int)) = true := decide_eq_true c28
             clear c28
             by_cases c29 : 0 ≤ x67_3
             · rw [if_pos c29] at H
               have c29b0 : decide (0 ≤ x67_3) = true := decide_eq_true c29
               clear c29
               by_cases c30 : x67_3 < (l2.length : Int)
               · rw [if_pos c30] at H
                 have c30b0 : decide (x67_3 < (l2.length : Int)) = true := decide_eq_true c30
                 clear c30
                 have H' := ak H
                 clear H
                 have p428 : 0 ≤ (x67_3 : Int) := oda_
                 have q428 : x67_3 < (l2.length : Int) := oda_
                 obtain ⟨ad428, e428, hx428_0, hx428_1⟩ := at_T62 HR2.out x67_3 p428 q428
                 cases e428
                 replace hx428_0 := bl_ HB hx428_0
                 replace hx428_1 := bl_ HB hx428_1
                 replace p428 := eq_true p428
                 replace q428 := eq_true q428
                 go_wp2_with (first | ((with_reducible refine gate_dst (N := 16) rfl ?_); (try (refine gate_guard (by rfl) ?_; dsimp only)); refine box_event ?hg (N := 16) ?hd (cs := #[.int .i64 0, .int .i64 0]) (t := 62) ?hr ?_; (case hd => rfl); (case hg => rfl); (case hr => first | (go_simp; done) | (go_simp; rfl)); intro gb429 hg w31 hbox hb; replace HO_0 := ak (Kd.V_below (Kd.V_elderB (vq_ HO_0) gb429 (Nat.le_of_eq hg.symm)) hb); replace HO_1 := ak (Kd.V_below (Kd.V_elderB (vq_ HO_1) gb429 (Nat.le_of_eq hg.symm)) hb); replace HO_11 := ak (Kd.N_below (Kd.N_elderB (nq_ HO_11) gb429 (Nat.le_of_eq hg.symm)) hb); replace HO_12 := rb_ HO_12 hb; replace BK429 := ak (hbox); replace GW429 := ak ((by rw [hg]; exact bsz_ : w.heap.size ≤ gb429)); replace HB := ak (bst_ hb); replace GE429 := GW429; clear hb hbox hg; obtain ⟨hcz32_0, hcz32_1, hfz32_0, hfz32_1⟩ := bz2_ BK429))
                 go_loopg [14, 73] k3 (fun kq v14 v73 w' => ∃ (x14_4 : Bool) (x73_4 : Int), v14 = .bool x14_4 ∧ v73 = .int .i64 x73_4 ∧ Aside0 (handshakerlaw16_FilterModes.l1 kq l0 l1 y419 t422 x14_4 l2 (l2.length : Int) x67_3 l0 (l0.length : Int) x73_4 ((rd_T62 l2 x67_3).f0) ((rd_T62 l2 x67_3).f1) = some r) ∧ Aside0 (kq ≤ k3) ∧ Aside0 (Kd.V k62 62 w' w.heap.size (fun k_ => ((P0_ k_ ∨ P1_ k_) ∨ w.heap.size ≤ k_) ∧ some k_ ≠ ((.slice Ao20 y419.length co20) : Value).ownBlock ∧ some k_ ≠ (v423 : Value).ownBlock ∧ k_ ≠ gb429) (.slice A0 l0.length c0) l0) ∧ Aside0 (Kd.V k98 98 w' w.heap.size (fun k_ => ((P0_ k_ ∨ P1_ k_) ∨ w.heap.size ≤ k_) ∧ some k_ ≠ ((.slice Ao20 y419.length co20) : Value).ownBlock ∧ some k_ ≠ (v423 : Value).ownBlock ∧ k_ ≠ gb429) (.slice A1 l1.length c1) l1) ∧ Aside0 (Kd.N k26 26 w' w.heap.size (fun k_ => ((P0_ k_ ∨ P1_ k_) ∨ w.heap.size ≤ k_) ∧ some k_ ≠ (v423 : Value).ownBlock ∧ k_ ≠ gb429) (.slice Ao20 y419.length co20) y419) ∧ Aside0 (Kd.R (Kd.int .i64) 3 w' w.heap.size (fun k_ => (w.heap.size ≤ k_)) v423 t422) ∧ Aside0 (Kd.V k62 62 w' w.heap.size (fun k_ => ((P0_ k_ ∨ P1_ k_) ∨ w.heap.size ≤ k_) ∧ some k_ ≠ ((.slice Ao20 y419.length co20) : Value).ownBlock ∧ some k_ ≠ (v423 : Value).ownBlock ∧ k_ ≠ gb429) (.slice A0 l0.length c0) l0) ∧ Aside0 (w'.heap[gb429]? = some (.cells #[.int .i64 ((rd_T62 l2 x67_3).f0), .int .i64 ((rd_T62 l2 x67_3).f1)] 62 (0, 0))) ∧ Aside0 (Below w.heap.size w w'))
                 case atStart => exact ⟨(x14_3), (0), (by first | rfl | (simp; done) | (simp [*]; done)), (by first | rfl | (simp; done) | (simp [*]; done)), H', ⟨Nat.le_refl _⟩, ⟨by (with_reducible repeat (first | apply Kd.V_alloc | apply Kd.V_drewN | apply Kd.V_drew)); exact Kd.V_mono (Kd.V_far (p := ⟨gb429, 1, none⟩) (Kd.V_far (p := ⟨gb429, 0, none⟩) (Kd.V_mono HO_0.out (fun k_ hk => (⟨hk, hk.2⟩ : _ ∧ k_ ≠ gb429))) (fun _ hk => hk.2) (.int .i64 ((rd_T62 l2 x67_3).f0))) (fun _ hk => hk.2) (.int .i64 ((rd_T62 l2 x67_3).f1))) (fun _ hk => ⟨hk.1.1.1, ⟨hk.1.1.2.1, ⟨hk.1.1.2.2, hk.1.2⟩⟩⟩)⟩, ⟨by (with_reducible repeat (first | apply Kd.V_alloc | apply Kd.V_drewN | apply Kd.V_drew)); exact Kd.V_mono (Kd.V_far (p := ⟨gb429, 1, none⟩) (Kd.V_far (p := ⟨gb429, 0, none⟩) (Kd.V_mono HO_1.out (fun k_ hk => (⟨hk, hk.2⟩ : _ ∧ k_ ≠ gb429))) (fun _ hk => hk.2) (.int .i64 ((rd_T62 l2 x67_3).f0))) (fun _ hk => hk.2) (.int .i64 ((rd_T62 l2 x67_3).f1))) (fun _ hk => ⟨hk.1.1.1, ⟨hk.1.1.2.1, ⟨hk.1.1.2.2, hk.1.2⟩⟩⟩)⟩, ⟨by (with_reducible repeat (first | apply Kd.N_alloc | apply Kd.N_drewN | apply Kd.N_drew)); exact Kd.N_mono (Kd.N_far (p := ⟨gb429, 1, none⟩) (Kd.N_far (p := ⟨gb429, 0, none⟩) (Kd.N_mono HO_11.out (fun k_ hk => (⟨hk, hk.2⟩ : _ ∧ k_ ≠ gb429))) (fun _ hk => hk.2) (.int .i64 ((rd_T62 l2 x67_3).f0))) (fun _ hk => hk.2) (.int .i64 ((rd_T62 l2 x67_3).f1))) (fun _ hk => ⟨hk.1.1.1, ⟨hk.1.1.2, hk.1.2⟩⟩)⟩, ⟨by (with_reducible repeat (first | apply Kd.R_alloc | apply Kd.R_drewN | apply Kd.R_drew)); exact Kd.R_mono (Kd.R_far (p := ⟨gb429, 1, none⟩) (Kd.R_far (p := ⟨gb429, 0, none⟩) (Kd.R_types HO_12.out BK429.out (by decide)) (fun _ hk => hk.2) (.int .i64 ((rd_T62 l2 x67_3).f0))) (fun _ hk => hk.2) (.int .i64 ((rd_T62 l2 x67_3).f1))) (fun _ hk => hk.1)⟩, ⟨by (with_reducible repeat (first | apply Kd.V_alloc | apply Kd.V_drewN | apply Kd.V_drew)); exact Kd.V_mono (Kd.V_far (p := ⟨gb429, 1, none⟩) (Kd.V_far (p := ⟨gb429, 0, none⟩) (Kd.V_mono HO_0.out (fun k_ hk => (⟨hk, hk.2⟩ : _ ∧ k_ ≠ gb429))) (fun _ hk => hk.2) (.int .i64 ((rd_T62 l2 x67_3).f0))) (fun _ hk => hk.2) (.int .i64 ((rd_T62 l2 x67_3).f1))) (fun _ hk => ⟨hk.1.1.1, ⟨hk.1.1.2.1, ⟨hk.1.1.2.2, hk.1.2⟩⟩⟩)⟩, ⟨by (with_reducible repeat (first | refine blk_drewN ?_ _ | refine blk_drew ?_ | refine blk_alloc ?_ _)); refine blk_put (cs := #[.int .i64 ((rd_T62 l2 x67_3).f0), .int .i64 0]) ?_ 1 _ rfl; (with_reducible repeat (first | refine blk_drewN ?_ _ | refine blk_drew ?_ | refine blk_alloc ?_ _)); refine blk_put (cs := #[.int .i64 0, .int .i64 0]) ?_ 0 _ rfl; (with_reducible repeat (first | refine blk_drewN ?_ _ | refine blk_drew ?_ | refine blk_alloc ?_ _)); exact BK429.out⟩, ⟨bsw_⟩⟩
                 case round =>
                  clear H'
                  try clear c1
                  try clear c2
                  try clear p2
                  try clear c3
                  try clear c4
                  try clear p4
                  try clear q4
                  try clear hx4
                  try clear c5
                  try clear c6
                  try clear c6b0
                  try clear c6b1
                  try clear p6
                  try clear c7
                  try clear c7b0
                  try clear c7b1
                  try clear c8
                  try clear c13
                  try clear c22
                  try clear c22b0
                  try clear c22b1
                  try clear c27
                  try clear c28
                  try clear c28b0
                  try clear c29
                  try clear c29b0
                  try clear c30
                  try clear c30b0
                  try clear hcz32_0
                  try clear hcz32_1
                  try clear hfz32_0
                  try clear hfz32_1
                  try clear hx428_0
                  try clear hx428_1
                  try clear p2
                  try clear p428
                  try clear p6
                  try clear q428
                  obtain ⟨x14_4, x73_4, rfl, rfl, HA, HK4, HO_0, HO_1, HO_11, HO_12, HO_71, BK429, HB⟩ := hrel
                  cases gk with
                  | zero => exact absurd HA.out (by simp [handshakerlaw16_FilterModes.l1])
                  | succ k4 =>
                   have H := HA.out
                   clear HA
                   simp only [handshakerlaw16_FilterModes.l1] at H
                   by_cases c33 : x73_4 < (l0.length : Int)
                   · rw [if_pos c33] at H
                     have c33b0 : decide (x73_4 < (l0.length : Int)) = true := decide_eq_true c33
                     clear c33
                     by_cases c34 : 0 ≤ x73_4
                     · rw [if_pos c34] at H
                       have c34b0 : decide (0 ≤ x73_4) = true := decide_eq_true c34
                       clear c34
                       by_cases c35 : x73_4 < (l0.length : Int)
                       · rw [if_pos c35] at H
                         have c35b0 : decide (x73_4 < (l0.length : Int)) = true := decide_eq_true c35
                         clear c35
                         by_cases c36 : x14_4 = true
                         · subst c36
                           rw [if_pos rfl] at H
                           have H' := ak H
                           clear H
                           have p430 : 0 ≤ (x73_4 : Int) := oda_
                           have q430 : x73_4 < (l0.length : Int) := oda_
                           obtain ⟨ad430, e430, hx430_0, hx430_1⟩ := at_T62 (Kd.V_reads' HO_71.out).2.2 x73_4 p430 q430
                           cases e430
                           replace p430 := eq_true p430
                           replace q430 := eq_true q430
                           go_wp2_with (first | ((with_reducible refine gate_dst (N := 18) rfl ?_); (try (refine gate_guard (by rfl) ?_; dsimp only)); refine box_event ?hg (N := 18) ?hd (cs := #[.int .i64 0, .int .i64 0]) (t := 62) ?hr ?_; (case hd => rfl); (case hg => rfl); (case hr => first | (go_simp; done) | (go_simp; rfl)); intro gb431 hg w37 hbox hb; replace HO_0 := ak (Kd.V_below (Kd.V_elderB (vq_ HO_0) gb431 (Nat.le_of_eq hg.symm)) hb); replace HO_1 := ak (Kd.V_below (Kd.V_elderB (vq_ HO_1) gb431 (Nat.le_of_eq hg.symm)) hb); replace HO_11 := ak (Kd.N_below (Kd.N_elderB (nq_ HO_11) gb431 (Nat.le_of_eq hg.symm)) hb); replace HO_12 := rb_ HO_12 hb; replace HO_71 := ak (Kd.V_below (Kd.V_elderB (vq_ HO_71) gb431 (Nat.le_of_eq hg.symm)) hb); replace BK431 := ak (hbox); replace GW431 := ak ((by rw [hg]; exact (below_size bsw_) : w.heap.size ≤ gb431)); replace HB := ak (below_step bsw_ hb); replace GE431 := GW431; replace NB429_431 := ak ((by rw [hg]; exact Nat.ne_of_lt (blk_lt (g := gb429) (o := .cells #[.int .i64 ((rd_T62 l2 x67_3).f0), .int .i64 ((rd_T62 l2 x67_3).f1)] 62 (0, 0)) (bq_ BK429)) : gb429 ≠ gb431)); replace NB431_429 := ak ((by rw [hg]; exact Nat.ne_of_gt (blk_lt (g := gb429) (o := .cells #[.int .i64 ((rd_T62 l2 x67_3).f0), .int .i64 ((rd_T62 l2 x67_3).f1)] 62 (0, 0)) (bq_ BK429)) : gb431 ≠ gb429)); replace BK429 := bb_ BK429 hb; clear hb hbox hg; have hnb38 := NB431_429.out; have hnc38 := NB429_431.out; obtain ⟨hcz39_0, hcz39_1, hfz39_0, hfz39_1⟩ := bz2_ BK431))
                           go_roundg k4
                           case measure => have := HJ4.out; have := HJ12.out; have := HK3.out; have := HK4.out; omega
                           case rel => exact ⟨(true), (wrap64 (x73_4 + 1)), (by first | rfl | (simp; done) | (simp [*]; done)), (by first | rfl | (simp; done) | (simp [*]; done)), H', ⟨by have := HJ4.out; have := HJ12.out; have := HK3.out; have := HK4.out; omega⟩, ⟨by (with_reducible repeat (first | apply Kd.V_alloc | apply Kd.V_drewN | apply Kd.V_drew)); exact Kd.V_mono (Kd.V_far (p := ⟨gb431, 1, none⟩) (Kd.V_far (p := ⟨gb431, 0, none⟩) (Kd.V_mono HO_0.out (fun k_ hk => (⟨hk, hk.2⟩ : _ ∧ k_ ≠ gb431))) (fun _ hk => hk.2) (.int .i64 ((rd_T62 l0 x73_4).f0))) (fun _ hk => hk.2) (.int .i64 ((rd_T62 l0 x73_4).f1))) (fun _ hk => ⟨hk.1.1.1, ⟨hk.1.1.2.1, ⟨hk.1.1.2.2.1, hk.1.1.2.2.2⟩⟩⟩)⟩, ⟨by (with_reducible repeat (first | apply Kd.V_alloc | apply Kd.V_drewN | apply Kd.V_drew)); exact Kd.V_mono (Kd.V_far (p := ⟨gb431, 1, none⟩) (Kd.V_far (p := ⟨gb431, 0, none⟩) (Kd.V_mono HO_1.out (fun k_ hk => (⟨hk, hk.2⟩ : _ ∧ k_ ≠ gb431))) (fun _ hk => hk.2) (.int .i64 ((rd_T62 l0 x73_4).f0))) (fun _ hk => hk.2) (.int .i64 ((rd_T62 l0 x73_4).f1))) (fun _ hk => ⟨hk.1.1.1, ⟨hk.1.1.2.1, ⟨hk.1.1.2.2.1, hk.1.1.2.2.2⟩⟩⟩)⟩, ⟨by (with_reducible repeat (first | apply Kd.N_alloc | apply Kd.N_drewN | apply Kd.N_drew)); exact Kd.N_mono (Kd.N_far (p := ⟨gb431, 1, none⟩) (Kd.N_far (p := ⟨gb431, 0, none⟩) (Kd.N_mono HO_11.out (fun k_ hk => (⟨hk, hk.2⟩ : _ ∧ k_ ≠ gb431))) (fun _ hk => hk.2) (.int .i64 ((rd_T62 l0 x73_4).f0))) (fun _ hk => hk.2) (.int .i64 ((rd_T62 l0 x73_4).f1))) (fun _ hk => ⟨hk.1.1.1, ⟨hk.1.1.2.1, hk.1.1.2.2⟩⟩)⟩, ⟨by (with_reducible repeat (first | apply Kd.R_alloc | apply Kd.R_drewN | apply Kd.R_drew)); exact Kd.R_mono (Kd.R_far (p := ⟨gb431, 1, none⟩) (Kd.R_far (p := ⟨gb431, 0, none⟩) (Kd.R_types HO_12.out BK431.out (by decide)) (fun _ hk => hk.2) (.int .i64 ((rd_T62 l0 x73_4).f0))) (fun _ hk => hk.2) (.int .i64 ((rd_T62 l0 x73_4).f1))) (fun _ hk => hk.1)⟩, ⟨by (with_reducible repeat (first | apply Kd.V_alloc | apply Kd.V_drewN | apply Kd.V_drew)); exact Kd.V_mono (Kd.V_far (p := ⟨gb431, 1, none⟩) (Kd.V_far (p := ⟨gb431, 0, none⟩) (Kd.V_mono HO_71.out (fun k_ hk => (⟨hk, hk.2⟩ : _ ∧ k_ ≠ gb431))) (fun _ hk => hk.2) (.int .i64 ((rd_T62 l0 x73_4).f0))) (fun _ hk => hk.2) (.int .i64 ((rd_T62 l0 x73_4).f1))) (fun _ hk => ⟨hk.1.1.1, ⟨hk.1.1.2.1, ⟨hk.1.1.2.2.1, hk.1.1.2.2.2⟩⟩⟩)⟩, ⟨by (with_reducible repeat (first | refine blk_drewN ?_ _ | refine blk_drew ?_ | refine blk_alloc ?_ _)); refine blk_far ?_ NB429_431.out _; (with_reducible repeat (first | refine blk_drewN ?_ _ | refine blk_drew ?_ | refine blk_alloc ?_ _)); refine blk_far ?_ NB429_431.out _; (with_reducible repeat (first | refine blk_drewN ?_ _ | refine blk_drew ?_ | refine blk_alloc ?_ _)); exact BK429.out⟩, ⟨by repeat (first | (with_reducible first | exact HB.out | apply below_alloc | apply pw_below_drewN | apply below_drew1 | refine below_set ?_ GE429.out | refine below_set ?_ GE431.out) | exact HB.out)⟩⟩
                         · replace c36 := Bool.eq_false_iff.mpr c36
                           subst c36
                           rw [if_neg (show ¬ (false = true) by decide)] at H
                           have H' := ak H
                           clear H
                           have p430 : 0 ≤ (x73_4 : Int) := oda_
                           have q430 : x73_4 < (l0.length : Int) := oda_
                           obtain ⟨ad430, e430, hx430_0, hx430_1⟩ := at_T62 (Kd.V_reads' HO_71.out).2.2 x73_4 p430 q430
                           cases e430
                           replace p430 := eq_true p430
                           replace q430 := eq_true q430
                           go_wp2_with (first | ((with_reducible refine gate_dst (N := 18) rfl ?_); (try (refine gate_guard (by rfl) ?_; dsimp only)); refine box_event ?hg (N := 18) ?hd (cs := #[.int .i64 0, .int .i64 0]) (t := 62) ?hr ?_; (case hd => rfl); (case hg => rfl); (case hr => first | (go_simp; done) | (go_simp; rfl)); intro gb431 hg w40 hbox hb; replace HO_0 := ak (Kd.V_below (Kd.V_elderB (vq_ HO_0) gb431 (Nat.le_of_eq hg.symm)) hb); replace HO_1 := ak (Kd.V_below (Kd.V_elderB (vq_ HO_1) gb431 (Nat.le_of_eq hg.symm)) hb); replace HO_11 := ak (Kd.N_below (Kd.N_elderB (nq_ HO_11) gb431 (Nat.le_of_eq hg.symm)) hb); replace HO_12 := rb_ HO_12 hb; replace HO_71 := ak (Kd.V_below (Kd.V_elderB (vq_ HO_71) gb431 (Nat.le_of_eq hg.symm)) hb); replace BK431 := ak (hbox); replace GW431 := ak ((by rw [hg]; exact (below_size bsw_) : w.heap.size ≤ gb431)); replace HB := ak (below_step bsw_ hb); replace GE431 := GW431; replace NB429_431 := ak ((by rw [hg]; exact Nat.ne_of_lt (blk_lt (g := gb429) (o := .cells #[.int .i64 ((rd_T62 l2 x67_3).f0), .int .i64 ((rd_T62 l2 x67_3).f1)] 62 (0, 0)) (bq_ BK429)) : gb429 ≠ gb431)); replace NB431_429 := ak ((by rw [hg]; exact Nat.ne_of_gt (blk_lt (g := gb429) (o := .cells #[.int .i64 ((rd_T62 l2 x67_3).f0), .int .i64 ((rd_T62 l2 x67_3).f1)] 62 (0, 0)) (bq_ BK429)) : gb431 ≠ gb429)); replace BK429 := bb_ BK429 hb; clear hb hbox hg; have hnb41 := NB431_429.out; have hnc41 := NB429_431.out; obtain ⟨hcz42_0, hcz42_1, hfz42_0, hfz42_1⟩ := bz2_ BK431; obtain ⟨hcz43_0, hcz43_1, hfz43_0, hfz43_1⟩ := bz2_ BK429))
                           go_roundg k4
                           case measure => have := HJ4.out; have := HJ12.out; have := HK3.out; have := HK4.out; omega
                           case rel => exact ⟨((((rd_T62 l2 x67_3).f0) == ((rd_T62 l0 x73_4).f0))), (wrap64 (x73_4 + 1)), (by first | rfl | (simp; done) | (simp [*]; done)), (by first | rfl | (simp; done) | (simp [*]; done)), H', ⟨by have := HJ4.out; have := HJ12.out; have := HK3.out; have := HK4.out; omega⟩, ⟨by (with_reducible repeat (first | apply Kd.V_alloc | apply Kd.V_drewN | apply Kd.V_drew)); exact Kd.V_mono (Kd.V_far (p := ⟨gb431, 1, none⟩) (Kd.V_far (p := ⟨gb431, 0, none⟩) (Kd.V_mono HO_0.out (fun k_ hk => (⟨hk, hk.2⟩ : _ ∧ k_ ≠ gb431))) (fun _ hk => hk.2) (.int .i64 ((rd_T62 l0 x73_4).f0))) (fun _ hk => hk.2) (.int .i64 ((rd_T62 l0 x73_4).f1))) (fun _ hk => ⟨hk.1.1.1, ⟨hk.1.1.2.1, ⟨hk.1.1.2.2.1, hk.1.1.2.2.2⟩⟩⟩)⟩, ⟨by (with_reducible repeat (first | apply Kd.V_alloc | apply Kd.V_drewN | apply Kd.V_drew)); exact Kd.V_mono (Kd.V_far (p := ⟨gb431, 1, none⟩) (Kd.V_far (p := ⟨gb431, 0, none⟩) (Kd.V_mono HO_1.out (fun k_ hk => (⟨hk, hk.2⟩ : _ ∧ k_ ≠ gb431))) (fun _ hk => hk.2) (.int .i64 ((rd_T62 l0 x73_4).f0))) (fun _ hk => hk.2) (.int .i64 ((rd_T62 l0 x73_4).f1))) (fun _ hk => ⟨hk.1.1.1, ⟨hk.1.1.2.1, ⟨hk.1.1.2.2.1, hk.1.1.2.2.2⟩⟩⟩)⟩, ⟨by (with_reducible repeat (first | apply Kd.N_alloc | apply Kd.N_drewN | apply Kd.N_drew)); exact Kd.N_mono (Kd.N_far (p := ⟨gb431, 1, none⟩) (Kd.N_far (p := ⟨gb431, 0, none⟩) (Kd.N_mono HO_11.out (fun k_ hk => (⟨hk, hk.2⟩ : _ ∧ k_ ≠ gb431))) (fun _ hk => hk.2) (.int .i64 ((rd_T62 l0 x73_4).f0))) (fun _ hk => hk.2) (.int .i64 ((rd_T62 l0 x73_4).f1))) (fun _ hk => ⟨hk.1.1.1, ⟨hk.1.1.2.1, hk.1.1.2.2⟩⟩)⟩, ⟨by (with_reducible repeat (first | apply Kd.R_alloc | apply Kd.R_drewN | apply Kd.R_drew)); exact Kd.R_mono (Kd.R_far (p := ⟨gb431, 1, none⟩) (Kd.R_far (p := ⟨gb431, 0, none⟩) (Kd.R_types HO_12.out BK431.out (by decide)) (fun _ hk => hk.2) (.int .i64 ((rd_T62 l0 x73_4).f0))) (fun _ hk => hk.2) (.int .i64 ((rd_T62 l0 x73_4).f1))) (fun _ hk => hk.1)⟩, ⟨by (with_reducible repeat (first | apply Kd.V_alloc | apply Kd.V_drewN | apply Kd.V_drew)); exact Kd.V_mono (Kd.V_far (p := ⟨gb431, 1, none⟩) (Kd.V_far (p := ⟨gb431, 0, none⟩) (Kd.V_mono HO_71.out (fun k_ hk => (⟨hk, hk.2⟩ : _ ∧ k_ ≠ gb431))) (fun _ hk => hk.2) (.int .i64 ((rd_T62 l0 x73_4).f0))) (fun _ hk => hk.2) (.int .i64 ((rd_T62 l0 x73_4).f1))) (fun _ hk => ⟨hk.1.1.1, ⟨hk.1.1.2.1, ⟨hk.1.1.2.2.1, hk.1.1.2.2.2⟩⟩⟩)⟩, ⟨by (with_reducible repeat (first | refine blk_drewN ?_ _ | refine blk_drew ?_ | refine blk_alloc ?_ _)); refine blk_far ?_ NB429_431.out _; (with_reducible repeat (first | refine blk_drewN ?_ _ | refine blk_drew ?_ | refine blk_alloc ?_ _)); refine blk_far ?_ NB429_431.out _; (with_reducible repeat (first | refine blk_drewN ?_ _ | refine blk_drew ?_ | refine blk_alloc ?_ _)); exact BK429.out⟩, ⟨by repeat (first | (with_reducible first | exact HB.out | apply below_alloc | apply pw_below_drewN | apply below_drew1 | refine below_set ?_ GE429.out | refine below_set ?_ GE431.out) | exact HB.out)⟩⟩
                       · rw [if_neg c35] at H
                         exact absurd H (by simp)
                     · rw [if_neg c34] at H
                       exact absurd H (by simp)
                   · rw [if_neg c33] at H
                     have c33b0 : decide (x73_4 < (l0.length : Int)) = false := decide_eq_false c33
                     clear c33
                     have H' := ak H
                     clear H
                     go_wp2
                     go_roundg k4
                     case measure => have := HJ4.out; have := HJ12.out; have := HK3.out; have := HK4.out; omega
                     case rel => exact ⟨(x14_4), (wrap64 (x67_3 + 1)), (by first | rfl | (simp; done) | (simp [*]; done)), (by first | rfl | (simp; done) | (simp [*]; done)), H', ⟨by have := HJ4.out; have := HJ12.out; have := HK3.out; have := HK4.out; omega⟩, ⟨Kd.V_mono (vq_ HO_0) (fun _ hk => ⟨hk.1, ⟨hk.2.1, hk.2.2.1⟩⟩)⟩, ⟨Kd.V_mono (vq_ HO_1) (fun _ hk => ⟨hk.1, ⟨hk.2.1, hk.2.2.1⟩⟩)⟩, ⟨Kd.N_mono (nq_ HO_11) (fun _ hk => ⟨hk.1, hk.2.1⟩)⟩, ⟨rq_ HO_12⟩, ⟨bsw_⟩⟩
               · rw [if_neg c30] at H
                 exact absurd H (by simp)
             · rw [if_neg c29] at H
               exact absurd H (by simp)
           · rw [if_neg c28] at H
             have c28b0 : decide (x67_3 < (l2.length : Int)) = false := decide_eq_false c28
             clear c28
             have HC44 := ak H
             clear H
             go_upto_region 19 with (fail)
             go_cut [93] (fun v93 wc => ∃ (kq : Nat) (x93_43 : Bool), v93 = .bool x93_43 ∧ Aside0 (handshakerlaw16_FilterModes.j4 kq l0 l1 y419 x93_43 = some r) ∧ Aside0 (kq ≤ k3) ∧ Aside0 (Kd.V k62 62 wc w.heap.size (fun k_ => ((P0_ k_ ∨ P1_ k_) ∨ w.heap.size ≤ k_) ∧ some k_ ≠ ((.slice Ao20 y419.length co20) : Value).ownBlock) (.slice A0 l0.length c0) l0) ∧ Aside0 (Kd.V k98 98 wc w.heap.size (fun k_ => ((P0_ k_ ∨ P1_ k_) ∨ w.heap.size ≤ k_) ∧ some k_ ≠ ((.slice Ao20 y419.length co20) : Value).ownBlock) (.slice A1 l1.length c1) l1) ∧ Aside0 (Kd.N k26 26 wc w.heap.size (fun k_ => ((P0_ k_ ∨ P1_ k_) ∨ w.heap.size ≤ k_)) (.slice Ao20 y419.length co20) y419) ∧ Aside0 (Below w.heap.size w wc))
             case first =>
              have H := HC44.out
              clear HC44
              by_cases c45 : x14_3 = true
              · subst c45
                rw [if_pos rfl] at H
                have H' := ak H
                clear H
                go_wp2
                go_meet
                case rel => exact ⟨_, (false), (by first | rfl | (simp; done) | (simp [*]; done)), H', ⟨by have := HJ4.out; have := HJ12.out; have := HK3.out; first | omega | exact Nat.le_refl _⟩, ⟨Kd.V_mono (vq_ HO_0) (fun _ hk => ⟨hk.1, hk.2.1⟩)⟩, ⟨Kd.V_mono (vq_ HO_1) (fun _ hk => ⟨hk.1, hk.2.1⟩)⟩, ⟨Kd.N_mono (nq_ HO_11) (fun _ hk => hk.1)⟩, ⟨bsv_⟩⟩
              · replace c45 := Bool.eq_false_iff.mpr c45
                subst c45
                rw [if_neg (show ¬ (false = true) by decide)] at H
                have H' := ak H
                clear H
                obtain ⟨Ao46, co46, eo46⟩ := Kd.R_slice HO_12.out
                subst eo46
                go_wp2
                go_meet
                case rel => exact ⟨_, (decide ((t422.length : Int) > 0)), (by first | rfl | (simp; done) | (simp [*]; done)), H', ⟨by have := HJ4.out; have := HJ12.out; have := HK3.out; first | omega | exact Nat.le_refl _⟩, ⟨Kd.V_mono (vq_ HO_0) (fun _ hk => ⟨hk.1, hk.2.1⟩)⟩, ⟨Kd.V_mono (vq_ HO_1) (fun _ hk => ⟨hk.1, hk.2.1⟩)⟩, ⟨Kd.N_mono (nq_ HO_11) (fun _ hk => hk.1)⟩, ⟨bsv_⟩⟩
             case rest =>
              clear HC44
              try clear c1
              try clear c2
              try clear p2
              try clear c3
              try clear c4
              try clear p4
              try clear q4
              try clear hx4
              try clear c5
              try clear c6
              try clear c6b0
              try clear c6b1
              try clear p6
              try clear c7
              try clear c7b0
              try clear c7b1
              try clear c8
              try clear c13
              try clear c22
              try clear c22b0
              try clear c22b1
              try clear c27
              try clear c28
              try clear c28b0
              try clear c29
              try clear c29b0
              try clear c30
              try clear c30b0
              try clear c33
              try clear c33b0
              try clear c34
              try clear c34b0
              try clear c35
              try clear c35b0
              try clear c36
              try clear c38
              try clear c40
              try clear c41
              try clear p42
              try clear q42
              try clear hx42
              try clear p43
              try clear q43
              try clear hx43
              try clear c45
              try clear hcz32_0
              try clear hcz32_1
              try clear hcz39_0
              try clear hcz39_1
              try clear hcz42_0
              try clear hcz42_1
              try clear hcz43_0
              try clear hcz43_1
              try clear hfz32_0
              try clear hfz32_1
              try clear hfz39_0
              try clear hfz39_1
              try clear hfz42_0
              try clear hfz42_1
              try clear hfz43_0
              try clear hfz43_1
              try clear hx428_0
              try clear hx428_1
              try clear hx430_0
              try clear hx430_1
              try clear p2
              try clear p4
              try clear p428
              try clear p430
              try clear p6
              try clear q4
              try clear q428
              try clear q430
              obtain ⟨kq, x93_43, rfl, HA, HJ43, HO_0, HO_1, HO_11, HB⟩ := hcut
              cases kq with
              | zero => exact absurd HA.out (by simp [handshakerlaw16_FilterModes.j4])
              | succ kj43 =>
               have H := HA.out
               clear HA
               simp only [handshakerlaw16_FilterModes.j4] at H
               by_cases c47 : x93_43 = true
               · subst c47
                 rw [if_pos rfl] at H
                 exact absurd (Option.some.inj H) (by rw [HT.out]; decide)
               · replace c47 := Bool.eq_false_iff.mpr c47
                 subst c47
                 rw [if_neg (show ¬ (false = true) by decide)] at H
                 replace H := Option.bind_eq_some_iff.mp H
                 obtain ⟨⟨t432, t435⟩, A480, H⟩ := H
                 have A48 := ak A480
                 clear A480
                 by_cases c49 : t435 = 0
                 · rw [if_pos c49] at H
                   have c49b0 : (t435 == 0) = true := beq_iff_eq.mpr c49
                   have c49b1 : (t435 != 0) = false := bne_eq_false_iff_eq.mpr c49
                   clear c49
                   obtain ⟨t436, A50, H⟩ := bd_ H
                   by_cases c51 : (t436.length : Int) = 0
                   · rw [if_pos c51] at H
                     have c51b0 : ((t436.length : Int) == 0) = true := beq_iff_eq.mpr c51
                     have c51b1 : ((t436.length : Int) != 0) = false := bne_eq_false_iff_eq.mpr c51
                     clear c51
                     obtain ⟨t439, A52, H⟩ := bd_ H
                     obtain rfl := Option.some.inj H
                     go_wp2_with (first | ((with_reducible refine gate_callee (f := 39) rfl ?_); refine goesL_ (some 97) rfl rfl Try.func39 (by kernel_rfl) rfl #[.slice A1 l1.length c1, .slice A0 l0.length c0] rfl mp_ ?_; (with_reducible refine (heap_Put.calls kj43 (fun k_ => (((P0_ k_ ∨ P1_ k_) ∨ w.heap.size ≤ k_) ∧ some k_ ≠ (.slice Ao20 y419.length co20 : Value).ownBlock)) _ _ l1 _ _ l0 t432 t435 _ ?side1 ?side2 ?side3 A48.out).mono ?_); (case side1 => exact HO_1.out); (case side2 => exact vc_ HO_0); (case side3 => exact vl_ HO_0); rintro e w53 ⟨v433, rfl, ho0, hb⟩; refine ⟨_, rfl, ?_⟩; replace HO_0 := vb_ HO_0 hb; replace HO_1 := vb_ HO_1 hb; replace HO434 := ak (Kd.V_lower (Kd.V_mono (ok' := fun k_ => ((P0_ k_ ∨ P1_ k_) ∨ w.heap.size ≤ k_) ∧ some k_ ≠ (.slice Ao20 y419.length co20 : Value).ownBlock) ho0 (fun k_ hk_ => ⟨Or.elim hk_ (fun hs_ => hs_.1) (fun hn_ => (.inr (Nat.le_trans bsz_ hn_))), Or.elim hk_ (fun hs_ => hs_.2) (fun hn_ => (Kd.fresh' (Kd.N_lt (nq_ HO_11)) k_ hn_))⟩)) bsz_); replace HO_11 := nb_ HO_11 hb; replace HB := ak (bst_ hb); (try clear hb); (try clear hb2); (try clear hk); (try clear hi); (try clear ho0); obtain ⟨Ao54, co54, eo54⟩ := Kd.V_slice HO434.out; subst eo54) | (go_at_call 40; (with_reducible refine (filter_Woken.calls kj43 _ _ y419 _ _ t432 _ _ l0 t436 _ ?side1 ?side2 ?side3 ?side4 ?side5 ?side6 A50.out).mono ?_); (case side1 => repeat (first | exact (Kd.N_reads' HO_11.out).2.2 | with_reducible first | refine Kd.C_alloc ?_ _ | refine Kd.C_drewN ?_ _ | refine Kd.C_drew ?_)); (case side2 => exact (Kd.N_reads' HO_11.out).2.1); (case side3 => exact vc_ HO434); (case side4 => exact vl_ HO434); (case side5 => exact vc_ HO_0); (case side6 => exact vl_ HO_0); rintro e w55 ⟨v437, rfl, ho0, hb⟩; replace HO_0 := ak (Kd.V_elder' (vq_ HO_0) (Kd.R_base ho0) hb); replace HO_1 := ak (Kd.V_elder' (vq_ HO_1) (Kd.R_base ho0) hb); replace HO_11 := ak (Kd.N_elder' (nq_ HO_11) (Kd.R_base ho0) hb); replace HO434 := ak (Kd.V_elder' (vq_ HO434) (Kd.R_base ho0) hb); replace HO438 := ak (Kd.R_lower (Kd.R_newM (M := fun k_ => (w.heap.size ≤ k_)) ho0 bsz_ (fun k_ h_ => h_)) bsz_); replace HB := ak (bst_ hb); (try clear hb); (try clear hb2); (try clear hk); (try clear hi); (try clear ho0); obtain ⟨Ao56, co56, eo56⟩ := Kd.R_slice HO438.out; subst eo56) | (go_at_call 35; (with_reducible refine (handshakerlaw16_awake.calls kj43  t439 _ A52.out).mono ?_); rintro e w57 ⟨rfl, hb⟩; replace HO_0 := vb_ HO_0 hb; replace HO_1 := vb_ HO_1 hb; replace HO_11 := nb_ HO_11 hb; replace HO434 := vb_ HO434 hb; replace HO438 := rb_ HO438 hb; replace HB := ak (bst_ hb); (try clear hb); (try clear hb2); (try clear hk); (try clear hi)))
                     go_ret
                     exact ⟨by first | rfl | (simp [errW_none, errW_some] <;> rfl) | (simp [*, errW_none, errW_some] <;> rfl), bsv_⟩
                   · rw [if_neg c51] at H
                     have c51b0 : ((t436.length : Int) == 0) = false := beq_eq_false_iff_ne.mpr c51
                     have c51b1 : ((t436.length : Int) != 0) = true := bne_iff_ne.mpr c51
                     have c51b2 : ¬ (t436 = []) := fun h_ => c51 (by rw [h_]; rfl)
                     exact absurd (Option.some.inj H) (by rw [HT.out]; decide)
                 · rw [if_neg c49] at H
                   have c49b0 : (t435 == 0) = false := beq_eq_false_iff_ne.mpr c49
                   have c49b1 : (t435 != 0) = true := bne_iff_ne.mpr c49
                   obtain ⟨t440, A58, H⟩ := bd_ H
                   obtain rfl := Option.some.inj H
                   go_wp2_with (first | ((with_reducible refine gate_callee (f := 39) rfl ?_); refine goesL_ (some 97) rfl rfl Try.func39 (by kernel_rfl) rfl #[.slice A1 l1.length c1, .slice A0 l0.length c0] rfl mp_ ?_; (with_reducible refine (heap_Put.calls kj43 (fun k_ => (((P0_ k_ ∨ P1_ k_) ∨ w.heap.size ≤ k_) ∧ some k_ ≠ (.slice Ao20 y419.length co20 : Value).ownBlock)) _ _ l1 _ _ l0 t432 t435 _ ?side1 ?side2 ?side3 A48.out).mono ?_); (case side1 => exact HO_1.out); (case side2 => exact vc_ HO_0); (case side3 => exact vl_ HO_0); rintro e w59 ⟨v433, rfl, ho0, hb⟩; refine ⟨_, rfl, ?_⟩; replace HO_0 := vb_ HO_0 hb; replace HO_1 := vb_ HO_1 hb; replace HO434 := ak (Kd.V_lower (Kd.V_mono (ok' := fun k_ => ((P0_ k_ ∨ P1_ k_) ∨ w.heap.size ≤ k_) ∧ some k_ ≠ (.slice Ao20 y419.length co20 : Value).ownBlock) ho0 (fun k_ hk_ => ⟨Or.elim hk_ (fun hs_ => hs_.1) (fun hn_ => (.inr (Nat.le_trans bsz_ hn_))), Or.elim hk_ (fun hs_ => hs_.2) (fun hn_ => (Kd.fresh' (Kd.N_lt (nq_ HO_11)) k_ hn_))⟩)) bsz_); replace HO_11 := nb_ HO_11 hb; replace HB := ak (bst_ hb); (try clear hb); (try clear hb2); (try clear hk); (try clear hi); (try clear ho0)) | (go_at_call 35; (with_reducible refine (handshakerlaw16_awake.calls kj43  t440 _ A58.out).mono ?_); rintro e w60 ⟨rfl, hb⟩; replace HO_0 := vb_ HO_0 hb; replace HO_1 := vb_ HO_1 hb; replace HO_11 := nb_ HO_11 hb; replace HO434 := vb_ HO434 hb; replace HB := ak (bst_ hb); (try clear hb); (try clear hb2); (try clear hk); (try clear hi)))
                   go_ret
                   exact ⟨by first | rfl | (simp [errW_none, errW_some] <;> rfl) | (simp [*, errW_none, errW_some] <;> rfl), bsv_⟩

/-- THE ONE PURE STATEMENT of handshakerlaw16_FilterModes. -/
def handshakerlaw16_FilterModes.Pure : Prop := ∀ (l0 : List (S62)) (l1 : List (S98)) (l2 : List (S62)) (a3 : Int), l0.length ≤ maxLen → l0.length * 16 ≤ 140737488351232 → (∀ y ∈ l0, wfS62 y) → l1.length ≤ maxLen → l1.length * 16 ≤ 140737488351232 → (∀ y ∈ l1, wfS98 y) → l2.length ≤ maxLen → l2.length * 16 ≤ 140737488351232 → (∀ y ∈ l2, wfS62 y) → (Lit.int .u8 a3).wf = true → ∃ k, handshakerlaw16_FilterModes.f k l0 l1 l2 a3 = some true

end Go.Proofs.Ytjnkpocfmpbpoaa.F
