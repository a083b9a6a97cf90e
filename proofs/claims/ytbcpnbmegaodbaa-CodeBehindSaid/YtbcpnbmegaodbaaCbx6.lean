-- PRINTED by print.py (a twelfth state) out of the translation. Not trusted: Lean checks it.
import Derived.Test.YtbcpnbmegaodbaaCbx0
import Derived.Test.YtbcpnbmegaodbaaCbx1
import Derived.Test.YtbcpnbmegaodbaaCbx4
namespace Go.Proofs.Ytbcpnbmegaodbaa.Cb
open Go.Proofs.Ytbcpnbmegaodbaa.Ho
open Go.RowKit Go.Proofs.YtbcpnbmegaodbaaW.PrintWords Go.Proofs.YtbcpnbmegaodbaaW.PrintLast Go.Proofs.YtbcpnbmegaodbaaW.PrintMore
attribute [local go_sem] max2_int min2_int max_two min_two max_three min_three max_four min_four   -- for this text's walks alone
set_option linter.unusedVariables false
set_option linter.unusedSimpArgs false

/-! ### handshakerlaw08_CodeBehind: function 5 -/
mutual
def handshakerlaw08_CodeBehind.j0 : Nat → List (S37) → List (S37) → Bool → Option (Bool)
 | 0, _, _, _ => none
 | k + 1, x0, x1, x28 => if x28 = true then ((handshakerlaw08_awake.f k).bind fun t236 => (some t236)) else ((some (([] : List (S37)) : List (S37))).bind fun y237 => (if y237.length + x0.length < 2932031007402 then ((some (y237 ++ x0 : List (S37))).bind fun y240 => (if y240.length + x1.length < 2932031007402 then ((some (y240 ++ x1 : List (S37))).bind fun y243 => (if (y243.length : Int) > 24 then ((code_Check.f k y243).bind fun t246 => (if t246 = 1 then ((handshakerlaw08_awake.f k).bind fun t247 => (some t247)) else (some false))) else ((code_Cells.f k y243).bind fun t248 => (handshakerlaw08_CodeBehind.l0 k x0 x1 y243 t248 (t248.length : Int) 0)))) else (none))) else (none)))
def handshakerlaw08_CodeBehind.l0 : Nat → List (S37) → List (S37) → List (S37) → List Int → Int → Int → Option (Bool)
 | 0, _, _, _, _, _, _ => none
 | k + 1, x0, x1, x5, x45, x46, x47 => if x47 < x46 then (if 0 ≤ x47 then (if x47 < (x45.length : Int) then ((some (([] : List Int) : List Int)).bind fun y252 => ((code_Cells.f k x0).bind fun t255 => (if y252.length + t255.length < 17592186044416 then ((some (y252 ++ t255 : List Int)).bind fun y258 => ((code_Cells.f k x1).bind fun t261 => (if y258.length + t261.length < 17592186044416 then ((some (y258 ++ t261 : List Int)).bind fun y264 => (handshakerlaw08_CodeBehind.l1 k x0 x1 x5 (rd x45 x47) false x45 x46 x47 y264 (y264.length : Int) 0)) else (none)))) else (none)))) else (none)) else (none)) else ((code_Check.f k x5).bind fun t268 => (if t268 = 0 then ((code_Deep.f k x5).bind fun t269 => ((code_Deep.f k x0).bind fun t270 => ((code_Deep.f k x1).bind fun t271 => (if t269 = (mx t270 t271) then ((code_Cells.f k x5).bind fun t272 => ((code_Cells.f k x0).bind fun t275 => (if (t272.length : Int) ≥ (t275.length : Int) then ((handshakerlaw08_awake.f k).bind fun t278 => (some t278)) else (some false)))) else (some false))))) else (some false)))
def handshakerlaw08_CodeBehind.l1 : Nat → List (S37) → List (S37) → List (S37) → Int → Bool → List Int → Int → Int → List Int → Int → Int → Option (Bool)
 | 0, _, _, _, _, _, _, _, _, _, _, _ => none
 | k + 1, x0, x1, x5, x7, x8, x45, x46, x47, x57, x58, x59 => if x59 < x58 then (if 0 ≤ x59 then (if x59 < (x57.length : Int) then (if x8 = true then (handshakerlaw08_CodeBehind.l1 k x0 x1 x5 x7 true x45 x46 x47 x57 x58 (wrap64 (x59 + 1))) else (handshakerlaw08_CodeBehind.l1 k x0 x1 x5 x7 ((rd x57 x59) == x7) x45 x46 x47 x57 x58 (wrap64 (x59 + 1)))) else (none)) else (none)) else (if x8 = true then (handshakerlaw08_CodeBehind.l0 k x0 x1 x5 x45 x46 (wrap64 (x47 + 1))) else (some false))
end
def handshakerlaw08_CodeBehind.f (k : Nat) (l0 : List (S37)) (l1 : List (S37)) : Option (Bool) := (handshakerlaw08_Small.f k l0).bind fun t232 => (if t232 < 0 then (handshakerlaw08_CodeBehind.j0 k l0 l1 true) else ((handshakerlaw08_Small.f k l1).bind fun t233 => (if t233 < 0 then (handshakerlaw08_CodeBehind.j0 k l0 l1 true) else ((code_Check.f k l0).bind fun t234 => (if t234 = 0 then ((code_Check.f k l1).bind fun t235 => (handshakerlaw08_CodeBehind.j0 k l0 l1 (t235 != 0))) else (handshakerlaw08_CodeBehind.j0 k l0 l1 true))))))
theorem handshakerlaw08_CodeBehind.mono_l : ∀ k, (∀ y0 y1 y2, LeO (handshakerlaw08_CodeBehind.j0 k y0 y1 y2) (handshakerlaw08_CodeBehind.j0 (k + 1) y0 y1 y2)) ∧ (∀ y0 y1 y2 y3 y4 y5, LeO (handshakerlaw08_CodeBehind.l0 k y0 y1 y2 y3 y4 y5) (handshakerlaw08_CodeBehind.l0 (k + 1) y0 y1 y2 y3 y4 y5)) ∧ (∀ y0 y1 y2 y3 y4 y5 y6 y7 y8 y9 y10, LeO (handshakerlaw08_CodeBehind.l1 k y0 y1 y2 y3 y4 y5 y6 y7 y8 y9 y10) (handshakerlaw08_CodeBehind.l1 (k + 1) y0 y1 y2 y3 y4 y5 y6 y7 y8 y9 y10))
 | 0 => ⟨fun _ _ _ r h => by simp [handshakerlaw08_CodeBehind.j0] at h, fun _ _ _ _ _ _ r h => by simp [handshakerlaw08_CodeBehind.l0] at h, fun _ _ _ _ _ _ _ _ _ _ _ r h => by simp [handshakerlaw08_CodeBehind.l1] at h⟩
 | k + 1 => by
  obtain ⟨ih0, ih1, ih2⟩ := handshakerlaw08_CodeBehind.mono_l k
  refine ⟨?_, ?_, ?_⟩
  · intro y0 y1 y2
    unfold handshakerlaw08_CodeBehind.j0
    repeat' first
    | (with_reducible exact ih0 _ _ _)
    | (with_reducible exact ih1 _ _ _ _ _ _)
    | (with_reducible exact ih2 _ _ _ _ _ _ _ _ _ _ _)
    | (with_reducible exact code_Cells.mono _ _)
    | (with_reducible exact code_Check.mono _ _)
    | (with_reducible exact code_Deep.mono _ _)
    | (with_reducible exact handshakerlaw08_Small.mono _ _)
    | (with_reducible exact handshakerlaw08_awake.mono _)
    | (with_reducible exact LeO.refl _)
    | (with_reducible exact LeO.none _)
    | (with_reducible refine LeO.ite ?_ ?_)
    | (with_reducible refine LeO.bind ?_ (fun _ => ?_))
    | exact ih0 _ _ _
    | exact ih1 _ _ _ _ _ _
    | exact ih2 _ _ _ _ _ _ _ _ _ _ _
    | exact code_Cells.mono _ _
    | exact code_Check.mono _ _
    | exact code_Deep.mono _ _
    | exact handshakerlaw08_Small.mono _ _
    | exact handshakerlaw08_awake.mono _
    | exact LeO.none _
    | refine LeO.ite ?_ ?_
    | refine LeO.bind ?_ (fun _ => ?_)
  · intro y0 y1 y2 y3 y4 y5
    unfold handshakerlaw08_CodeBehind.l0
    repeat' first
    | (with_reducible exact ih0 _ _ _)
    | (with_reducible exact ih1 _ _ _ _ _ _)
    | (with_reducible exact ih2 _ _ _ _ _ _ _ _ _ _ _)
    | (with_reducible exact code_Cells.mono _ _)
    | (with_reducible exact code_Check.mono _ _)
    | (with_reducible exact code_Deep.mono _ _)
    | (with_reducible exact handshakerlaw08_Small.mono _ _)
    | (with_reducible exact handshakerlaw08_awake.mono _)
    | (with_reducible exact LeO.refl _)
    | (with_reducible exact LeO.none _)
    | (with_reducible refine LeO.ite ?_ ?_)
    | (with_reducible refine LeO.bind ?_ (fun _ => ?_))
    | exact ih0 _ _ _
    | exact ih1 _ _ _ _ _ _
    | exact ih2 _ _ _ _ _ _ _ _ _ _ _
    | exact code_Cells.mono _ _
    | exact code_Check.mono _ _
    | exact code_Deep.mono _ _
    | exact handshakerlaw08_Small.mono _ _
    | exact handshakerlaw08_awake.mono _
    | exact LeO.none _
    | refine LeO.ite ?_ ?_
    | refine LeO.bind ?_ (fun _ => ?_)
  · intro y0 y1 y2 y3 y4 y5 y6 y7 y8 y9 y10
    unfold handshakerlaw08_CodeBehind.l1
    repeat' first
    | (with_reducible exact ih0 _ _ _)
    | (with_reducible exact ih1 _ _ _ _ _ _)
    | (with_reducible exact ih2 _ _ _ _ _ _ _ _ _ _ _)
    | (with_reducible exact code_Cells.mono _ _)
    | (with_reducible exact code_Check.mono _ _)
    | (with_reducible exact code_Deep.mono _ _)
    | (with_reducible exact handshakerlaw08_Small.mono _ _)
    | (with_reducible exact handshakerlaw08_awake.mono _)
    | (with_reducible exact LeO.refl _)
    | (with_reducible exact LeO.none _)
    | (with_reducible refine LeO.ite ?_ ?_)
    | (with_reducible refine LeO.bind ?_ (fun _ => ?_))
    | exact ih0 _ _ _
    | exact ih1 _ _ _ _ _ _
    | exact ih2 _ _ _ _ _ _ _ _ _ _ _
    | exact code_Cells.mono _ _
    | exact code_Check.mono _ _
    | exact code_Deep.mono _ _
    | exact handshakerlaw08_Small.mono _ _
    | exact handshakerlaw08_awake.mono _
    | exact LeO.none _
    | refine LeO.ite ?_ ?_
    | refine LeO.bind ?_ (fun _ => ?_)
theorem handshakerlaw08_CodeBehind.mono : ∀ a0 a1 k, LeO (handshakerlaw08_CodeBehind.f k a0 a1) (handshakerlaw08_CodeBehind.f (k + 1) a0 a1) := by
 intro a0 a1 k
 obtain ⟨ih0, ih1, ih2⟩ := handshakerlaw08_CodeBehind.mono_l k
 unfold handshakerlaw08_CodeBehind.f
 repeat' first
  | (with_reducible exact ih0 _ _ _)
  | (with_reducible exact ih1 _ _ _ _ _ _)
  | (with_reducible exact ih2 _ _ _ _ _ _ _ _ _ _ _)
  | (with_reducible exact code_Cells.mono _ _)
  | (with_reducible exact code_Check.mono _ _)
  | (with_reducible exact code_Deep.mono _ _)
  | (with_reducible exact handshakerlaw08_Small.mono _ _)
  | (with_reducible exact handshakerlaw08_awake.mono _)
  | (with_reducible exact LeO.refl _)
  | (with_reducible exact LeO.none _)
  | (with_reducible refine LeO.ite ?_ ?_)
  | (with_reducible refine LeO.bind ?_ (fun _ => ?_))
  | exact ih0 _ _ _
  | exact ih1 _ _ _ _ _ _
  | exact ih2 _ _ _ _ _ _ _ _ _ _ _
  | exact code_Cells.mono _ _
  | exact code_Check.mono _ _
  | exact code_Deep.mono _ _
  | exact handshakerlaw08_Small.mono _ _
  | exact handshakerlaw08_awake.mono _
  | exact LeO.none _
  | refine LeO.ite ?_ ?_
  | refine LeO.bind ?_ (fun _ => ?_)
set_option maxHeartbeats 8000000 in
set_option maxRecDepth 100000 in
theorem handshakerlaw08_CodeBehind.calls (k : Nat) (P0_ : Nat → Prop) (A0 : Option Addr) (c0 : Nat) (l0 : List (S37)) (P1_ : Nat → Prop) (A1 : Option Addr) (c1 : Nat) (l1 : List (S37)) (r : Bool) (w : World) (HT : Aside0 (r = true)) (hs0 : Kd.V k37 37 w w.heap.size (fun k_ => P0_ k_) (.slice A0 l0.length c0) l0) (hs1 : Kd.V k37 37 w w.heap.size (fun k_ => P1_ k_) (.slice A1 l1.length c1) l1) (h : handshakerlaw08_CodeBehind.f k l0 l1 = some r) :
 Calls Try.prog 5 #[.slice A0 l0.length c0, .slice A1 l1.length c1] w fun e w' => e = .returned (.bool r) ∧ Below w.heap.size w w' := by
 have HO0 := Aside0.mk (show Kd.V k37 37 w w.heap.size (fun k_ => ((P0_ k_ ∨ P1_ k_) ∨ w.heap.size ≤ k_)) (.slice A0 l0.length c0) l0 from Kd.V_mono hs0 (fun k_ hk => .inl (.inl hk)))
 have HO1 := Aside0.mk (show Kd.V k37 37 w w.heap.size (fun k_ => ((P0_ k_ ∨ P1_ k_) ∨ w.heap.size ≤ k_)) (.slice A1 l1.length c1) l1 from Kd.V_mono hs1 (fun k_ hk => .inl (.inr hk)))
 have HB := Aside0.mk (Below.refl w.heap.size w)
 have H : ((handshakerlaw08_Small.f k l0).bind fun t232 => (if t232 < 0 then (handshakerlaw08_CodeBehind.j0 k l0 l1 true) else ((handshakerlaw08_Small.f k l1).bind fun t233 => (if t233 < 0 then (handshakerlaw08_CodeBehind.j0 k l0 l1 true) else ((code_Check.f k l0).bind fun t234 => (if t234 = 0 then ((code_Check.f k l1).bind fun t235 => (handshakerlaw08_CodeBehind.j0 k l0 l1 (t235 != 0))) else (handshakerlaw08_CodeBehind.j0 k l0 l1 true))))))) = some r := h
 clear h
 have HC3 := Aside0.mk H
 clear H
 go_enter Try.func5, Try.ntmps5
 go_upto_region 1 with (fail)
 go_cut [28] (fun v28 wc => ∃ (kq : Nat) (x28_2 : Bool), v28 = .bool x28_2 ∧ Aside0 (handshakerlaw08_CodeBehind.j0 kq l0 l1 x28_2 = some r) ∧ Aside0 (kq ≤ k) ∧ Aside0 (Kd.V k37 37 wc w.heap.size (fun k_ => ((P0_ k_ ∨ P1_ k_) ∨ w.heap.size ≤ k_)) (.slice A0 l0.length c0) l0) ∧ Aside0 (Kd.V k37 37 wc w.heap.size (fun k_ => ((P0_ k_ ∨ P1_ k_) ∨ w.heap.size ≤ k_)) (.slice A1 l1.length c1) l1) ∧ Aside0 (Below w.heap.size w wc))
 case first =>
  have H := HC3.out
  clear HC3
  replace H := Option.bind_eq_some_iff.mp H
  obtain ⟨t232, A40, H⟩ := H
  replace H : (if t232 < 0 then (handshakerlaw08_CodeBehind.j0 k l0 l1 true) else ((handshakerlaw08_Small.f k l1).bind fun t233 => (if t233 < 0 then (handshakerlaw08_CodeBehind.j0 k l0 l1 true) else ((code_Check.f k l0).bind fun t234 => (if t234 = 0 then ((code_Check.f k l1).bind fun t235 => (handshakerlaw08_CodeBehind.j0 k l0 l1 (t235 != 0))) else (handshakerlaw08_CodeBehind.j0 k l0 l1 true)))))) = some r := H
  have A4 := Aside0.mk A40
  clear A40
  by_cases c5 : t232 < 0
  · rw [if_pos c5] at H
    have c5b0 : decide (t232 < 0) = true := decide_eq_true c5
    clear c5
    (first | rw [c5b0] | (simp only [i64_w, i32_w]; rw [c5b0]) | skip)
    have H' := Aside0.mk H
    clear H
    go_wp2_with (first | ((with_reducible refine gate_callee (f := 15) rfl ?_); refine goesL_ (some 12) rfl rfl Try.func15 (by kernel_rfl) rfl #[.slice A0 l0.length c0] rfl (by (try simp only [List.map_toArray, List.map_cons, List.map_nil]); first | done | rfl) ?_; (with_reducible refine (handshakerlaw08_Small.calls k _ _ l0 t232 _ ?side1 ?side2 A4.out).mono ?_); (case side1 => repeat (first | exact (Kd.V_reads' HO0.out).2.2 | with_reducible first | refine Kd.C_alloc ?_ _ | refine Kd.C_drewN ?_ _ | refine Kd.C_drew ?_)); (case side2 => exact (Kd.V_reads' HO0.out).2.1); rintro e w6 ⟨rfl, hb⟩; refine ⟨_, rfl, ?_⟩; have n0_ := Aside0.mk (Kd.V_below (by (with_reducible repeat (first | apply Kd.V_alloc | apply Kd.V_drewN | apply Kd.V_drew)); exact HO0.out) hb); have n1_ := Aside0.mk (Kd.V_below (by (with_reducible repeat (first | apply Kd.V_alloc | apply Kd.V_drewN | apply Kd.V_drew)); exact HO1.out) hb); have n2_ := Aside0.mk (bst_ hb); clear HO0; clear HO1; clear HB; have HO0 := n0_; have HO1 := n1_; have HB := n2_; clear n0_ n1_ n2_; (try clear hb); (try clear hb2); (try clear hk); (try clear hi)))
    go_meet
    case rel => exact ⟨_, (true), (by first | rfl | (simp; done) | (simp [*]; done)), H', ⟨by first | omega | exact Nat.le_refl _⟩, ⟨by (with_reducible repeat (first | apply Kd.V_alloc | apply Kd.V_drewN | apply Kd.V_drew)); exact HO0.out⟩, ⟨by (with_reducible repeat (first | apply Kd.V_alloc | apply Kd.V_drewN | apply Kd.V_drew)); exact HO1.out⟩, ⟨by repeat (with_reducible first | exact HB.out | apply below_alloc | apply pw_below_drewN | apply below_drew1)⟩⟩
  · rw [if_neg c5] at H
    have c5b0 : decide (t232 < 0) = false := decide_eq_false c5
    clear c5
    (first | rw [c5b0] | (simp only [i64_w, i32_w]; rw [c5b0]) | skip)
    replace H := Option.bind_eq_some_iff.mp H
    obtain ⟨t233, A70, H⟩ := H
    replace H : (if t233 < 0 then (handshakerlaw08_CodeBehind.j0 k l0 l1 true) else ((code_Check.f k l0).bind fun t234 => (if t234 = 0 then ((code_Check.f k l1).bind fun t235 => (handshakerlaw08_CodeBehind.j0 k l0 l1 (t235 != 0))) else (handshakerlaw08_CodeBehind.j0 k l0 l1 true)))) = some r := H
    have A7 := Aside0.mk A70
    clear A70
    by_cases c8 : t233 < 0
    · rw [if_pos c8] at H
      have c8b0 : decide (t233 < 0) = true := decide_eq_true c8
      clear c8
      have H' := Aside0.mk H
      clear H
      go_wp2_with (first | ((with_reducible refine gate_callee (f := 15) rfl ?_); refine goesL_ (some 12) rfl rfl Try.func15 (by kernel_rfl) rfl #[.slice A0 l0.length c0] rfl (by (try simp only [List.map_toArray, List.map_cons, List.map_nil]); first | done | rfl) ?_; (with_reducible refine (handshakerlaw08_Small.calls k _ _ l0 t232 _ ?side1 ?side2 A4.out).mono ?_); (case side1 => repeat (first | exact (Kd.V_reads' HO0.out).2.2 | with_reducible first | refine Kd.C_alloc ?_ _ | refine Kd.C_drewN ?_ _ | refine Kd.C_drew ?_)); (case side2 => exact (Kd.V_reads' HO0.out).2.1); rintro e w9 ⟨rfl, hb⟩; refine ⟨_, rfl, ?_⟩; have n0_ := Aside0.mk (Kd.V_below (by (with_reducible repeat (first | apply Kd.V_alloc | apply Kd.V_drewN | apply Kd.V_drew)); exact HO0.out) hb); have n1_ := Aside0.mk (Kd.V_below (by (with_reducible repeat (first | apply Kd.V_alloc | apply Kd.V_drewN | apply Kd.V_drew)); exact HO1.out) hb); have n2_ := Aside0.mk (bst_ hb); clear HO0; clear HO1; clear HB; have HO0 := n0_; have HO1 := n1_; have HB := n2_; clear n0_ n1_ n2_; (try clear hb); (try clear hb2); (try clear hk); (try clear hi)) | (go_at_call 15; (with_reducible refine (handshakerlaw08_Small.calls k _ _ l1 t233 _ ?side1 ?side2 A7.out).mono ?_); (case side1 => repeat (first | exact (Kd.V_reads' HO1.out).2.2 | with_reducible first | refine Kd.C_alloc ?_ _ | refine Kd.C_drewN ?_ _ | refine Kd.C_drew ?_)); (case side2 => exact (Kd.V_reads' HO1.out).2.1); rintro e w10 ⟨rfl, hb⟩; have n0_ := Aside0.mk (Kd.V_below (by (with_reducible repeat (first | apply Kd.V_alloc | apply Kd.V_drewN | apply Kd.V_drew)); exact HO0.out) hb); have n1_ := Aside0.mk (Kd.V_below (by (with_reducible repeat (first | apply Kd.V_alloc | apply Kd.V_drewN | apply Kd.V_drew)); exact HO1.out) hb); have n2_ := Aside0.mk (bst_ hb); clear HO0; clear HO1; clear HB; have HO0 := n0_; have HO1 := n1_; have HB := n2_; clear n0_ n1_ n2_; (try clear hb); (try clear hb2); (try clear hk); (try clear hi)))
      go_meet
      case rel => exact ⟨_, (true), (by first | rfl | (simp; done) | (simp [*]; done)), H', ⟨by first | omega | exact Nat.le_refl _⟩, ⟨by (with_reducible repeat (first | apply Kd.V_alloc | apply Kd.V_drewN | apply Kd.V_drew)); exact HO0.out⟩, ⟨by (with_reducible repeat (first | apply Kd.V_alloc | apply Kd.V_drewN | apply Kd.V_drew)); exact HO1.out⟩, ⟨by repeat (with_reducible first | exact HB.out | apply below_alloc | apply pw_below_drewN | apply below_drew1)⟩⟩
    · rw [if_neg c8] at H
      have c8b0 : decide (t233 < 0) = false := decide_eq_false c8
      clear c8
      replace H := Option.bind_eq_some_iff.mp H
      obtain ⟨t234, A110, H⟩ := H
      replace H : (if t234 = 0 then ((code_Check.f k l1).bind fun t235 => (handshakerlaw08_CodeBehind.j0 k l0 l1 (t235 != 0))) else (handshakerlaw08_CodeBehind.j0 k l0 l1 true)) = some r := H
      have A11 := Aside0.mk A110
      clear A110
      by_cases c12 : t234 = 0
      · rw [if_pos c12] at H
        have c12b0 : (t234 == 0) = true := beq_iff_eq.mpr c12
        have c12b1 : (t234 != 0) = false := bne_eq_false_iff_eq.mpr c12
        clear c12
        replace H := Option.bind_eq_some_iff.mp H
        obtain ⟨t235, A130, H⟩ := H
        replace H : (handshakerlaw08_CodeBehind.j0 k l0 l1 (t235 != 0)) = some r := H
        have A13 := Aside0.mk A130
        clear A130
        have H' := Aside0.mk H
        clear H
        go_wp2_with (first | ((with_reducible refine gate_callee (f := 15) rfl ?_); refine goesL_ (some 12) rfl rfl Try.func15 (by kernel_rfl) rfl #[.slice A0 l0.length c0] rfl (by (try simp only [List.map_toArray, List.map_cons, List.map_nil]); first | done | rfl) ?_; (with_reducible refine (handshakerlaw08_Small.calls k _ _ l0 t232 _ ?side1 ?side2 A4.out).mono ?_); (case side1 => repeat (first | exact (Kd.V_reads' HO0.out).2.2 | with_reducible first | refine Kd.C_alloc ?_ _ | refine Kd.C_drewN ?_ _ | refine Kd.C_drew ?_)); (case side2 => exact (Kd.V_reads' HO0.out).2.1); rintro e w14 ⟨rfl, hb⟩; refine ⟨_, rfl, ?_⟩; have n0_ := Aside0.mk (Kd.V_below (by (with_reducible repeat (first | apply Kd.V_alloc | apply Kd.V_drewN | apply Kd.V_drew)); exact HO0.out) hb); have n1_ := Aside0.mk (Kd.V_below (by (with_reducible repeat (first | apply Kd.V_alloc | apply Kd.V_drewN | apply Kd.V_drew)); exact HO1.out) hb); have n2_ := Aside0.mk (bst_ hb); clear HO0; clear HO1; clear HB; have HO0 := n0_; have HO1 := n1_; have HB := n2_; clear n0_ n1_ n2_; (try clear hb); (try clear hb2); (try clear hk); (try clear hi)) | (go_at_call 15; (with_reducible refine (handshakerlaw08_Small.calls k _ _ l1 t233 _ ?side1 ?side2 A7.out).mono ?_); (case side1 => repeat (first | exact (Kd.V_reads' HO1.out).2.2 | with_reducible first | refine Kd.C_alloc ?_ _ | refine Kd.C_drewN ?_ _ | refine Kd.C_drew ?_)); (case side2 => exact (Kd.V_reads' HO1.out).2.1); rintro e w15 ⟨rfl, hb⟩; have n0_ := Aside0.mk (Kd.V_below (by (with_reducible repeat (first | apply Kd.V_alloc | apply Kd.V_drewN | apply Kd.V_drew)); exact HO0.out) hb); have n1_ := Aside0.mk (Kd.V_below (by (with_reducible repeat (first | apply Kd.V_alloc | apply Kd.V_drewN | apply Kd.V_drew)); exact HO1.out) hb); have n2_ := Aside0.mk (bst_ hb); clear HO0; clear HO1; clear HB; have HO0 := n0_; have HO1 := n1_; have HB := n2_; clear n0_ n1_ n2_; (try clear hb); (try clear hb2); (try clear hk); (try clear hi)) | (go_at_call 18; (with_reducible refine (code_Check.calls k _ _ l0 t234 _ ?side1 ?side2 A11.out).mono ?_); (case side1 => repeat (first | exact (Kd.V_reads' HO0.out).2.2 | with_reducible first | refine Kd.C_alloc ?_ _ | refine Kd.C_drewN ?_ _ | refine Kd.C_drew ?_)); (case side2 => exact (Kd.V_reads' HO0.out).2.1); rintro e w16 ⟨rfl, hb⟩; have n0_ := Aside0.mk (Kd.V_below (by (with_reducible repeat (first | apply Kd.V_alloc | apply Kd.V_drewN | apply Kd.V_drew)); exact HO0.out) hb); have n1_ := Aside0.mk (Kd.V_below (by (with_reducible repeat (first | apply Kd.V_alloc | apply Kd.V_drewN | apply Kd.V_drew)); exact HO1.out) hb); have n2_ := Aside0.mk (bst_ hb); clear HO0; clear HO1; clear HB; have HO0 := n0_; have HO1 := n1_; have HB := n2_; clear n0_ n1_ n2_; (try clear hb); (try clear hb2); (try clear hk); (try clear hi)) | (go_at_call 18; (with_reducible refine (code_Check.calls k _ _ l1 t235 _ ?side1 ?side2 A13.out).mono ?_); (case side1 => repeat (first | exact (Kd.V_reads' HO1.out).2.2 | with_reducible first | refine Kd.C_alloc ?_ _ | refine Kd.C_drewN ?_ _ | refine Kd.C_drew ?_)); (case side2 => exact (Kd.V_reads' HO1.out).2.1); rintro e w17 ⟨rfl, hb⟩; have n0_ := Aside0.mk (Kd.V_below (by (with_reducible repeat (first | apply Kd.V_alloc | apply Kd.V_drewN | apply Kd.V_drew)); exact HO0.out) hb); have n1_ := Aside0.mk (Kd.V_below (by (with_reducible repeat (first | apply Kd.V_alloc | apply Kd.V_drewN | apply Kd.V_drew)); exact HO1.out) hb); have n2_ := Aside0.mk (bst_ hb); clear HO0; clear HO1; clear HB; have HO0 := n0_; have HO1 := n1_; have HB := n2_; clear n0_ n1_ n2_; (try clear hb); (try clear hb2); (try clear hk); (try clear hi)))
        go_meet
        case rel => exact ⟨_, ((t235 != 0)), (by first | rfl | (simp; done) | (simp [*]; done)), H', ⟨by first | omega | exact Nat.le_refl _⟩, ⟨by (with_reducible repeat (first | apply Kd.V_alloc | apply Kd.V_drewN | apply Kd.V_drew)); exact HO0.out⟩, ⟨by (with_reducible repeat (first | apply Kd.V_alloc | apply Kd.V_drewN | apply Kd.V_drew)); exact HO1.out⟩, ⟨by repeat (with_reducible first | exact HB.out | apply below_alloc | apply pw_below_drewN | apply below_drew1)⟩⟩
      · rw [if_neg c12] at H
        have c12b0 : (t234 == 0) = false := beq_eq_false_iff_ne.mpr c12
        have c12b1 : (t234 != 0) = true := bne_iff_ne.mpr c12
        have H' := Aside0.mk H
        clear H
        go_wp2_with (first | ((with_reducible refine gate_callee (f := 15) rfl ?_); refine goesL_ (some 12) rfl rfl Try.func15 (by kernel_rfl) rfl #[.slice A0 l0.length c0] rfl (by (try simp only [List.map_toArray, List.map_cons, List.map_nil]); first | done | rfl) ?_; (with_reducible refine (handshakerlaw08_Small.calls k _ _ l0 t232 _ ?side1 ?side2 A4.out).mono ?_); (case side1 => repeat (first | exact (Kd.V_reads' HO0.out).2.2 | with_reducible first | refine Kd.C_alloc ?_ _ | refine Kd.C_drewN ?_ _ | refine Kd.C_drew ?_)); (case side2 => exact (Kd.V_reads' HO0.out).2.1); rintro e w18 ⟨rfl, hb⟩; refine ⟨_, rfl, ?_⟩; have n0_ := Aside0.mk (Kd.V_below (by (with_reducible repeat (first | apply Kd.V_alloc | apply Kd.V_drewN | apply Kd.V_drew)); exact HO0.out) hb); have n1_ := Aside0.mk (Kd.V_below (by (with_reducible repeat (first | apply Kd.V_alloc | apply Kd.V_drewN | apply Kd.V_drew)); exact HO1.out) hb); have n2_ := Aside0.mk (bst_ hb); clear HO0; clear HO1; clear HB; have HO0 := n0_; have HO1 := n1_; have HB := n2_; clear n0_ n1_ n2_; (try clear hb); (try clear hb2); (try clear hk); (try clear hi)) | (go_at_call 15; (with_reducible refine (handshakerlaw08_Small.calls k _ _ l1 t233 _ ?side1 ?side2 A7.out).mono ?_); (case side1 => repeat (first | exact (Kd.V_reads' HO1.out).2.2 | with_reducible first | refine Kd.C_alloc ?_ _ | refine Kd.C_drewN ?_ _ | refine Kd.C_drew ?_)); (case side2 => exact (Kd.V_reads' HO1.out).2.1); rintro e w19 ⟨rfl, hb⟩; have n0_ := Aside0.mk (Kd.V_below (by (with_reducible repeat (first | apply Kd.V_alloc | apply Kd.V_drewN | apply Kd.V_drew)); exact HO0.out) hb); have n1_ := Aside0.mk (Kd.V_below (by (with_reducible repeat (first | apply Kd.V_alloc | apply Kd.V_drewN | apply Kd.V_drew)); exact HO1.out) hb); have n2_ := Aside0.mk (bst_ hb); clear HO0; clear HO1; clear HB; have HO0 := n0_; have HO1 := n1_; have HB := n2_; clear n0_ n1_ n2_; (try clear hb); (try clear hb2); (try clear hk); (try clear hi)) | (go_at_call 18; (with_reducible refine (code_Check.calls k _ _ l0 t234 _ ?side1 ?side2 A11.out).mono ?_); (case side1 => repeat (first | exact (Kd.V_reads' HO0.out).2.2 | with_reducible first | refine Kd.C_alloc ?_ _ | refine Kd.C_drewN ?_ _ | refine Kd.C_drew ?_)); (case side2 => exact (Kd.V_reads' HO0.out).2.1); rintro e w20 ⟨rfl, hb⟩; have n0_ := Aside0.mk (Kd.V_below (by (with_reducible repeat (first | apply Kd.V_alloc | apply Kd.V_drewN | apply Kd.V_drew)); exact HO0.out) hb); have n1_ := Aside0.mk (Kd.V_below (by (with_reducible repeat (first | apply Kd.V_alloc | apply Kd.V_drewN | apply Kd.V_drew)); exact HO1.out) hb); have n2_ := Aside0.mk (bst_ hb); clear HO0; clear HO1; clear HB; have HO0 := n0_; have HO1 := n1_; have HB := n2_; clear n0_ n1_ n2_; (try clear hb); (try clear hb2); (try clear hk); (try clear hi)))
        go_meet
        case rel => exact ⟨_, (true), (by first | rfl | (simp; done) | (simp [*]; done)), H', ⟨by first | omega | exact Nat.le_refl _⟩, ⟨by (with_reducible repeat (first | apply Kd.V_alloc | apply Kd.V_drewN | apply Kd.V_drew)); exact HO0.out⟩, ⟨by (with_reducible repeat (first | apply Kd.V_alloc | apply Kd.V_drewN | apply Kd.V_drew)); exact HO1.out⟩, ⟨by repeat (with_reducible first | exact HB.out | apply below_alloc | apply pw_below_drewN | apply below_drew1)⟩⟩
 case rest =>
  clear HC3
  try clear c1
  try clear p2
  try clear c5
  try clear c5b0
  try clear c8
  try clear c8b0
  try clear c12
  try clear c12b0
  try clear c12b1
  try clear c15
  obtain ⟨kq, x28_2, rfl, HA, HJ2, HO_0, HO_1, HB⟩ := hcut
  cases kq with
  | zero => exact absurd HA.out (by simp [handshakerlaw08_CodeBehind.j0])
  | succ kj2 =>
   have H := HA.out
   clear HA
   simp only [handshakerlaw08_CodeBehind.j0] at H
   by_cases c21 : x28_2 = true
   · subst c21
     have H1 : ((handshakerlaw08_awake.f kj2).bind fun t236 => (some t236)) = some r := by rw [if_pos rfl] at H; exact H
     clear H
     have H := H1
     clear H1
     replace H := Option.bind_eq_some_iff.mp H
     obtain ⟨t236, A220, H⟩ := H
     replace H : (some t236) = some r := H
     have A22 := Aside0.mk A220
     clear A220
     obtain rfl := Option.some.inj H
     go_wp2_with (first | ((with_reducible refine gate_callee (f := 16) rfl ?_); refine goesL_ (some 29) rfl rfl Try.func16 (by kernel_rfl) rfl #[] rfl (by (try simp only [List.map_toArray, List.map_cons, List.map_nil]); first | done | rfl) ?_; (with_reducible refine (handshakerlaw08_awake.calls kj2  t236 _ A22.out).mono ?_); rintro e w23 ⟨rfl, hb⟩; refine ⟨_, rfl, ?_⟩; have n0_ := Aside0.mk (Kd.V_below (by (with_reducible repeat (first | apply Kd.V_alloc | apply Kd.V_drewN | apply Kd.V_drew)); exact HO_0.out) hb); have n1_ := Aside0.mk (Kd.V_below (by (with_reducible repeat (first | apply Kd.V_alloc | apply Kd.V_drewN | apply Kd.V_drew)); exact HO_1.out) hb); have n2_ := Aside0.mk (bst_ hb); clear HO_0; clear HO_1; clear HB; have HO_0 := n0_; have HO_1 := n1_; have HB := n2_; clear n0_ n1_ n2_; (try clear hb); (try clear hb2); (try clear hk); (try clear hi)))
     go_ret
     exact ⟨by first | rfl | (simp [errW_none, errW_some] <;> rfl) | (simp [*, errW_none, errW_some] <;> rfl), by repeat (with_reducible first | exact HB.out | apply below_alloc | apply pw_below_drewN | apply below_drew1)⟩
   · replace c21 := Bool.eq_false_iff.mpr c21
     subst c21
     have H1 : ((some (([] : List (S37)) : List (S37))).bind fun y237 => (if y237.length + l0.length < 2932031007402 then ((some (y237 ++ l0 : List (S37))).bind fun y240 => (if y240.length + l1.length < 2932031007402 then ((some (y240 ++ l1 : List (S37))).bind fun y243 => (if (y243.length : Int) > 24 then ((code_Check.f kj2 y243).bind fun t246 => (if t246 = 1 then ((handshakerlaw08_awake.f kj2).bind fun t247 => (some t247)) else (some false))) else ((code_Cells.f kj2 y243).bind fun t248 => (handshakerlaw08_CodeBehind.l0 kj2 l0 l1 y243 t248 (t248.length : Int) 0)))) else (none))) else (none))) = some r := by rw [if_neg (show ¬ (false = true) by decide)] at H; exact H
     clear H
     have H := H1
     clear H1
     obtain ⟨y237, hy237⟩ : ∃ y_ : List (S37), y_ = (([] : List (S37))) := ⟨_, rfl⟩
     replace H : (if y237.length + l0.length < 2932031007402 then ((some (y237 ++ l0 : List (S37))).bind fun y240 => (if y240.length + l1.length < 2932031007402 then ((some (y240 ++ l1 : List (S37))).bind fun y243 => (if (y243.length : Int) > 24 then ((code_Check.f kj2 y243).bind fun t246 => (if t246 = 1 then ((handshakerlaw08_awake.f kj2).bind fun t247 => (some t247)) else (some false))) else ((code_Cells.f kj2 y243).bind fun t248 => (handshakerlaw08_CodeBehind.l0 kj2 l0 l1 y243 t248 (t248.length : Int) 0)))) else (none))) else (none)) = some r := by first | (rw [hy237]; with_reducible exact H) | (have H2_ := (Option.bind_some _ _).symm.trans H; rw [hy237]; with_reducible exact H2_) | (have H2_ := (Option.bind_some _ _).symm.trans H; with_reducible exact H2_) | with_reducible exact H | (rw [hy237]; exact H) | exact H
     have Ny237 := Aside0.mk hy237
     clear hy237
     by_cases c24 : y237.length + l0.length < 2932031007402
     · rw [if_pos c24] at H
       have LMc24 := Aside0.mk c24
       clear c24
       obtain ⟨y240, hy240⟩ : ∃ y_ : List (S37), y_ = (y237 ++ l0) := ⟨_, rfl⟩
       replace H : (if y240.length + l1.length < 2932031007402 then ((some (y240 ++ l1 : List (S37))).bind fun y243 => (if (y243.length : Int) > 24 then ((code_Check.f kj2 y243).bind fun t246 => (if t246 = 1 then ((handshakerlaw08_awake.f kj2).bind fun t247 => (some t247)) else (some false))) else ((code_Cells.f kj2 y243).bind fun t248 => (handshakerlaw08_CodeBehind.l0 kj2 l0 l1 y243 t248 (t248.length : Int) 0)))) else (none)) = some r := by first | (rw [hy240]; with_reducible exact H) | (have H2_ := (Option.bind_some _ _).symm.trans H; rw [hy240]; with_reducible exact H2_) | (have H2_ := (Option.bind_some _ _).symm.trans H; with_reducible exact H2_) | with_reducible exact H | (rw [hy240]; exact H) | exact H
       have Ny240 := Aside0.mk hy240
       clear hy240
       by_cases c25 : y240.length + l1.length < 2932031007402
       · rw [if_pos c25] at H
         have LMc25 := Aside0.mk c25
         clear c25
         obtain ⟨y243, hy243⟩ : ∃ y_ : List (S37), y_ = (y240 ++ l1) := ⟨_, rfl⟩
         replace H : (if (y243.length : Int) > 24 then ((code_Check.f kj2 y243).bind fun t246 => (if t246 = 1 then ((handshakerlaw08_awake.f kj2).bind fun t247 => (some t247)) else (some false))) else ((code_Cells.f kj2 y243).bind fun t248 => (handshakerlaw08_CodeBehind.l0 kj2 l0 l1 y243 t248 (t248.length : Int) 0))) = some r := by first | (rw [hy243]; with_reducible exact H) | (have H2_ := (Option.bind_some _ _).symm.trans H; rw [hy243]; with_reducible exact H2_) | (have H2_ := (Option.bind_some _ _).symm.trans H; with_reducible exact H2_) | with_reducible exact H | (rw [hy243]; exact H) | exact H
         have Ny243 := Aside0.mk hy243
         clear hy243
         by_cases c26 : (y243.length : Int) > 24
         · rw [if_pos c26] at H
           have c26b0 : decide (24 < (y243.length : Int)) = true := decide_eq_true c26
           have c26b1 : decide (24 < y243.length) = true := decide_eq_true (by omega)
           clear c26
           replace H := Option.bind_eq_some_iff.mp H
           obtain ⟨t246, A270, H⟩ := H
           replace H : (if t246 = 1 then ((handshakerlaw08_awake.f kj2).bind fun t247 => (some t247)) else (some false)) = some r := H
           have A27 := Aside0.mk A270
           clear A270
           by_cases c28 : t246 = 1
           · rw [if_pos c28] at H
             have c28b0 : (t246 == 1) = true := beq_iff_eq.mpr c28
             have c28b1 : (t246 != 1) = false := bne_eq_false_iff_eq.mpr c28
             clear c28
             replace H := Option.bind_eq_some_iff.mp H
             obtain ⟨t247, A290, H⟩ := H
             replace H : (some t247) = some r := H
             have A29 := Aside0.mk A290
             clear A290
             obtain rfl := Option.some.inj H
             go_wp2_with (first | ((with_reducible refine gate_dst (N := 30) rfl ?_); (try (refine gate_guard (by rfl) ?_; dsimp only)); refine Kd.N_lit k37 _ 37 ?hg (N' := 30) ?hd (xs := ([] : List (S37))) (inner := []) (ok := (fun k_ => ((P0_ k_ ∨ P1_ k_) ∨ w.heap.size ≤ k_))) (okp := (fun k_ => ((P0_ k_ ∨ P1_ k_) ∨ w.heap.size ≤ k_))) ?hr ?hp (fun _ hk => hk) ((show ∀ k_, wc.heap.size ≤ k_ → (fun k_ => ((P0_ k_ ∨ P1_ k_) ∨ w.heap.size ≤ k_)) k_ from fun k_ hk => (.inr (Nat.le_trans bsz_ hk))) _ (Nat.le_refl _)) (Below.refl _ _) (Nat.le_refl _) (by simp) ?_; (case hd => rfl); (case hg => rfl); (case hr => first | (go_simp; done) | (go_simp; rfl)); (case hp => exact (Reps.none _ _)); intro v238 w30 ho31 hb hg_ hnew_; clear hg_ hnew_; (first | rw [← Ny237.out] at ho31 | (simp only [Int.reduceToNat] at ho31; rw [← Ny237.out] at ho31)); have n0_ := Aside0.mk (Kd.V_elder' (by (with_reducible repeat (first | apply Kd.V_alloc | apply Kd.V_drewN | apply Kd.V_drew)); exact HO_0.out) (Kd.N_base ho31) hb); have n1_ := Aside0.mk (Kd.V_elder' (by (with_reducible repeat (first | apply Kd.V_alloc | apply Kd.V_drewN | apply Kd.V_drew)); exact HO_1.out) (Kd.N_base ho31) hb); have n2_ := Aside0.mk (Kd.N_lower ho31 bsz_); have n3_ := Aside0.mk (bst_ hb); clear HO_0; clear HO_1; clear HB; have HO_0 := n0_; have HO_1 := n1_; have HO239 := n2_; have HB := n3_; clear n0_ n1_ n2_ n3_; clear hb ho31) | ((with_reducible refine gate_builtin (b := .append) (xs := #[.tmp 30, .tmp 31]) rfl ?_); (try (refine gate_guard (by rfl) ?_; dsimp only)); at_builtin; refine Kd.N_append_rows k37 (w0 := w) w.heap.size rfl (.tmp 30) (.tmp 31) 22 37 (.agg #[(.int .i64 0), (.int .i64 0), (.int .i64 0), (.slice none 0 0)]) 48 rfl Try.underlying22 info37 rfl (by decide) (by omega) v238 y237 l0 _ _ _ (fun k_ => ((P0_ k_ ∨ P1_ k_) ∨ w.heap.size ≤ k_)) (fun k_ => ((fun k_ => ((P0_ k_ ∨ P1_ k_) ∨ w.heap.size ≤ k_))) k_ ∧ some k_ ≠ (v238 : Value).ownBlock) rfl rfl ?aO ?aR (fun _ hk => hk) ?aF ?aB ?aS ?aL ?_; (case aR => exact (by skip; exact Kd.V_F (Kd.V_mono (ok' := (fun k_ => ((fun k_ => ((P0_ k_ ∨ P1_ k_) ∨ w.heap.size ≤ k_))) k_ ∧ some k_ ≠ (v238 : Value).ownBlock)) (HO_0.out) (fun k_ hk => ⟨hk.1, hk.2⟩)))); (case aB => exact (by repeat (with_reducible first | exact HB.out | apply below_alloc | apply pw_below_drewN | apply below_drew1))); (case aF => exact (fun k_ hk => (.inr (Nat.le_trans bsz_ hk)))); (case aO => exact (by (with_reducible repeat (first | apply Kd.N_alloc | apply Kd.N_drewN | apply Kd.N_drew)); exact HO239.out)); (case aS => exact bsz_); (case aL => have := LMc24.out; omega); intro v241 w32 ho hb hg hat; rw [← Ny240.out] at ho; have n0_ := Aside0.mk (Kd.V_afterv (ok := (fun k_ => ((P0_ k_ ∨ P1_ k_) ∨ w.heap.size ≤ k_))) (by (with_reducible repeat (first | apply Kd.V_alloc | apply Kd.V_drewN | apply Kd.V_drew)); exact HO_0.out) hg hat); have n1_ := Aside0.mk (Kd.V_afterv (ok := (fun k_ => ((P0_ k_ ∨ P1_ k_) ∨ w.heap.size ≤ k_))) (by (with_reducible repeat (first | apply Kd.V_alloc | apply Kd.V_drewN | apply Kd.V_drew)); exact HO_1.out) hg hat); have n2_ := Aside0.mk (hb); have n3_ := Aside0.mk (ho); clear HO_0; clear HO_1; clear HB; clear HO239; have HO_0 := n0_; have HO_1 := n1_; have HB := n2_; have HO242 := n3_; clear n0_ n1_ n2_ n3_; clear ho hb hg hat) | ((with_reducible refine gate_builtin (b := .append) (xs := #[.tmp 32, .tmp 33]) rfl ?_); (try (refine gate_guard (by rfl) ?_; dsimp only)); at_builtin; refine Kd.N_append_rows k37 (w0 := w) w.heap.size rfl (.tmp 32) (.tmp 33) 22 37 (.agg #[(.int .i64 0), (.int .i64 0), (.int .i64 0), (.slice none 0 0)]) 48 rfl Try.underlying22 info37 rfl (by decide) (by omega) v241 y240 l1 _ _ _ (fun k_ => ((P0_ k_ ∨ P1_ k_) ∨ w.heap.size ≤ k_)) (fun k_ => ((fun k_ => ((P0_ k_ ∨ P1_ k_) ∨ w.heap.size ≤ k_))) k_ ∧ some k_ ≠ (v241 : Value).ownBlock) rfl rfl ?aO ?aR (fun _ hk => hk) ?aF ?aB ?aS ?aL ?_; (case aR => exact (by skip; exact Kd.V_F (Kd.V_mono (ok' := (fun k_ => ((fun k_ => ((P0_ k_ ∨ P1_ k_) ∨ w.heap.size ≤ k_))) k_ ∧ some k_ ≠ (v241 : Value).ownBlock)) (HO_1.out) (fun k_ hk => ⟨hk.1, hk.2⟩)))); (case aB => exact (by repeat (with_reducible first | exact HB.out | apply below_alloc | apply pw_below_drewN | apply below_drew1))); (case aF => exact (fun k_ hk => (.inr (Nat.le_trans bsz_ hk)))); (case aO => exact (by (with_reducible repeat (first | apply Kd.N_alloc | apply Kd.N_drewN | apply Kd.N_drew)); exact HO242.out)); (case aS => exact bsz_); (case aL => have := LMc25.out; omega); intro v244 w33 ho hb hg hat; rw [← Ny243.out] at ho; have n0_ := Aside0.mk (Kd.V_afterv (ok := (fun k_ => ((P0_ k_ ∨ P1_ k_) ∨ w.heap.size ≤ k_))) (by (with_reducible repeat (first | apply Kd.V_alloc | apply Kd.V_drewN | apply Kd.V_drew)); exact HO_0.out) hg hat); have n1_ := Aside0.mk (Kd.V_afterv (ok := (fun k_ => ((P0_ k_ ∨ P1_ k_) ∨ w.heap.size ≤ k_))) (by (with_reducible repeat (first | apply Kd.V_alloc | apply Kd.V_drewN | apply Kd.V_drew)); exact HO_1.out) hg hat); have n2_ := Aside0.mk (hb); have n3_ := Aside0.mk (ho); clear HO_0; clear HO_1; clear HB; clear HO242; have HO_0 := n0_; have HO_1 := n1_; have HB := n2_; have HO245 := n3_; clear n0_ n1_ n2_ n3_; clear ho hb hg hat; obtain ⟨Ao34, co34, eo34⟩ := Kd.N_slice HO245.out; subst eo34) | ((with_reducible refine gate_callee (f := 18) rfl ?_); refine goesL_ (some 39) rfl rfl Try.func18 (by kernel_rfl) rfl #[.slice Ao34 y243.length co34] rfl (by (try simp only [List.map_toArray, List.map_cons, List.map_nil]); first | done | rfl) ?_; (with_reducible refine (code_Check.calls kj2 _ _ y243 t246 _ ?side1 ?side2 A27.out).mono ?_); (case side1 => repeat (first | exact (Kd.N_reads' HO245.out).2.2 | with_reducible first | refine Kd.C_alloc ?_ _ | refine Kd.C_drewN ?_ _ | refine Kd.C_drew ?_)); (case side2 => exact (Kd.N_reads' HO245.out).2.1); rintro e w35 ⟨rfl, hb⟩; refine ⟨_, rfl, ?_⟩; have n0_ := Aside0.mk (Kd.V_below (by (with_reducible repeat (first | apply Kd.V_alloc | apply Kd.V_drewN | apply Kd.V_drew)); exact HO_0.out) hb); have n1_ := Aside0.mk (Kd.V_below (by (with_reducible repeat (first | apply Kd.V_alloc | apply Kd.V_drewN | apply Kd.V_drew)); exact HO_1.out) hb); have n2_ := Aside0.mk (Kd.N_below (by (with_reducible repeat (first | apply Kd.N_alloc | apply Kd.N_drewN | apply Kd.N_drew)); exact HO245.out) hb); have n3_ := Aside0.mk (bst_ hb); clear HO_0; clear HO_1; clear HO245; clear HB; have HO_0 := n0_; have HO_1 := n1_; have HO245 := n2_; have HB := n3_; clear n0_ n1_ n2_ n3_; (try clear hb); (try clear hb2); (try clear hk); (try clear hi)) | (go_at_call 16; (with_reducible refine (handshakerlaw08_awake.calls kj2  t247 _ A29.out).mono ?_); rintro e w36 ⟨rfl, hb⟩; have n0_ := Aside0.mk (Kd.V_below (by (with_reducible repeat (first | apply Kd.V_alloc | apply Kd.V_drewN | apply Kd.V_drew)); exact HO_0.out) hb); have n1_ := Aside0.mk (Kd.V_below (by (with_reducible repeat (first | apply Kd.V_alloc | apply Kd.V_drewN | apply Kd.V_drew)); exact HO_1.out) hb); have n2_ := Aside0.mk (Kd.N_below (by (with_reducible repeat (first | apply Kd.N_alloc | apply Kd.N_drewN | apply Kd.N_drew)); exact HO245.out) hb); have n3_ := Aside0.mk (bst_ hb); clear HO_0; clear HO_1; clear HO245; clear HB; have HO_0 := n0_; have HO_1 := n1_; have HO245 := n2_; have HB := n3_; clear n0_ n1_ n2_ n3_; (try clear hb); (try clear hb2); (try clear hk); (try clear hi)))
             go_ret
             exact ⟨by first | rfl | (simp [errW_none, errW_some] <;> rfl) | (simp [*, errW_none, errW_some] <;> rfl), by repeat (with_reducible first | exact HB.out | apply below_alloc | apply pw_below_drewN | apply below_drew1)⟩
           · rw [if_neg c28] at H
             have c28b0 : (t246 == 1) = false := beq_eq_false_iff_ne.mpr c28
             have c28b1 : (t246 != 1) = true := bne_iff_ne.mpr c28
             exact absurd (Option.some.inj H) (by rw [HT.out]; decide)
         · rw [if_neg c26] at H
           have c26b0 : decide (24 < (y243.length : Int)) = false := decide_eq_false c26
           have c26b1 : decide (24 < y243.length) = false := decide_eq_false (by omega)
           clear c26
           replace H := Option.bind_eq_some_iff.mp H
           obtain ⟨t248, A370, H⟩ := H
           replace H : (handshakerlaw08_CodeBehind.l0 kj2 l0 l1 y243 t248 (t248.length : Int) 0) = some r := H
           have A37 := Aside0.mk A370
           clear A370
           have H' := Aside0.mk H
           clear H
           go_wp2_with (first | ((with_reducible refine gate_dst (N := 30) rfl ?_); (try (refine gate_guard (by rfl) ?_; dsimp only)); refine Kd.N_lit k37 _ 37 ?hg (N' := 30) ?hd (xs := ([] : List (S37))) (inner := []) (ok := (fun k_ => ((P0_ k_ ∨ P1_ k_) ∨ w.heap.size ≤ k_))) (okp := (fun k_ => ((P0_ k_ ∨ P1_ k_) ∨ w.heap.size ≤ k_))) ?hr ?hp (fun _ hk => hk) ((show ∀ k_, wc.heap.size ≤ k_ → (fun k_ => ((P0_ k_ ∨ P1_ k_) ∨ w.heap.size ≤ k_)) k_ from fun k_ hk => (.inr (Nat.le_trans bsz_ hk))) _ (Nat.le_refl _)) (Below.refl _ _) (Nat.le_refl _) (by simp) ?_; (case hd => rfl); (case hg => rfl); (case hr => first | (go_simp; done) | (go_simp; rfl)); (case hp => exact (Reps.none _ _)); intro v238 w38 ho39 hb hg_ hnew_; clear hg_ hnew_; (first | rw [← Ny237.out] at ho39 | (simp only [Int.reduceToNat] at ho39; rw [← Ny237.out] at ho39)); have n0_ := Aside0.mk (Kd.V_elder' (by (with_reducible repeat (first | apply Kd.V_alloc | apply Kd.V_drewN | apply Kd.V_drew)); exact HO_0.out) (Kd.N_base ho39) hb); have n1_ := Aside0.mk (Kd.V_elder' (by (with_reducible repeat (first | apply Kd.V_alloc | apply Kd.V_drewN | apply Kd.V_drew)); exact HO_1.out) (Kd.N_base ho39) hb); have n2_ := Aside0.mk (Kd.N_lower ho39 bsz_); have n3_ := Aside0.mk (bst_ hb); clear HO_0; clear HO_1; clear HB; have HO_0 := n0_; have HO_1 := n1_; have HO239 := n2_; have HB := n3_; clear n0_ n1_ n2_ n3_; clear hb ho39) | ((with_reducible refine gate_builtin (b := .append) (xs := #[.tmp 30, .tmp 31]) rfl ?_); (try (refine gate_guard (by rfl) ?_; dsimp only)); at_builtin; refine Kd.N_append_rows k37 (w0 := w) w.heap.size rfl (.tmp 30) (.tmp 31) 22 37 (.agg #[(.int .i64 0), (.int .i64 0), (.int .i64 0), (.slice none 0 0)]) 48 rfl Try.underlying22 info37 rfl (by decide) (by omega) v238 y237 l0 _ _ _ (fun k_ => ((P0_ k_ ∨ P1_ k_) ∨ w.heap.size ≤ k_)) (fun k_ => ((fun k_ => ((P0_ k_ ∨ P1_ k_) ∨ w.heap.size ≤ k_))) k_ ∧ some k_ ≠ (v238 : Value).ownBlock) rfl rfl ?aO ?aR (fun _ hk => hk) ?aF ?aB ?aS ?aL ?_; (case aR => exact (by skip; exact Kd.V_F (Kd.V_mono (ok' := (fun k_ => ((fun k_ => ((P0_ k_ ∨ P1_ k_) ∨ w.heap.size ≤ k_))) k_ ∧ some k_ ≠ (v238 : Value).ownBlock)) (HO_0.out) (fun k_ hk => ⟨hk.1, hk.2⟩)))); (case aB => exact (by repeat (with_reducible first | exact HB.out | apply below_alloc | apply pw_below_drewN | apply below_drew1))); (case aF => exact (fun k_ hk => (.inr (Nat.le_trans bsz_ hk)))); (case aO => exact (by (with_reducible repeat (first | apply Kd.N_alloc | apply Kd.N_drewN | apply Kd.N_drew)); exact HO239.out)); (case aS => exact bsz_); (case aL => have := LMc24.out; omega); intro v241 w40 ho hb hg hat; rw [← Ny240.out] at ho; have n0_ := Aside0.mk (Kd.V_afterv (ok := (fun k_ => ((P0_ k_ ∨ P1_ k_) ∨ w.heap.size ≤ k_))) (by (with_reducible repeat (first | apply Kd.V_alloc | apply Kd.V_drewN | apply Kd.V_drew)); exact HO_0.out) hg hat); have n1_ := Aside0.mk (Kd.V_afterv (ok := (fun k_ => ((P0_ k_ ∨ P1_ k_) ∨ w.heap.size ≤ k_))) (by (with_reducible repeat (first | apply Kd.V_alloc | apply Kd.V_drewN | apply Kd.V_drew)); exact HO_1.out) hg hat); have n2_ := Aside0.mk (hb); have n3_ := Aside0.mk (ho); clear HO_0; clear HO_1; clear HB; clear HO239; have HO_0 := n0_; have HO_1 := n1_; have HB := n2_; have HO242 := n3_; clear n0_ n1_ n2_ n3_; clear ho hb hg hat) | ((with_reducible refine gate_builtin (b := .append) (xs := #[.tmp 32, .tmp 33]) rfl ?_); (try (refine gate_guard (by rfl) ?_; dsimp only)); at_builtin; refine Kd.N_append_rows k37 (w0 := w) w.heap.size rfl (.tmp 32) (.tmp 33) 22 37 (.agg #[(.int .i64 0), (.int .i64 0), (.int .i64 0), (.slice none 0 0)]) 48 rfl Try.underlying22 info37 rfl (by decide) (by omega) v241 y240 l1 _ _ _ (fun k_ => ((P0_ k_ ∨ P1_ k_) ∨ w.heap.size ≤ k_)) (fun k_ => ((fun k_ => ((P0_ k_ ∨ P1_ k_) ∨ w.heap.size ≤ k_))) k_ ∧ some k_ ≠ (v241 : Value).ownBlock) rfl rfl ?aO ?aR (fun _ hk => hk) ?aF ?aB ?aS ?aL ?_; (case aR => exact (by skip; exact Kd.V_F (Kd.V_mono (ok' := (fun k_ => ((fun k_ => ((P0_ k_ ∨ P1_ k_) ∨ w.heap.size ≤ k_))) k_ ∧ some k_ ≠ (v241 : Value).ownBlock)) (HO_1.out) (fun k_ hk => ⟨hk.1, hk.2⟩)))); (case aB => exact (by repeat (with_reducible first | exact HB.out | apply below_alloc | apply pw_below_drewN | apply below_drew1))); (case aF => exact (fun k_ hk => (.inr (Nat.le_trans bsz_ hk)))); (case aO => exact (by (with_reducible repeat (first | apply Kd.N_alloc | apply Kd.N_drewN | apply Kd.N_drew)); exact HO242.out)); (case aS => exact bsz_); (case aL => have := LMc25.out; omega); intro v244 w41 ho hb hg hat; rw [← Ny243.out] at ho; have n0_ := Aside0.mk (Kd.V_afterv (ok := (fun k_ => ((P0_ k_ ∨ P1_ k_) ∨ w.heap.size ≤ k_))) (by (with_reducible repeat (first | apply Kd.V_alloc | apply Kd.V_drewN | apply Kd.V_drew)); exact HO_0.out) hg hat); have n1_ := Aside0.mk (Kd.V_afterv (ok := (fun k_ => ((P0_ k_ ∨ P1_ k_) ∨ w.heap.size ≤ k_))) (by (with_reducible repeat (first | apply Kd.V_alloc | apply Kd.V_drewN | apply Kd.V_drew)); exact HO_1.out) hg hat); have n2_ := Aside0.mk (hb); have n3_ := Aside0.mk (ho); clear HO_0; clear HO_1; clear HB; clear HO242; have HO_0 := n0_; have HO_1 := n1_; have HB := n2_; have HO245 := n3_; clear n0_ n1_ n2_ n3_; clear ho hb hg hat; obtain ⟨Ao42, co42, eo42⟩ := Kd.N_slice HO245.out; subst eo42) | ((with_reducible refine gate_callee (f := 23) rfl ?_); refine goesL_ (some 45) rfl rfl Try.func23 (by kernel_rfl) rfl #[.slice Ao42 y243.length co42] rfl (by (try simp only [List.map_toArray, List.map_cons, List.map_nil]); first | done | rfl) ?_; (with_reducible refine (code_Cells.calls kj2 _ _ y243 t248 _ ?side1 ?side2 A37.out).mono ?_); (case side1 => repeat (first | exact (Kd.N_reads' HO245.out).2.2 | with_reducible first | refine Kd.C_alloc ?_ _ | refine Kd.C_drewN ?_ _ | refine Kd.C_drew ?_)); (case side2 => exact (Kd.N_reads' HO245.out).2.1); rintro e w43 ⟨v249, rfl, ho0, hb⟩; refine ⟨_, rfl, ?_⟩; have n0_ := Aside0.mk (Kd.V_elder' (by (with_reducible repeat (first | apply Kd.V_alloc | apply Kd.V_drewN | apply Kd.V_drew)); exact HO_0.out) (Kd.R_base ho0) hb); have n1_ := Aside0.mk (Kd.V_elder' (by (with_reducible repeat (first | apply Kd.V_alloc | apply Kd.V_drewN | apply Kd.V_drew)); exact HO_1.out) (Kd.R_base ho0) hb); have n2_ := Aside0.mk (Kd.N_elder' (by (with_reducible repeat (first | apply Kd.N_alloc | apply Kd.N_drewN | apply Kd.N_drew)); exact HO245.out) (Kd.R_base ho0) hb); have n3_ := Aside0.mk (Kd.R_lower (Kd.R_newM (M := fun k_ => (w.heap.size ≤ k_)) ho0 bsz_ (fun k_ h_ => h_)) bsz_); have n4_ := Aside0.mk (bst_ hb); clear HO_0; clear HO_1; clear HO245; clear HB; have HO_0 := n0_; have HO_1 := n1_; have HO245 := n2_; have HO250 := n3_; have HB := n4_; clear n0_ n1_ n2_ n3_ n4_; (try clear hb); (try clear hb2); (try clear hk); (try clear hi); (try clear ho0); obtain ⟨Ao44, co44, eo44⟩ := Kd.R_slice HO250.out; subst eo44))
           go_loopg [47] kj2 (fun kq v47 w' => ∃ (x47_2 : Int), v47 = .int .i64 x47_2 ∧ Aside0 (handshakerlaw08_CodeBehind.l0 kq l0 l1 y243 t248 (t248.length : Int) x47_2 = some r) ∧ Aside0 (kq ≤ kj2) ∧ Aside0 (Kd.V k37 37 w' w.heap.size (fun k_ => ((P0_ k_ ∨ P1_ k_) ∨ w.heap.size ≤ k_) ∧ some k_ ≠ ((.slice Ao42 y243.length co42) : Value).ownBlock ∧ some k_ ≠ ((.slice Ao44 t248.length co44) : Value).ownBlock) (.slice A0 l0.length c0) l0) ∧ Aside0 (Kd.V k37 37 w' w.heap.size (fun k_ => ((P0_ k_ ∨ P1_ k_) ∨ w.heap.size ≤ k_) ∧ some k_ ≠ ((.slice Ao42 y243.length co42) : Value).ownBlock ∧ some k_ ≠ ((.slice Ao44 t248.length co44) : Value).ownBlock) (.slice A1 l1.length c1) l1) ∧ Aside0 (Kd.N k37 37 w' w.heap.size (fun k_ => ((P0_ k_ ∨ P1_ k_) ∨ w.heap.size ≤ k_) ∧ some k_ ≠ ((.slice Ao44 t248.length co44) : Value).ownBlock) (.slice Ao42 y243.length co42) y243) ∧ Aside0 (Kd.R (Kd.int .i64) 3 w' w.heap.size (fun k_ => (w.heap.size ≤ k_)) (.slice Ao44 t248.length co44) t248) ∧ Aside0 (Below w.heap.size w w'))
           case atStart => exact ⟨(0), (by first | rfl | (simp; done) | (simp [*]; done)), H', ⟨Nat.le_refl _⟩, ⟨by (with_reducible repeat (first | apply Kd.V_alloc | apply Kd.V_drewN | apply Kd.V_drew)); exact Kd.V_mono HO_0.out (fun _ hk => ⟨hk.1.1, ⟨hk.1.2, hk.2⟩⟩)⟩, ⟨by (with_reducible repeat (first | apply Kd.V_alloc | apply Kd.V_drewN | apply Kd.V_drew)); exact Kd.V_mono HO_1.out (fun _ hk => ⟨hk.1.1, ⟨hk.1.2, hk.2⟩⟩)⟩, ⟨by (with_reducible repeat (first | apply Kd.N_alloc | apply Kd.N_drewN | apply Kd.N_drew)); exact HO245.out⟩, ⟨by (with_reducible repeat (first | apply Kd.R_alloc | apply Kd.R_drewN | apply Kd.R_drew)); exact Kd.R_mono HO250.out (fun _ hk => hk.1)⟩, ⟨by repeat (with_reducible first | exact HB.out | apply below_alloc | apply pw_below_drewN | apply below_drew1)⟩⟩
           case round =>
            clear H'
            try clear c1
            try clear c2
            try clear p2
            try clear c5
            try clear c5b0
            try clear c8
            try clear c8b0
            try clear c12
            try clear c12b0
            try clear c12b1
            try clear c15
            try clear c16
            try clear c18
            try clear c21
            try clear c23
            try clear c24
            try clear c25
            try clear c26
            try clear c26b0
            try clear c26b1
            try clear c28
            try clear c28b0
            try clear c28b1
            try clear p2
            obtain ⟨x47_2, rfl, HA, HK2, HO_0, HO_1, HO_5, HO_45, HB⟩ := hrel
            cases gk with
            | zero => exact absurd HA.out (by simp [handshakerlaw08_CodeBehind.l0])
            | succ k2 =>
             have H := HA.out
             clear HA
             simp only [handshakerlaw08_CodeBehind.l0] at H
             by_cases c45 : x47_2 < (t248.length : Int)
             · rw [if_pos c45] at H
               have c45b0 : decide (x47_2 < (t248.length : Int)) = true := decide_eq_true c45
               clear c45
               by_cases c46 : 0 ≤ x47_2
               · rw [if_pos c46] at H
                 have c46b0 : decide (0 ≤ x47_2) = true := decide_eq_true c46
                 clear c46
                 by_cases c47 : x47_2 < (t248.length : Int)
                 · rw [if_pos c47] at H
                   have c47b0 : decide (x47_2 < (t248.length : Int)) = true := decide_eq_true c47
                   clear c47
                   obtain ⟨y252, hy252⟩ : ∃ y_ : List Int, y_ = (([] : List Int)) := ⟨_, rfl⟩
                   replace H : ((code_Cells.f k2 l0).bind fun t255 => (if y252.length + t255.length < 17592186044416 then ((some (y252 ++ t255 : List Int)).bind fun y258 => ((code_Cells.f k2 l1).bind fun t261 => (if y258.length + t261.length < 17592186044416 then ((some (y258 ++ t261 : List Int)).bind fun y264 => (handshakerlaw08_CodeBehind.l1 k2 l0 l1 y243 (rd t248 x47_2) false t248 (t248.length : Int) x47_2 y264 (y264.length : Int) 0)) else (none)))) else (none))) = some r := by first | (rw [hy252]; with_reducible exact H) | (have H2_ := (Option.bind_some _ _).symm.trans H; rw [hy252]; with_reducible exact H2_) | (have H2_ := (Option.bind_some _ _).symm.trans H; with_reducible exact H2_) | with_reducible exact H | (rw [hy252]; exact H) | exact H
                   have Ny252 := Aside0.mk hy252
                   clear hy252
                   replace H := Option.bind_eq_some_iff.mp H
                   obtain ⟨t255, A480, H⟩ := H
                   replace H : (if y252.length + t255.length < 17592186044416 then ((some (y252 ++ t255 : List Int)).bind fun y258 => ((code_Cells.f k2 l1).bind fun t261 => (if y258.length + t261.length < 17592186044416 then ((some (y258 ++ t261 : List Int)).bind fun y264 => (handshakerlaw08_CodeBehind.l1 k2 l0 l1 y243 (rd t248 x47_2) false t248 (t248.length : Int) x47_2 y264 (y264.length : Int) 0)) else (none)))) else (none)) = some r := H
                   have A48 := Aside0.mk A480
                   clear A480
                   by_cases c49 : y252.length + t255.length < 17592186044416
                   · rw [if_pos c49] at H
                     have LMc49 := Aside0.mk c49
                     clear c49
                     obtain ⟨y258, hy258⟩ : ∃ y_ : List Int, y_ = (y252 ++ t255) := ⟨_, rfl⟩
                     replace H : ((code_Cells.f k2 l1).bind fun t261 => (if y258.length + t261.length < 17592186044416 then ((some (y258 ++ t261 : List Int)).bind fun y264 => (handshakerlaw08_CodeBehind.l1 k2 l0 l1 y243 (rd t248 x47_2) false t248 (t248.length : Int) x47_2 y264 (y264.length : Int) 0)) else (none))) = some r := by first | (rw [hy258]; with_reducible exact H) | (have H2_ := (Option.bind_some _ _).symm.trans H; rw [hy258]; with_reducible exact H2_) | (have H2_ := (Option.bind_some _ _).symm.trans H; with_reducible exact H2_) | with_reducible exact H | (rw [hy258]; exact H) | exact H
                     have Ny258 := Aside0.mk hy258
                     clear hy258
                     replace H := Option.bind_eq_some_iff.mp H
                     obtain ⟨t261, A500, H⟩ := H
                     replace H : (if y258.length + t261.length < 17592186044416 then ((some (y258 ++ t261 : List Int)).bind fun y264 => (handshakerlaw08_CodeBehind.l1 k2 l0 l1 y243 (rd t248 x47_2) false t248 (t248.length : Int) x47_2 y264 (y264.length : Int) 0)) else (none)) = some r := H
                     have A50 := Aside0.mk A500
                     clear A500
                     by_cases c51 : y258.length + t261.length < 17592186044416
                     · rw [if_pos c51] at H
                       have LMc51 := Aside0.mk c51
                       clear c51
                       obtain ⟨y264, hy264⟩ : ∃ y_ : List Int, y_ = (y258 ++ t261) := ⟨_, rfl⟩
                       replace H : (handshakerlaw08_CodeBehind.l1 k2 l0 l1 y243 (rd t248 x47_2) false t248 (t248.length : Int) x47_2 y264 (y264.length : Int) 0) = some r := by first | (rw [hy264]; with_reducible exact H) | (have H2_ := (Option.bind_some _ _).symm.trans H; rw [hy264]; with_reducible exact H2_) | (have H2_ := (Option.bind_some _ _).symm.trans H; with_reducible exact H2_) | with_reducible exact H | (rw [hy264]; exact H) | exact H
                       have Ny264 := Aside0.mk hy264
                       clear hy264
                       have H' := Aside0.mk H
                       clear H
                       have p251 : 0 ≤ (x47_2 : Int) := of_decide_eq_true (by first | (with_reducible assumption) | assumption)
                       have q251 : x47_2 < (t248.length : Int) := of_decide_eq_true (by first | (with_reducible assumption) | assumption)
                       obtain ⟨ad251, e251, hx251_0⟩ := Kd.at_int (Kd.R_reads' HO_45.out).2.2 x47_2 p251 q251
                       cases e251
                       replace p251 := eq_true p251
                       replace q251 := eq_true q251
                       go_wp2_with (first | ((with_reducible refine gate_dst (N := 51) rfl ?_); (try (refine gate_guard (by rfl) ?_; dsimp only)); refine Kd.R_lit (Kd.int .i64) _ 3 ?hg (N := 51) ?hd (xs := ([] : List Int)) (inner := []) (ok := fun _ => True) (okp := fun _ => True) ?hr ?hp (fun _ hk => hk) trivial (Below.refl _ _) (Nat.le_refl _) (by simp) ?_; (case hd => rfl); (case hg => rfl); (case hr => first | (go_simp; done) | (go_simp; rfl)); (case hp => exact (Reps.none _ _)); intro v253 w52 ho53 hb hg_ hnew_; clear hg_ hnew_; (first | rw [← Ny252.out] at ho53 | (simp only [Int.reduceToNat] at ho53; rw [← Ny252.out] at ho53)); have n0_ := Aside0.mk (Kd.V_elder' (by (with_reducible repeat (first | apply Kd.V_alloc | apply Kd.V_drewN | apply Kd.V_drew)); exact HO_0.out) (Kd.R_base ho53) hb); have n1_ := Aside0.mk (Kd.V_elder' (by (with_reducible repeat (first | apply Kd.V_alloc | apply Kd.V_drewN | apply Kd.V_drew)); exact HO_1.out) (Kd.R_base ho53) hb); have n2_ := Aside0.mk (Kd.N_elder' (by (with_reducible repeat (first | apply Kd.N_alloc | apply Kd.N_drewN | apply Kd.N_drew)); exact HO_5.out) (Kd.R_base ho53) hb); have n3_ := Aside0.mk (Kd.R_elder' (by (with_reducible repeat (first | apply Kd.R_alloc | apply Kd.R_drewN | apply Kd.R_drew)); exact HO_45.out) (Kd.R_base ho53) hb); have n4_ := Aside0.mk (Kd.R_lower (Kd.R_new' (Kd.R_newM (M := fun k_ => (w.heap.size ≤ k_)) ho53 bsz_ (fun k_ h_ => h_)) (Kd.R_lt (by (with_reducible repeat (first | apply Kd.R_alloc | apply Kd.R_drewN | apply Kd.R_drew)); exact HO_45.out))) bsz_); have n5_ := Aside0.mk (bst_ hb); clear HO_0; clear HO_1; clear HO_5; clear HO_45; clear HB; have HO_0 := n0_; have HO_1 := n1_; have HO_5 := n2_; have HO_45 := n3_; have HO254 := n4_; have HB := n5_; clear n0_ n1_ n2_ n3_ n4_ n5_; clear hb ho53) | ((with_reducible refine gate_callee (f := 23) rfl ?_); refine goesL_ (some 53) rfl rfl Try.func23 (by kernel_rfl) rfl #[.slice A0 l0.length c0] rfl (by (try simp only [List.map_toArray, List.map_cons, List.map_nil]); first | done | rfl) ?_; (with_reducible refine (code_Cells.calls k2 _ _ l0 t255 _ ?side1 ?side2 A48.out).mono ?_); (case side1 => repeat (first | exact (Kd.V_reads' HO_0.out).2.2 | with_reducible first | refine Kd.C_alloc ?_ _ | refine Kd.C_drewN ?_ _ | refine Kd.C_drew ?_)); (case side2 => exact (Kd.V_reads' HO_0.out).2.1); rintro e w54 ⟨v256, rfl, ho0, hb⟩; refine ⟨_, rfl, ?_⟩; have n0_ := Aside0.mk (Kd.V_elder' (by (with_reducible repeat (first | apply Kd.V_alloc | apply Kd.V_drewN | apply Kd.V_drew)); exact HO_0.out) (Kd.R_base ho0) hb); have n1_ := Aside0.mk (Kd.V_elder' (by (with_reducible repeat (first | apply Kd.V_alloc | apply Kd.V_drewN | apply Kd.V_drew)); exact HO_1.out) (Kd.R_base ho0) hb); have n2_ := Aside0.mk (Kd.N_elder' (by (with_reducible repeat (first | apply Kd.N_alloc | apply Kd.N_drewN | apply Kd.N_drew)); exact HO_5.out) (Kd.R_base ho0) hb); have n3_ := Aside0.mk (Kd.R_elder' (by (with_reducible repeat (first | apply Kd.R_alloc | apply Kd.R_drewN | apply Kd.R_drew)); exact HO_45.out) (Kd.R_base ho0) hb); have n4_ := Aside0.mk (Kd.R_elder' (by (with_reducible repeat (first | apply Kd.R_alloc | apply Kd.R_drewN | apply Kd.R_drew)); exact HO254.out) (Kd.R_base ho0) hb); have n5_ := Aside0.mk (Kd.R_lower (Kd.R_new' (Kd.R_new' (Kd.R_newM (M := fun k_ => (w.heap.size ≤ k_)) ho0 bsz_ (fun k_ h_ => h_)) (Kd.R_lt (by (with_reducible repeat (first | apply Kd.R_alloc | apply Kd.R_drewN | apply Kd.R_drew)); exact HO_45.out))) (Kd.R_lt (by (with_reducible repeat (first | apply Kd.R_alloc | apply Kd.R_drewN | apply Kd.R_drew)); exact HO254.out))) bsz_); have n6_ := Aside0.mk (bst_ hb); clear HO_0; clear HO_1; clear HO_5; clear HO_45; clear HO254; clear HB; have HO_0 := n0_; have HO_1 := n1_; have HO_5 := n2_; have HO_45 := n3_; have HO254 := n4_; have HO257 := n5_; have HB := n6_; clear n0_ n1_ n2_ n3_ n4_ n5_ n6_; (try clear hb); (try clear hb2); (try clear hk); (try clear hi); (try clear ho0); obtain ⟨Ao56, co56, eo56⟩ := Kd.R_slice HO257.out; subst eo56) | ((with_reducible refine gate_builtin (b := .append) (xs := #[.tmp 51, .tmp 53]) rfl ?_); (try (refine gate_guard (by rfl) ?_; dsimp only)); at_builtin; refine Kd.R_append_rows (Kd.int .i64) (w0 := w) w.heap.size rfl (.tmp 51) (.tmp 53) 31 3 (.int .i64 0) 8 rfl Try.underlying31 info3 rfl (by decide) (by omega) v253 y252 t255 _ _ _ (fun k_ => (w.heap.size ≤ k_) ∧ some k_ ≠ (.slice (some ad251) t248.length co44 : Value).ownBlock ∧ some k_ ≠ (.slice Ao56 t255.length co56 : Value).ownBlock) (fun _ => False) rfl rfl ?aO ?aR (fun _ _ h => h) (fun _ h => h.elim) ?aF ?aB ?aS ?aL ?_; (case aR => repeat (first | exact (Kd.R_reads' HO257.out).2.2 | with_reducible first | refine Kd.C_alloc ?_ _ | refine Kd.C_drewN ?_ _ | refine Kd.C_drew ?_)); (case aB => exact (by repeat (with_reducible first | exact HB.out | apply below_alloc | apply pw_below_drewN | apply below_drew1))); (case aF => exact (fun k_ hk => ⟨(Nat.le_trans bsz_ hk), Kd.fresh' (Kd.R_lt (by (with_reducible repeat (first | apply Kd.R_alloc | apply Kd.R_drewN | apply Kd.R_drew)); exact HO_45.out)) k_ hk, Kd.fresh' (Kd.R_lt (by (with_reducible repeat (first | apply Kd.R_alloc | apply Kd.R_drewN | apply Kd.R_drew)); exact HO257.out)) k_ hk⟩)); (case aO => exact (by (with_reducible repeat (first | apply Kd.R_alloc | apply Kd.R_drewN | apply Kd.R_drew)); exact Kd.R_mono HO254.out (fun _ hk => ⟨hk.1.1.1, ⟨hk.1.2, hk.2⟩⟩))); (case aS => exact bsz_); (case aL => have := LMc49.out; omega); intro v259 w55 ho hb hg hat; rw [← Ny258.out] at ho; have n0_ := Aside0.mk (Kd.V_afterv (ok := (fun k_ => ((P0_ k_ ∨ P1_ k_) ∨ w.heap.size ≤ k_) ∧ some k_ ≠ (.slice Ao42 y243.length co42 : Value).ownBlock ∧ some k_ ≠ (.slice (some ad251) t248.length co44 : Value).ownBlock ∧ some k_ ≠ (.slice Ao56 t255.length co56 : Value).ownBlock)) (by (with_reducible repeat (first | apply Kd.V_alloc | apply Kd.V_drewN | apply Kd.V_drew)); exact Kd.V_mono HO_0.out (fun _ hk => ⟨⟨hk.1.1.1, ⟨hk.1.1.2.1, ⟨hk.1.1.2.2, hk.2⟩⟩⟩, hk.1.2⟩)) hg hat); have n1_ := Aside0.mk (Kd.V_afterv (ok := (fun k_ => ((P0_ k_ ∨ P1_ k_) ∨ w.heap.size ≤ k_) ∧ some k_ ≠ (.slice Ao42 y243.length co42 : Value).ownBlock ∧ some k_ ≠ (.slice (some ad251) t248.length co44 : Value).ownBlock ∧ some k_ ≠ (.slice Ao56 t255.length co56 : Value).ownBlock)) (by (with_reducible repeat (first | apply Kd.V_alloc | apply Kd.V_drewN | apply Kd.V_drew)); exact Kd.V_mono HO_1.out (fun _ hk => ⟨⟨hk.1.1.1, ⟨hk.1.1.2.1, ⟨hk.1.1.2.2, hk.2⟩⟩⟩, hk.1.2⟩)) hg hat); have n2_ := Aside0.mk (Kd.N_afterv (ok := (fun k_ => ((P0_ k_ ∨ P1_ k_) ∨ w.heap.size ≤ k_) ∧ some k_ ≠ (.slice (some ad251) t248.length co44 : Value).ownBlock ∧ some k_ ≠ (.slice Ao56 t255.length co56 : Value).ownBlock)) (by (with_reducible repeat (first | apply Kd.N_alloc | apply Kd.N_drewN | apply Kd.N_drew)); exact Kd.N_mono HO_5.out (fun _ hk => ⟨⟨hk.1.1.1, ⟨hk.1.1.2, hk.2⟩⟩, hk.1.2⟩)) hg hat); have n3_ := Aside0.mk (Kd.R_after (ok := (fun k_ => (w.heap.size ≤ k_) ∧ some k_ ≠ (.slice Ao56 t255.length co56 : Value).ownBlock)) (by (with_reducible repeat (first | apply Kd.R_alloc | apply Kd.R_drewN | apply Kd.R_drew)); exact Kd.R_mono HO_45.out (fun _ hk => ⟨⟨hk.1.1, hk.2⟩, hk.1.2⟩)) hg hat); have n4_ := Aside0.mk (Kd.R_after (ok := (fun k_ => (w.heap.size ≤ k_) ∧ some k_ ≠ (.slice (some ad251) t248.length co44 : Value).ownBlock)) (by (with_reducible repeat (first | apply Kd.R_alloc | apply Kd.R_drewN | apply Kd.R_drew)); exact Kd.R_mono HO257.out (fun _ hk => ⟨⟨hk.1.1.1, hk.1.2⟩, hk.2⟩)) hg hat); have n5_ := Aside0.mk (hb); have n6_ := Aside0.mk (ho); clear HO_0; clear HO_1; clear HO_5; clear HO_45; clear HO257; clear HB; clear HO254; have HO_0 := n0_; have HO_1 := n1_; have HO_5 := n2_; have HO_45 := n3_; have HO257 := n4_; have HB := n5_; have HO260 := n6_; clear n0_ n1_ n2_ n3_ n4_ n5_ n6_; clear ho hb hg hat) | ((with_reducible refine gate_callee (f := 23) rfl ?_); refine goesL_ (some 56) rfl rfl Try.func23 (by kernel_rfl) rfl #[.slice A1 l1.length c1] rfl (by (try simp only [List.map_toArray, List.map_cons, List.map_nil]); first | done | rfl) ?_; (with_reducible refine (code_Cells.calls k2 _ _ l1 t261 _ ?side1 ?side2 A50.out).mono ?_); (case side1 => repeat (first | exact (Kd.V_reads' HO_1.out).2.2 | with_reducible first | refine Kd.C_alloc ?_ _ | refine Kd.C_drewN ?_ _ | refine Kd.C_drew ?_)); (case side2 => exact (Kd.V_reads' HO_1.out).2.1); rintro e w57 ⟨v262, rfl, ho0, hb⟩; refine ⟨_, rfl, ?_⟩; have n0_ := Aside0.mk (Kd.V_elder' (by (with_reducible repeat (first | apply Kd.V_alloc | apply Kd.V_drewN | apply Kd.V_drew)); exact HO_0.out) (Kd.R_base ho0) hb); have n1_ := Aside0.mk (Kd.V_elder' (by (with_reducible repeat (first | apply Kd.V_alloc | apply Kd.V_drewN | apply Kd.V_drew)); exact HO_1.out) (Kd.R_base ho0) hb); have n2_ := Aside0.mk (Kd.N_elder' (by (with_reducible repeat (first | apply Kd.N_alloc | apply Kd.N_drewN | apply Kd.N_drew)); exact HO_5.out) (Kd.R_base ho0) hb); have n3_ := Aside0.mk (Kd.R_elder' (by (with_reducible repeat (first | apply Kd.R_alloc | apply Kd.R_drewN | apply Kd.R_drew)); exact HO_45.out) (Kd.R_base ho0) hb); have n4_ := Aside0.mk (Kd.R_elder' (by (with_reducible repeat (first | apply Kd.R_alloc | apply Kd.R_drewN | apply Kd.R_drew)); exact HO257.out) (Kd.R_base ho0) hb); have n5_ := Aside0.mk (Kd.R_elder' (by (with_reducible repeat (first | apply Kd.R_alloc | apply Kd.R_drewN | apply Kd.R_drew)); exact HO260.out) (Kd.R_base ho0) hb); have n6_ := Aside0.mk (Kd.R_lower (Kd.R_new' (Kd.R_new' (Kd.R_new' (Kd.R_newM (M := fun k_ => (w.heap.size ≤ k_)) ho0 bsz_ (fun k_ h_ => h_)) (Kd.R_lt (by (with_reducible repeat (first | apply Kd.R_alloc | apply Kd.R_drewN | apply Kd.R_drew)); exact HO_45.out))) (Kd.R_lt (by (with_reducible repeat (first | apply Kd.R_alloc | apply Kd.R_drewN | apply Kd.R_drew)); exact HO257.out))) (Kd.R_lt (by (with_reducible repeat (first | apply Kd.R_alloc | apply Kd.R_drewN | apply Kd.R_drew)); exact HO260.out))) bsz_); have n7_ := Aside0.mk (bst_ hb); clear HO_0; clear HO_1; clear HO_5; clear HO_45; clear HO257; clear HO260; clear HB; have HO_0 := n0_; have HO_1 := n1_; have HO_5 := n2_; have HO_45 := n3_; have HO257 := n4_; have HO260 := n5_; have HO263 := n6_; have HB := n7_; clear n0_ n1_ n2_ n3_ n4_ n5_ n6_ n7_; (try clear hb); (try clear hb2); (try clear hk); (try clear hi); (try clear ho0); obtain ⟨Ao59, co59, eo59⟩ := Kd.R_slice HO263.out; subst eo59) | ((with_reducible refine gate_builtin (b := .append) (xs := #[.tmp 54, .tmp 56]) rfl ?_); (try (refine gate_guard (by rfl) ?_; dsimp only)); at_builtin; refine Kd.R_append_rows (Kd.int .i64) (w0 := w) w.heap.size rfl (.tmp 54) (.tmp 56) 31 3 (.int .i64 0) 8 rfl Try.underlying31 info3 rfl (by decide) (by omega) v259 y258 t261 _ _ _ (fun k_ => (w.heap.size ≤ k_) ∧ some k_ ≠ (.slice (some ad251) t248.length co44 : Value).ownBlock ∧ some k_ ≠ (.slice Ao56 t255.length co56 : Value).ownBlock ∧ some k_ ≠ (.slice Ao59 t261.length co59 : Value).ownBlock) (fun _ => False) rfl rfl ?aO ?aR (fun _ _ h => h) (fun _ h => h.elim) ?aF ?aB ?aS ?aL ?_; (case aR => repeat (first | exact (Kd.R_reads' HO263.out).2.2 | with_reducible first | refine Kd.C_alloc ?_ _ | refine Kd.C_drewN ?_ _ | refine Kd.C_drew ?_)); (case aB => exact (by repeat (with_reducible first | exact HB.out | apply below_alloc | apply pw_below_drewN | apply below_drew1))); (case aF => exact (fun k_ hk => ⟨(Nat.le_trans bsz_ hk), Kd.fresh' (Kd.R_lt (by (with_reducible repeat (first | apply Kd.R_alloc | apply Kd.R_drewN | apply Kd.R_drew)); exact HO_45.out)) k_ hk, Kd.fresh' (Kd.R_lt (by (with_reducible repeat (first | apply Kd.R_alloc | apply Kd.R_drewN | apply Kd.R_drew)); exact HO257.out)) k_ hk, Kd.fresh' (Kd.R_lt (by (with_reducible repeat (first | apply Kd.R_alloc | apply Kd.R_drewN | apply Kd.R_drew)); exact HO263.out)) k_ hk⟩)); (case aO => exact (by (with_reducible repeat (first | apply Kd.R_alloc | apply Kd.R_drewN | apply Kd.R_drew)); exact Kd.R_mono HO260.out (fun _ hk => ⟨hk.1.1, ⟨hk.1.2.1, ⟨hk.1.2.2, hk.2⟩⟩⟩))); (case aS => exact bsz_); (case aL => have := LMc51.out; omega); intro v265 w58 ho hb hg hat; rw [← Ny264.out] at ho; have n0_ := Aside0.mk (Kd.V_afterv (ok := (fun k_ => ((P0_ k_ ∨ P1_ k_) ∨ w.heap.size ≤ k_) ∧ some k_ ≠ (.slice Ao42 y243.length co42 : Value).ownBlock ∧ some k_ ≠ (.slice (some ad251) t248.length co44 : Value).ownBlock ∧ some k_ ≠ (.slice Ao56 t255.length co56 : Value).ownBlock ∧ some k_ ≠ (.slice Ao59 t261.length co59 : Value).ownBlock)) (by (with_reducible repeat (first | apply Kd.V_alloc | apply Kd.V_drewN | apply Kd.V_drew)); exact Kd.V_mono HO_0.out (fun _ hk => ⟨⟨hk.1.1.1, ⟨hk.1.1.2.1, ⟨hk.1.1.2.2.1, ⟨hk.1.1.2.2.2, hk.2⟩⟩⟩⟩, hk.1.2⟩)) hg hat); have n1_ := Aside0.mk (Kd.V_afterv (ok := (fun k_ => ((P0_ k_ ∨ P1_ k_) ∨ w.heap.size ≤ k_) ∧ some k_ ≠ (.slice Ao42 y243.length co42 : Value).ownBlock ∧ some k_ ≠ (.slice (some ad251) t248.length co44 : Value).ownBlock ∧ some k_ ≠ (.slice Ao56 t255.length co56 : Value).ownBlock ∧ some k_ ≠ (.slice Ao59 t261.length co59 : Value).ownBlock)) (by (with_reducible repeat (first | apply Kd.V_alloc | apply Kd.V_drewN | apply Kd.V_drew)); exact Kd.V_mono HO_1.out (fun _ hk => ⟨⟨hk.1.1.1, ⟨hk.1.1.2.1, ⟨hk.1.1.2.2.1, ⟨hk.1.1.2.2.2, hk.2⟩⟩⟩⟩, hk.1.2⟩)) hg hat); have n2_ := Aside0.mk (Kd.N_afterv (ok := (fun k_ => ((P0_ k_ ∨ P1_ k_) ∨ w.heap.size ≤ k_) ∧ some k_ ≠ (.slice (some ad251) t248.length co44 : Value).ownBlock ∧ some k_ ≠ (.slice Ao56 t255.length co56 : Value).ownBlock ∧ some k_ ≠ (.slice Ao59 t261.length co59 : Value).ownBlock)) (by (with_reducible repeat (first | apply Kd.N_alloc | apply Kd.N_drewN | apply Kd.N_drew)); exact Kd.N_mono HO_5.out (fun _ hk => ⟨⟨hk.1.1.1, ⟨hk.1.1.2.1, ⟨hk.1.1.2.2, hk.2⟩⟩⟩, hk.1.2⟩)) hg hat); have n3_ := Aside0.mk (Kd.R_after (ok := (fun k_ => (w.heap.size ≤ k_) ∧ some k_ ≠ (.slice Ao56 t255.length co56 : Value).ownBlock ∧ some k_ ≠ (.slice Ao59 t261.length co59 : Value).ownBlock)) (by (with_reducible repeat (first | apply Kd.R_alloc | apply Kd.R_drewN | apply Kd.R_drew)); exact Kd.R_mono HO_45.out (fun _ hk => ⟨⟨hk.1.1.1, ⟨hk.1.1.2, hk.2⟩⟩, hk.1.2⟩)) hg hat); have n4_ := Aside0.mk (Kd.R_after (ok := (fun k_ => (w.heap.size ≤ k_) ∧ some k_ ≠ (.slice (some ad251) t248.length co44 : Value).ownBlock ∧ some k_ ≠ (.slice Ao59 t261.length co59 : Value).ownBlock)) (by (with_reducible repeat (first | apply Kd.R_alloc | apply Kd.R_drewN | apply Kd.R_drew)); exact Kd.R_mono HO257.out (fun _ hk => ⟨⟨hk.1.1.1, ⟨hk.1.1.2, hk.2⟩⟩, hk.1.2⟩)) hg hat); have n5_ := Aside0.mk (Kd.R_after (ok := (fun k_ => (w.heap.size ≤ k_) ∧ some k_ ≠ (.slice (some ad251) t248.length co44 : Value).ownBlock ∧ some k_ ≠ (.slice Ao56 t255.length co56 : Value).ownBlock)) (by (with_reducible repeat (first | apply Kd.R_alloc | apply Kd.R_drewN | apply Kd.R_drew)); exact Kd.R_mono HO263.out (fun _ hk => ⟨⟨hk.1.1.1.1, ⟨hk.1.1.2, hk.1.2⟩⟩, hk.2⟩)) hg hat); have n6_ := Aside0.mk (hb); have n7_ := Aside0.mk (ho); clear HO_0; clear HO_1; clear HO_5; clear HO_45; clear HO257; clear HO263; clear HB; clear HO260; have HO_0 := n0_; have HO_1 := n1_; have HO_5 := n2_; have HO_45 := n3_; have HO257 := n4_; have HO263 := n5_; have HB := n6_; have HO266 := n7_; clear n0_ n1_ n2_ n3_ n4_ n5_ n6_ n7_; clear ho hb hg hat; obtain ⟨Ao60, co60, eo60⟩ := Kd.R_slice HO266.out; subst eo60))
                       go_loopg [8, 59] k2 (fun kq v8 v59 w' => ∃ (x8_3 : Bool) (x59_3 : Int), v8 = .bool x8_3 ∧ v59 = .int .i64 x59_3 ∧ Aside0 (handshakerlaw08_CodeBehind.l1 kq l0 l1 y243 (rd t248 x47_2) x8_3 t248 (t248.length : Int) x47_2 y264 (y264.length : Int) x59_3 = some r) ∧ Aside0 (kq ≤ k2) ∧ Aside0 (Kd.V k37 37 w' w.heap.size (fun k_ => ((P0_ k_ ∨ P1_ k_) ∨ w.heap.size ≤ k_) ∧ some k_ ≠ ((.slice Ao42 y243.length co42) : Value).ownBlock ∧ some k_ ≠ ((.slice (some ad251) t248.length co44) : Value).ownBlock ∧ some k_ ≠ ((.slice Ao60 y264.length co60) : Value).ownBlock) (.slice A0 l0.length c0) l0) ∧ Aside0 (Kd.V k37 37 w' w.heap.size (fun k_ => ((P0_ k_ ∨ P1_ k_) ∨ w.heap.size ≤ k_) ∧ some k_ ≠ ((.slice Ao42 y243.length co42) : Value).ownBlock ∧ some k_ ≠ ((.slice (some ad251) t248.length co44) : Value).ownBlock ∧ some k_ ≠ ((.slice Ao60 y264.length co60) : Value).ownBlock) (.slice A1 l1.length c1) l1) ∧ Aside0 (Kd.N k37 37 w' w.heap.size (fun k_ => ((P0_ k_ ∨ P1_ k_) ∨ w.heap.size ≤ k_) ∧ some k_ ≠ ((.slice (some ad251) t248.length co44) : Value).ownBlock ∧ some k_ ≠ ((.slice Ao60 y264.length co60) : Value).ownBlock) (.slice Ao42 y243.length co42) y243) ∧ Aside0 (Kd.R (Kd.int .i64) 3 w' w.heap.size (fun k_ => (w.heap.size ≤ k_) ∧ some k_ ≠ ((.slice Ao60 y264.length co60) : Value).ownBlock) (.slice (some ad251) t248.length co44) t248) ∧ Aside0 (Kd.R (Kd.int .i64) 3 w' w.heap.size (fun k_ => (w.heap.size ≤ k_) ∧ some k_ ≠ ((.slice (some ad251) t248.length co44) : Value).ownBlock) (.slice Ao60 y264.length co60) y264) ∧ Aside0 (Below w.heap.size w w'))
                       case atStart => exact ⟨(false), (0), (by first | rfl | (simp; done) | (simp [*]; done)), (by first | rfl | (simp; done) | (simp [*]; done)), H', ⟨Nat.le_refl _⟩, ⟨by (with_reducible repeat (first | apply Kd.V_alloc | apply Kd.V_drewN | apply Kd.V_drew)); exact Kd.V_mono HO_0.out (fun _ hk => ⟨hk.1.1, ⟨hk.1.2.1, ⟨hk.1.2.2.1, hk.2⟩⟩⟩)⟩, ⟨by (with_reducible repeat (first | apply Kd.V_alloc | apply Kd.V_drewN | apply Kd.V_drew)); exact Kd.V_mono HO_1.out (fun _ hk => ⟨hk.1.1, ⟨hk.1.2.1, ⟨hk.1.2.2.1, hk.2⟩⟩⟩)⟩, ⟨by (with_reducible repeat (first | apply Kd.N_alloc | apply Kd.N_drewN | apply Kd.N_drew)); exact Kd.N_mono HO_5.out (fun _ hk => ⟨hk.1.1, ⟨hk.1.2.1, hk.2⟩⟩)⟩, ⟨by (with_reducible repeat (first | apply Kd.R_alloc | apply Kd.R_drewN | apply Kd.R_drew)); exact Kd.R_mono HO_45.out (fun _ hk => ⟨hk.1.1, hk.2⟩)⟩, ⟨by (with_reducible repeat (first | apply Kd.R_alloc | apply Kd.R_drewN | apply Kd.R_drew)); exact Kd.R_mono HO266.out (fun _ hk => ⟨hk.1, hk.2.1⟩)⟩, ⟨by repeat (with_reducible first | exact HB.out | apply below_alloc | apply pw_below_drewN | apply below_drew1)⟩⟩
                       case round =>
                        clear H'
                        try clear c1
                        try clear c2
                        try clear p2
                        try clear q2
                        try clear hx2
                        try clear c4
                        try clear c5
                        try clear c5b0
                        try clear c8
                        try clear c8b0
                        try clear c12
                        try clear c12b0
                        try clear c12b1
                        try clear c15
                        try clear c16
                        try clear c18
                        try clear c21
                        try clear c23
                        try clear c24
                        try clear c25
                        try clear p25
                        try clear q25
                        try clear hx25
                        try clear c26
                        try clear c26b0
                        try clear c26b1
                        try clear c28
                        try clear c28b0
                        try clear c28b1
                        try clear c45
                        try clear c45b0
                        try clear c46
                        try clear c46b0
                        try clear c47
                        try clear c47b0
                        try clear c49
                        try clear c51
                        try clear hx251_0
                        try clear p2
                        try clear p251
                        try clear q251
                        obtain ⟨x8_3, x59_3, rfl, rfl, HA, HK3, HO_0, HO_1, HO_5, HO_45, HO_57, HB⟩ := hrel
                        cases gk with
                        | zero => exact absurd HA.out (by simp [handshakerlaw08_CodeBehind.l1])
                        | succ k3 =>
                         have H := HA.out
                         clear HA
                         simp only [handshakerlaw08_CodeBehind.l1] at H
                         by_cases c61 : x59_3 < (y264.length : Int)
                         · rw [if_pos c61] at H
                           have c61b0 : decide (x59_3 < (y264.length : Int)) = true := decide_eq_true c61
                           clear c61
                           by_cases c62 : 0 ≤ x59_3
                           · rw [if_pos c62] at H
                             have c62b0 : decide (0 ≤ x59_3) = true := decide_eq_true c62
                             clear c62
                             by_cases c63 : x59_3 < (y264.length : Int)
                             · rw [if_pos c63] at H
                               have c63b0 : decide (x59_3 < (y264.length : Int)) = true := decide_eq_true c63
                               clear c63
                               by_cases c64 : x8_3 = true
                               · subst c64
                                 have H1 : (handshakerlaw08_CodeBehind.l1 k3 l0 l1 y243 (rd t248 x47_2) true t248 (t248.length : Int) x47_2 y264 (y264.length : Int) (wrap64 (x59_3 + 1))) = some r := by rw [if_pos rfl] at H; exact H
                                 clear H
                                 have H := H1
                                 clear H1
                                 have H' := Aside0.mk H
                                 clear H
                                 have p267 : 0 ≤ (x59_3 : Int) := of_decide_eq_true (by first | (with_reducible assumption) | assumption)
                                 have q267 : x59_3 < (y264.length : Int) := of_decide_eq_true (by first | (with_reducible assumption) | assumption)
                                 obtain ⟨ad267, e267, hx267_0⟩ := Kd.at_int (Kd.R_reads' HO_57.out).2.2 x59_3 p267 q267
                                 cases e267
                                 replace p267 := eq_true p267
                                 replace q267 := eq_true q267
                                 go_wp2
                                 go_roundg k3
                                 case measure => have := HJ2.out; have := HK2.out; have := HK3.out; omega
                                 case rel => exact ⟨(true), (wrap64 (x59_3 + 1)), (by first | rfl | (simp; done) | (simp [*]; done)), (by first | rfl | (simp; done) | (simp [*]; done)), H', ⟨by have := HJ2.out; have := HK2.out; have := HK3.out; omega⟩, ⟨by (with_reducible repeat (first | apply Kd.V_alloc | apply Kd.V_drewN | apply Kd.V_drew)); exact HO_0.out⟩, ⟨by (with_reducible repeat (first | apply Kd.V_alloc | apply Kd.V_drewN | apply Kd.V_drew)); exact HO_1.out⟩, ⟨by (with_reducible repeat (first | apply Kd.N_alloc | apply Kd.N_drewN | apply Kd.N_drew)); exact HO_5.out⟩, ⟨by (with_reducible repeat (first | apply Kd.R_alloc | apply Kd.R_drewN | apply Kd.R_drew)); exact HO_45.out⟩, ⟨by (with_reducible repeat (first | apply Kd.R_alloc | apply Kd.R_drewN | apply Kd.R_drew)); exact HO_57.out⟩, ⟨by repeat (with_reducible first | exact HB.out | apply below_alloc | apply pw_below_drewN | apply below_drew1)⟩⟩
                               · replace c64 := Bool.eq_false_iff.mpr c64
                                 subst c64
                                 have H1 : (handshakerlaw08_CodeBehind.l1 k3 l0 l1 y243 (rd t248 x47_2) ((rd y264 x59_3) == (rd t248 x47_2)) t248 (t248.length : Int) x47_2 y264 (y264.length : Int) (wrap64 (x59_3 + 1))) = some r := by rw [if_neg (show ¬ (false = true) by decide)] at H; exact H
                                 clear H
                                 have H := H1
                                 clear H1
                                 have H' := Aside0.mk H
                                 clear H
                                 have p267 : 0 ≤ (x59_3 : Int) := of_decide_eq_true (by first | (with_reducible assumption) | assumption)
                                 have q267 : x59_3 < (y264.length : Int) := of_decide_eq_true (by first | (with_reducible assumption) | assumption)
                                 obtain ⟨ad267, e267, hx267_0⟩ := Kd.at_int (Kd.R_reads' HO_57.out).2.2 x59_3 p267 q267
                                 cases e267
                                 replace p267 := eq_true p267
                                 replace q267 := eq_true q267
                                 go_wp2
                                 go_roundg k3
                                 case measure => have := HJ2.out; have := HK2.out; have := HK3.out; omega
                                 case rel => exact ⟨(((rd y264 x59_3) == (rd t248 x47_2))), (wrap64 (x59_3 + 1)), (by first | rfl | (simp; done) | (simp [*]; done)), (by first | rfl | (simp; done) | (simp [*]; done)), H', ⟨by have := HJ2.out; have := HK2.out; have := HK3.out; omega⟩, ⟨by (with_reducible repeat (first | apply Kd.V_alloc | apply Kd.V_drewN | apply Kd.V_drew)); exact HO_0.out⟩, ⟨by (with_reducible repeat (first | apply Kd.V_alloc | apply Kd.V_drewN | apply Kd.V_drew)); exact HO_1.out⟩, ⟨by (with_reducible repeat (first | apply Kd.N_alloc | apply Kd.N_drewN | apply Kd.N_drew)); exact HO_5.out⟩, ⟨by (with_reducible repeat (first | apply Kd.R_alloc | apply Kd.R_drewN | apply Kd.R_drew)); exact HO_45.out⟩, ⟨by (with_reducible repeat (first | apply Kd.R_alloc | apply Kd.R_drewN | apply Kd.R_drew)); exact HO_57.out⟩, ⟨by repeat (with_reducible first | exact HB.out | apply below_alloc | apply pw_below_drewN | apply below_drew1)⟩⟩
                             · rw [if_neg c63] at H
                               exact absurd H (by simp)
                           · rw [if_neg c62] at H
                             exact absurd H (by simp)
                         · rw [if_neg c61] at H
                           have c61b0 : decide (x59_3 < (y264.length : Int)) = false := decide_eq_false c61
                           clear c61
                           by_cases c65 : x8_3 = true
                           · subst c65
                             have H1 : (handshakerlaw08_CodeBehind.l0 k3 l0 l1 y243 t248 (t248.length : Int) (wrap64 (x47_2 + 1))) = some r := by rw [if_pos rfl] at H; exact H
                             clear H
                             have H := H1
                             clear H1
                             have H' := Aside0.mk H
                             clear H
                             go_wp2
                             go_roundg k3
                             case measure => have := HJ2.out; have := HK2.out; have := HK3.out; omega
                             case rel => exact ⟨(wrap64 (x47_2 + 1)), (by first | rfl | (simp; done) | (simp [*]; done)), H', ⟨by have := HJ2.out; have := HK2.out; have := HK3.out; omega⟩, ⟨by (with_reducible repeat (first | apply Kd.V_alloc | apply Kd.V_drewN | apply Kd.V_drew)); exact Kd.V_mono HO_0.out (fun _ hk => ⟨hk.1, ⟨hk.2.1, hk.2.2.1⟩⟩)⟩, ⟨by (with_reducible repeat (first | apply Kd.V_alloc | apply Kd.V_drewN | apply Kd.V_drew)); exact Kd.V_mono HO_1.out (fun _ hk => ⟨hk.1, ⟨hk.2.1, hk.2.2.1⟩⟩)⟩, ⟨by (with_reducible repeat (first | apply Kd.N_alloc | apply Kd.N_drewN | apply Kd.N_drew)); exact Kd.N_mono HO_5.out (fun _ hk => ⟨hk.1, hk.2.1⟩)⟩, ⟨by (with_reducible repeat (first | apply Kd.R_alloc | apply Kd.R_drewN | apply Kd.R_drew)); exact Kd.R_mono HO_45.out (fun _ hk => hk.1)⟩, ⟨by repeat (with_reducible first | exact HB.out | apply below_alloc | apply pw_below_drewN | apply below_drew1)⟩⟩
                           · replace c65 := Bool.eq_false_iff.mpr c65
                             subst c65
                             have H1 : (some false) = some r := by rw [if_neg (show ¬ (false = true) by decide)] at H; exact H
                             clear H
                             have H := H1
                             clear H1
                             exact absurd (Option.some.inj H) (by rw [HT.out]; decide)
                     · rw [if_neg c51] at H
                       exact absurd H (by simp)
                   · rw [if_neg c49] at H
                     exact absurd H (by simp)
                 · rw [if_neg c47] at H
                   exact absurd H (by simp)
               · rw [if_neg c46] at H
                 exact absurd H (by simp)
             · rw [if_neg c45] at H
               have c45b0 : decide (x47_2 < (t248.length : Int)) = false := decide_eq_false c45
               clear c45
               replace H := Option.bind_eq_some_iff.mp H
               obtain ⟨t268, A660, H⟩ := H
               replace H : (if t268 = 0 then ((code_Deep.f k2 y243).bind fun t269 => ((code_Deep.f k2 l0).bind fun t270 => ((code_Deep.f k2 l1).bind fun t271 => (if t269 = (mx t270 t271) then ((code_Cells.f k2 y243).bind fun t272 => ((code_Cells.f k2 l0).bind fun t275 => (if (t272.length : Int) ≥ (t275.length : Int) then ((handshakerlaw08_awake.f k2).bind fun t278 => (some t278)) else (some false)))) else (some false))))) else (some false)) = some r := H
               have A66 := Aside0.mk A660
               clear A660
               by_cases c67 : t268 = 0
               · rw [if_pos c67] at H
                 have c67b0 : (t268 == 0) = true := beq_iff_eq.mpr c67
                 have c67b1 : (t268 != 0) = false := bne_eq_false_iff_eq.mpr c67
                 clear c67
                 replace H := Option.bind_eq_some_iff.mp H
                 obtain ⟨t269, A680, H⟩ := H
                 replace H : ((code_Deep.f k2 l0).bind fun t270 => ((code_Deep.f k2 l1).bind fun t271 => (if t269 = (mx t270 t271) then ((code_Cells.f k2 y243).bind fun t272 => ((code_Cells.f k2 l0).bind fun t275 => (if (t272.length : Int) ≥ (t275.length : Int) then ((handshakerlaw08_awake.f k2).bind fun t278 => (some t278)) else (some false)))) else (some false)))) = some r := H
                 have A68 := Aside0.mk A680
                 clear A680
                 replace H := Option.bind_eq_some_iff.mp H
                 obtain ⟨t270, A690, H⟩ := H
                 replace H : ((code_Deep.f k2 l1).bind fun t271 => (if t269 = (mx t270 t271) then ((code_Cells.f k2 y243).bind fun t272 => ((code_Cells.f k2 l0).bind fun t275 => (if (t272.length : Int) ≥ (t275.length : Int) then ((handshakerlaw08_awake.f k2).bind fun t278 => (some t278)) else (some false)))) else (some false))) = some r := H
                 have A69 := Aside0.mk A690
                 clear A690
                 replace H := Option.bind_eq_some_iff.mp H
                 obtain ⟨t271, A700, H⟩ := H
                 replace H : (if t269 = (mx t270 t271) then ((code_Cells.f k2 y243).bind fun t272 => ((code_Cells.f k2 l0).bind fun t275 => (if (t272.length : Int) ≥ (t275.length : Int) then ((handshakerlaw08_awake.f k2).bind fun t278 => (some t278)) else (some false)))) else (some false)) = some r := H
                 have A70 := Aside0.mk A700
                 clear A700
                 obtain ⟨ji71, hji71⟩ : ∃ j_ : Int, (mx t270 t271) = j_ := ⟨_, rfl⟩
                 replace H : (if t269 = (ji71) then ((code_Cells.f k2 y243).bind fun t272 => ((code_Cells.f k2 l0).bind fun t275 => (if (t272.length : Int) ≥ (t275.length : Int) then ((handshakerlaw08_awake.f k2).bind fun t278 => (some t278)) else (some false)))) else (some false)) = some r := by first | (rw [hji71] at H; exact H) | (simp only [hji71] at H ⊢; exact H)
                 (try rw [hji71] at A66)
                 (try rw [hji71] at A68)
                 (try rw [hji71] at A69)
                 (try rw [hji71] at A70)
                 have hji71_ : (if t270 < t271 then t271 else t270) = ji71 := hji71
                 by_cases c72 : t269 = (ji71)
                 · rw [if_pos c72] at H
                   have c72b0 : (t269 == (ji71)) = true := beq_iff_eq.mpr c72
                   have c72b1 : (t269 != (ji71)) = false := bne_eq_false_iff_eq.mpr c72
                   clear c72
                   replace H := Option.bind_eq_some_iff.mp H
                   obtain ⟨t272, A730, H⟩ := H
                   replace H : ((code_Cells.f k2 l0).bind fun t275 => (if (t272.length : Int) ≥ (t275.length : Int) then ((handshakerlaw08_awake.f k2).bind fun t278 => (some t278)) else (some false))) = some r := H
                   have A73 := Aside0.mk A730
                   clear A730
                   replace H := Option.bind_eq_some_iff.mp H
                   obtain ⟨t275, A740, H⟩ := H
                   replace H : (if (t272.length : Int) ≥ (t275.length : Int) then ((handshakerlaw08_awake.f k2).bind fun t278 => (some t278)) else (some false)) = some r := H
                   have A74 := Aside0.mk A740
                   clear A740
                   by_cases c75 : (t272.length : Int) ≥ (t275.length : Int)
                   · rw [if_pos c75] at H
                     have c75b0 : decide ((t275.length : Int) ≤ (t272.length : Int)) = true := decide_eq_true c75
                     have c75b1 : decide (t275.length ≤ t272.length) = true := decide_eq_true (Int.ofNat_le.mp c75)
                     clear c75
                     replace H := Option.bind_eq_some_iff.mp H
                     obtain ⟨t278, A760, H⟩ := H
                     replace H : (some t278) = some r := H
                     have A76 := Aside0.mk A760
                     clear A760
                     obtain rfl := Option.some.inj H
                     go_wp2_with (first | ((with_reducible refine gate_callee (f := 18) rfl ?_); refine goesL_ (some 74) rfl rfl Try.func18 (by kernel_rfl) rfl #[.slice Ao42 y243.length co42] rfl (by (try simp only [List.map_toArray, List.map_cons, List.map_nil]); first | done | rfl) ?_; (with_reducible refine (code_Check.calls k2 _ _ y243 t268 _ ?side1 ?side2 A66.out).mono ?_); (case side1 => repeat (first | exact (Kd.N_reads' HO_5.out).2.2 | with_reducible first | refine Kd.C_alloc ?_ _ | refine Kd.C_drewN ?_ _ | refine Kd.C_drew ?_)); (case side2 => exact (Kd.N_reads' HO_5.out).2.1); rintro e w77 ⟨rfl, hb⟩; refine ⟨_, rfl, ?_⟩; have n0_ := Aside0.mk (Kd.V_below (by (with_reducible repeat (first | apply Kd.V_alloc | apply Kd.V_drewN | apply Kd.V_drew)); exact HO_0.out) hb); have n1_ := Aside0.mk (Kd.V_below (by (with_reducible repeat (first | apply Kd.V_alloc | apply Kd.V_drewN | apply Kd.V_drew)); exact HO_1.out) hb); have n2_ := Aside0.mk (Kd.N_below (by (with_reducible repeat (first | apply Kd.N_alloc | apply Kd.N_drewN | apply Kd.N_drew)); exact HO_5.out) hb); have n3_ := Aside0.mk (Kd.R_below (by (with_reducible repeat (first | apply Kd.R_alloc | apply Kd.R_drewN | apply Kd.R_drew)); exact HO_45.out) hb); have n4_ := Aside0.mk (bst_ hb); clear HO_0; clear HO_1; clear HO_5; clear HO_45; clear HB; have HO_0 := n0_; have HO_1 := n1_; have HO_5 := n2_; have HO_45 := n3_; have HB := n4_; clear n0_ n1_ n2_ n3_ n4_; (try clear hb); (try clear hb2); (try clear hk); (try clear hi)) | (go_at_call 20; (with_reducible refine (code_Deep.calls k2 _ _ y243 t269 _ ?side1 ?side2 A68.out).mono ?_); (case side1 => repeat (first | exact (Kd.N_reads' HO_5.out).2.2 | with_reducible first | refine Kd.C_alloc ?_ _ | refine Kd.C_drewN ?_ _ | refine Kd.C_drew ?_)); (case side2 => exact (Kd.N_reads' HO_5.out).2.1); rintro e w78 ⟨rfl, hb⟩; have n0_ := Aside0.mk (Kd.V_below (by (with_reducible repeat (first | apply Kd.V_alloc | apply Kd.V_drewN | apply Kd.V_drew)); exact HO_0.out) hb); have n1_ := Aside0.mk (Kd.V_below (by (with_reducible repeat (first | apply Kd.V_alloc | apply Kd.V_drewN | apply Kd.V_drew)); exact HO_1.out) hb); have n2_ := Aside0.mk (Kd.N_below (by (with_reducible repeat (first | apply Kd.N_alloc | apply Kd.N_drewN | apply Kd.N_drew)); exact HO_5.out) hb); have n3_ := Aside0.mk (Kd.R_below (by (with_reducible repeat (first | apply Kd.R_alloc | apply Kd.R_drewN | apply Kd.R_drew)); exact HO_45.out) hb); have n4_ := Aside0.mk (bst_ hb); clear HO_0; clear HO_1; clear HO_5; clear HO_45; clear HB; have HO_0 := n0_; have HO_1 := n1_; have HO_5 := n2_; have HO_45 := n3_; have HB := n4_; clear n0_ n1_ n2_ n3_ n4_; (try clear hb); (try clear hb2); (try clear hk); (try clear hi)) | (go_at_call 20; (with_reducible refine (code_Deep.calls k2 _ _ l0 t270 _ ?side1 ?side2 A69.out).mono ?_); (case side1 => repeat (first | exact (Kd.V_reads' HO_0.out).2.2 | with_reducible first | refine Kd.C_alloc ?_ _ | refine Kd.C_drewN ?_ _ | refine Kd.C_drew ?_)); (case side2 => exact (Kd.V_reads' HO_0.out).2.1); rintro e w79 ⟨rfl, hb⟩; have n0_ := Aside0.mk (Kd.V_below (by (with_reducible repeat (first | apply Kd.V_alloc | apply Kd.V_drewN | apply Kd.V_drew)); exact HO_0.out) hb); have n1_ := Aside0.mk (Kd.V_below (by (with_reducible repeat (first | apply Kd.V_alloc | apply Kd.V_drewN | apply Kd.V_drew)); exact HO_1.out) hb); have n2_ := Aside0.mk (Kd.N_below (by (with_reducible repeat (first | apply Kd.N_alloc | apply Kd.N_drewN | apply Kd.N_drew)); exact HO_5.out) hb); have n3_ := Aside0.mk (Kd.R_below (by (with_reducible repeat (first | apply Kd.R_alloc | apply Kd.R_drewN | apply Kd.R_drew)); exact HO_45.out) hb); have n4_ := Aside0.mk (bst_ hb); clear HO_0; clear HO_1; clear HO_5; clear HO_45; clear HB; have HO_0 := n0_; have HO_1 := n1_; have HO_5 := n2_; have HO_45 := n3_; have HB := n4_; clear n0_ n1_ n2_ n3_ n4_; (try clear hb); (try clear hb2); (try clear hk); (try clear hi)) | (go_at_call 20; (with_reducible refine (code_Deep.calls k2 _ _ l1 t271 _ ?side1 ?side2 A70.out).mono ?_); (case side1 => repeat (first | exact (Kd.V_reads' HO_1.out).2.2 | with_reducible first | refine Kd.C_alloc ?_ _ | refine Kd.C_drewN ?_ _ | refine Kd.C_drew ?_)); (case side2 => exact (Kd.V_reads' HO_1.out).2.1); rintro e w80 ⟨rfl, hb⟩; have n0_ := Aside0.mk (Kd.V_below (by (with_reducible repeat (first | apply Kd.V_alloc | apply Kd.V_drewN | apply Kd.V_drew)); exact HO_0.out) hb); have n1_ := Aside0.mk (Kd.V_below (by (with_reducible repeat (first | apply Kd.V_alloc | apply Kd.V_drewN | apply Kd.V_drew)); exact HO_1.out) hb); have n2_ := Aside0.mk (Kd.N_below (by (with_reducible repeat (first | apply Kd.N_alloc | apply Kd.N_drewN | apply Kd.N_drew)); exact HO_5.out) hb); have n3_ := Aside0.mk (Kd.R_below (by (with_reducible repeat (first | apply Kd.R_alloc | apply Kd.R_drewN | apply Kd.R_drew)); exact HO_45.out) hb); have n4_ := Aside0.mk (bst_ hb); clear HO_0; clear HO_1; clear HO_5; clear HO_45; clear HB; have HO_0 := n0_; have HO_1 := n1_; have HO_5 := n2_; have HO_45 := n3_; have HB := n4_; clear n0_ n1_ n2_ n3_ n4_; (try clear hb); (try clear hb2); (try clear hk); (try clear hi)) | (go_at_call 23; (with_reducible refine (code_Cells.calls k2 _ _ y243 t272 _ ?side1 ?side2 A73.out).mono ?_); (case side1 => repeat (first | exact (Kd.N_reads' HO_5.out).2.2 | with_reducible first | refine Kd.C_alloc ?_ _ | refine Kd.C_drewN ?_ _ | refine Kd.C_drew ?_)); (case side2 => exact (Kd.N_reads' HO_5.out).2.1); rintro e w81 ⟨v273, rfl, ho0, hb⟩; have n0_ := Aside0.mk (Kd.V_elder' (by (with_reducible repeat (first | apply Kd.V_alloc | apply Kd.V_drewN | apply Kd.V_drew)); exact HO_0.out) (Kd.R_base ho0) hb); have n1_ := Aside0.mk (Kd.V_elder' (by (with_reducible repeat (first | apply Kd.V_alloc | apply Kd.V_drewN | apply Kd.V_drew)); exact HO_1.out) (Kd.R_base ho0) hb); have n2_ := Aside0.mk (Kd.N_elder' (by (with_reducible repeat (first | apply Kd.N_alloc | apply Kd.N_drewN | apply Kd.N_drew)); exact HO_5.out) (Kd.R_base ho0) hb); have n3_ := Aside0.mk (Kd.R_elder' (by (with_reducible repeat (first | apply Kd.R_alloc | apply Kd.R_drewN | apply Kd.R_drew)); exact HO_45.out) (Kd.R_base ho0) hb); have n4_ := Aside0.mk (Kd.R_lower (Kd.R_new' (Kd.R_newM (M := fun k_ => (w.heap.size ≤ k_)) ho0 bsz_ (fun k_ h_ => h_)) (Kd.R_lt (by (with_reducible repeat (first | apply Kd.R_alloc | apply Kd.R_drewN | apply Kd.R_drew)); exact HO_45.out))) bsz_); have n5_ := Aside0.mk (bst_ hb); clear HO_0; clear HO_1; clear HO_5; clear HO_45; clear HB; have HO_0 := n0_; have HO_1 := n1_; have HO_5 := n2_; have HO_45 := n3_; have HO274 := n4_; have HB := n5_; clear n0_ n1_ n2_ n3_ n4_ n5_; (try clear hb); (try clear hb2); (try clear hk); (try clear hi); (try clear ho0); obtain ⟨Ao82, co82, eo82⟩ := Kd.R_slice HO274.out; subst eo82) | (go_at_call 23; (with_reducible refine (code_Cells.calls k2 _ _ l0 t275 _ ?side1 ?side2 A74.out).mono ?_); (case side1 => repeat (first | exact (Kd.V_reads' HO_0.out).2.2 | with_reducible first | refine Kd.C_alloc ?_ _ | refine Kd.C_drewN ?_ _ | refine Kd.C_drew ?_)); (case side2 => exact (Kd.V_reads' HO_0.out).2.1); rintro e w83 ⟨v276, rfl, ho0, hb⟩; have n0_ := Aside0.mk (Kd.V_elder' (by (with_reducible repeat (first | apply Kd.V_alloc | apply Kd.V_drewN | apply Kd.V_drew)); exact HO_0.out) (Kd.R_base ho0) hb); have n1_ := Aside0.mk (Kd.V_elder' (by (with_reducible repeat (first | apply Kd.V_alloc | apply Kd.V_drewN | apply Kd.V_drew)); exact HO_1.out) (Kd.R_base ho0) hb); have n2_ := Aside0.mk (Kd.N_elder' (by (with_reducible repeat (first | apply Kd.N_alloc | apply Kd.N_drewN | apply Kd.N_drew)); exact HO_5.out) (Kd.R_base ho0) hb); have n3_ := Aside0.mk (Kd.R_elder' (by (with_reducible repeat (first | apply Kd.R_alloc | apply Kd.R_drewN | apply Kd.R_drew)); exact HO_45.out) (Kd.R_base ho0) hb); have n4_ := Aside0.mk (Kd.R_elder' (by (with_reducible repeat (first | apply Kd.R_alloc | apply Kd.R_drewN | apply Kd.R_drew)); exact HO274.out) (Kd.R_base ho0) hb); have n5_ := Aside0.mk (Kd.R_lower (Kd.R_new' (Kd.R_new' (Kd.R_newM (M := fun k_ => (w.heap.size ≤ k_)) ho0 bsz_ (fun k_ h_ => h_)) (Kd.R_lt (by (with_reducible repeat (first | apply Kd.R_alloc | apply Kd.R_drewN | apply Kd.R_drew)); exact HO_45.out))) (Kd.R_lt (by (with_reducible repeat (first | apply Kd.R_alloc | apply Kd.R_drewN | apply Kd.R_drew)); exact HO274.out))) bsz_); have n6_ := Aside0.mk (bst_ hb); clear HO_0; clear HO_1; clear HO_5; clear HO_45; clear HO274; clear HB; have HO_0 := n0_; have HO_1 := n1_; have HO_5 := n2_; have HO_45 := n3_; have HO274 := n4_; have HO277 := n5_; have HB := n6_; clear n0_ n1_ n2_ n3_ n4_ n5_ n6_; (try clear hb); (try clear hb2); (try clear hk); (try clear hi); (try clear ho0); obtain ⟨Ao84, co84, eo84⟩ := Kd.R_slice HO277.out; subst eo84) | (go_at_call 16; (with_reducible refine (handshakerlaw08_awake.calls k2  t278 _ A76.out).mono ?_); rintro e w85 ⟨rfl, hb⟩; have n0_ := Aside0.mk (Kd.V_below (by (with_reducible repeat (first | apply Kd.V_alloc | apply Kd.V_drewN | apply Kd.V_drew)); exact HO_0.out) hb); have n1_ := Aside0.mk (Kd.V_below (by (with_reducible repeat (first | apply Kd.V_alloc | apply Kd.V_drewN | apply Kd.V_drew)); exact HO_1.out) hb); have n2_ := Aside0.mk (Kd.N_below (by (with_reducible repeat (first | apply Kd.N_alloc | apply Kd.N_drewN | apply Kd.N_drew)); exact HO_5.out) hb); have n3_ := Aside0.mk (Kd.R_below (by (with_reducible repeat (first | apply Kd.R_alloc | apply Kd.R_drewN | apply Kd.R_drew)); exact HO_45.out) hb); have n4_ := Aside0.mk (Kd.R_below (by (with_reducible repeat (first | apply Kd.R_alloc | apply Kd.R_drewN | apply Kd.R_drew)); exact HO274.out) hb); have n5_ := Aside0.mk (Kd.R_below (by (with_reducible repeat (first | apply Kd.R_alloc | apply Kd.R_drewN | apply Kd.R_drew)); exact HO277.out) hb); have n6_ := Aside0.mk (bst_ hb); clear HO_0; clear HO_1; clear HO_5; clear HO_45; clear HO274; clear HO277; clear HB; have HO_0 := n0_; have HO_1 := n1_; have HO_5 := n2_; have HO_45 := n3_; have HO274 := n4_; have HO277 := n5_; have HB := n6_; clear n0_ n1_ n2_ n3_ n4_ n5_ n6_; (try clear hb); (try clear hb2); (try clear hk); (try clear hi)))
                     go_ret
                     exact ⟨by first | rfl | (simp [errW_none, errW_some] <;> rfl) | (simp only [← hji71]; first | rfl | (simp [errW_none, errW_some] <;> rfl)) | (simp [*, errW_none, errW_some] <;> rfl), by repeat (with_reducible first | exact HB.out | apply below_alloc | apply pw_below_drewN | apply below_drew1)⟩
                   · rw [if_neg c75] at H
                     have c75b0 : decide ((t275.length : Int) ≤ (t272.length : Int)) = false := decide_eq_false c75
                     have c75b1 : decide (t275.length ≤ t272.length) = false := decide_eq_false (fun h => c75 (Int.ofNat_le.mpr h))
                     clear c75
                     exact absurd (Option.some.inj H) (by rw [HT.out]; decide)
                 · rw [if_neg c72] at H
                   have c72b0 : (t269 == (ji71)) = false := beq_eq_false_iff_ne.mpr c72
                   have c72b1 : (t269 != (ji71)) = true := bne_iff_ne.mpr c72
                   exact absurd (Option.some.inj H) (by rw [HT.out]; decide)
               · rw [if_neg c67] at H
                 have c67b0 : (t268 == 0) = false := beq_eq_false_iff_ne.mpr c67
                 have c67b1 : (t268 != 0) = true := bne_iff_ne.mpr c67
                 exact absurd (Option.some.inj H) (by rw [HT.out]; decide)
       · rw [if_neg c25] at H
         exact absurd H (by simp)
     · rw [if_neg c24] at H
       exact absurd H (by simp)

/-- THE ONE PURE STATEMENT of handshakerlaw08_CodeBehind. -/
def handshakerlaw08_CodeBehind.Pure : Prop := ∀ (l0 : List (S37)) (l1 : List (S37)), l0.length ≤ maxLen → l0.length * 48 ≤ 140737488351232 → (∀ y ∈ l0, wfS37 y) → l1.length ≤ maxLen → l1.length * 48 ≤ 140737488351232 → (∀ y ∈ l1, wfS37 y) → ∃ k, handshakerlaw08_CodeBehind.f k l0 l1 = some true

end Go.Proofs.Ytbcpnbmegaodbaa.Cb
