-- PRINTED by print.py (a twelfth state) out of the translation. Not trusted: Lean checks it.
import Derived.Test.YtbcpnbmegaodbaaTcx0
import Derived.Test.YtbcpnbmegaodbaaTcx3
namespace Go.Proofs.Ytbcpnbmegaodbaa.Tc
open Go.Proofs.Ytbcpnbmegaodbaa.Ho
open Go.RowKit Go.Proofs.YtbcpnbmegaodbaaW.PrintWords Go.Proofs.YtbcpnbmegaodbaaW.PrintLast Go.Proofs.YtbcpnbmegaodbaaW.PrintMore
attribute [local go_sem] max2_int min2_int max_two min_two max_three min_three max_four min_four   -- for this text's walks alone
set_option linter.unusedVariables false
set_option linter.unusedSimpArgs false

/-! ### handshakerlaw07_TermLong: function 12 -/
mutual
def handshakerlaw07_TermLong.l0 : Nat → Int → Bool → Int → List (S41) → Int → Int → Option (Bool)
  | 0, _, _, _, _, _, _ => none
  | k + 1, x1, x2, x7, x8, x17, x18 => if x18 < x17 then (if x8.length < 8796093022208 then ((some (x8 ++ [(⟨1, wrap64 (x1)⟩ : S41)] : List (S41))).bind fun y385 => (if x18 > 0 then (if x2 = true then (handshakerlaw07_TermLong.l0 k x1 x2 x7 y385 x17 (wrap64 (x18 + 1))) else (if y385.length < 8796093022208 then (handshakerlaw07_TermLong.l0 k x1 x2 x7 (y385 ++ [(⟨4, 0⟩ : S41)]) x17 (wrap64 (x18 + 1))) else (none))) else (handshakerlaw07_TermLong.l0 k x1 x2 x7 y385 x17 (wrap64 (x18 + 1))))) else (none)) else (handshakerlaw07_TermLong.l1 k x1 x2 x7 x8 (wrap64 (x7 - 1)) 0)
def handshakerlaw07_TermLong.l1 : Nat → Int → Bool → Int → List (S41) → Int → Int → Option (Bool)
  | 0, _, _, _, _, _, _ => none
  | k + 1, x1, x2, x7, x8, x39, x40 => if x40 < x39 then (if x2 = true then (if x8.length < 8796093022208 then (handshakerlaw07_TermLong.l1 k x1 x2 x7 (x8 ++ [(⟨4, 0⟩ : S41)]) x39 (wrap64 (x40 + 1))) else (none)) else (handshakerlaw07_TermLong.l1 k x1 x2 x7 x8 x39 (wrap64 (x40 + 1)))) else ((term_Eval.f k x8 (([(⟨false, 0⟩ : S58)] : List (S58))) ([] : List Int)).bind fun bt397 => (if x7 = 7 then (if (x8.length : Int) = 13 then (if bt397.1 = 0 then (if bt397.2 = 1 then ((term_Deep.f k x8).bind fun t399 => (if t399 = 0 then ((handshakerlaw07_awake.f k).bind fun t400 => (some t400)) else (some false))) else (some false)) else (some false)) else (some false)) else (if x2 = true then (if bt397.1 = (wrap64 (x7 * (wrap64 (x1)))) then (if bt397.2 = 0 then ((term_Deep.f k x8).bind fun t401 => (if t401 = x7 then ((handshakerlaw07_awake.f k).bind fun t402 => (some t402)) else (some false))) else (some false)) else (some false)) else (if bt397.1 = (wrap64 (x7 * (wrap64 (x1)))) then (if bt397.2 = 0 then ((term_Deep.f k x8).bind fun t403 => (if t403 = (mn x7 2) then ((handshakerlaw07_awake.f k).bind fun t404 => (some t404)) else (some false))) else (some false)) else (some false)))))
end
def handshakerlaw07_TermLong.f (k : Nat) (a0 : Int) (a1 : Int) (a2 : Bool) : Option (Bool) := handshakerlaw07_TermLong.l0 k a1 a2 (wrap64 (1 + (wrap64 (Int.tmod a0 7)))) ([] : List (S41)) (wrap64 (1 + (wrap64 (Int.tmod a0 7)))) 0
theorem handshakerlaw07_TermLong.mono_l : ∀ k, (∀ y0 y1 y2 y3 y4 y5, LeO (handshakerlaw07_TermLong.l0 k y0 y1 y2 y3 y4 y5) (handshakerlaw07_TermLong.l0 (k + 1) y0 y1 y2 y3 y4 y5)) ∧ (∀ y0 y1 y2 y3 y4 y5, LeO (handshakerlaw07_TermLong.l1 k y0 y1 y2 y3 y4 y5) (handshakerlaw07_TermLong.l1 (k + 1) y0 y1 y2 y3 y4 y5))
  | 0 => ⟨fun _ _ _ _ _ _ r h => by simp [handshakerlaw07_TermLong.l0] at h, fun _ _ _ _ _ _ r h => by simp [handshakerlaw07_TermLong.l1] at h⟩
  | k + 1 => by
    obtain ⟨ih0, ih1⟩ := handshakerlaw07_TermLong.mono_l k
    refine ⟨?_, ?_⟩
    · intro y0 y1 y2 y3 y4 y5
      unfold handshakerlaw07_TermLong.l0
      repeat' first
      | (with_reducible exact ih0 _ _ _ _ _ _)
      | (with_reducible exact ih1 _ _ _ _ _ _)
      | (with_reducible exact handshakerlaw07_awake.mono _)
      | (with_reducible exact term_Deep.mono _ _)
      | (with_reducible exact term_Eval.mono _ _ _ _)
      | (with_reducible exact LeO.refl _)
      | (with_reducible exact LeO.none _)
      | (with_reducible refine LeO.ite ?_ ?_)
      | (with_reducible refine LeO.bind ?_ (fun _ => ?_))
      | exact ih0 _ _ _ _ _ _
      | exact ih1 _ _ _ _ _ _
      | exact handshakerlaw07_awake.mono _
      | exact term_Deep.mono _ _
      | exact term_Eval.mono _ _ _ _
      | exact LeO.none _
      | refine LeO.ite ?_ ?_
      | refine LeO.bind ?_ (fun _ => ?_)
    · intro y0 y1 y2 y3 y4 y5
      unfold handshakerlaw07_TermLong.l1
      repeat' first
      | (with_reducible exact ih0 _ _ _ _ _ _)
      | (with_reducible exact ih1 _ _ _ _ _ _)
      | (with_reducible exact handshakerlaw07_awake.mono _)
      | (with_reducible exact term_Deep.mono _ _)
      | (with_reducible exact term_Eval.mono _ _ _ _)
      | (with_reducible exact LeO.refl _)
      | (with_reducible exact LeO.none _)
      | (with_reducible refine LeO.ite ?_ ?_)
      | (with_reducible refine LeO.bind ?_ (fun _ => ?_))
      | exact ih0 _ _ _ _ _ _
      | exact ih1 _ _ _ _ _ _
      | exact handshakerlaw07_awake.mono _
      | exact term_Deep.mono _ _
      | exact term_Eval.mono _ _ _ _
      | exact LeO.none _
      | refine LeO.ite ?_ ?_
      | refine LeO.bind ?_ (fun _ => ?_)
theorem handshakerlaw07_TermLong.mono : ∀ a0 a1 a2 k, LeO (handshakerlaw07_TermLong.f k a0 a1 a2) (handshakerlaw07_TermLong.f (k + 1) a0 a1 a2) := by
  intro a0 a1 a2 k
  obtain ⟨ih0, ih1⟩ := handshakerlaw07_TermLong.mono_l k
  unfold handshakerlaw07_TermLong.f
  repeat' first
      | (with_reducible exact ih0 _ _ _ _ _ _)
      | (with_reducible exact ih1 _ _ _ _ _ _)
      | (with_reducible exact handshakerlaw07_awake.mono _)
      | (with_reducible exact term_Deep.mono _ _)
      | (with_reducible exact term_Eval.mono _ _ _ _)
      | (with_reducible exact LeO.refl _)
      | (with_reducible exact LeO.none _)
      | (with_reducible refine LeO.ite ?_ ?_)
      | (with_reducible refine LeO.bind ?_ (fun _ => ?_))
      | exact ih0 _ _ _ _ _ _
      | exact ih1 _ _ _ _ _ _
      | exact handshakerlaw07_awake.mono _
      | exact term_Deep.mono _ _
      | exact term_Eval.mono _ _ _ _
      | exact LeO.none _
      | refine LeO.ite ?_ ?_
      | refine LeO.bind ?_ (fun _ => ?_)
set_option maxHeartbeats 8000000 in
set_option maxRecDepth 100000 in
theorem handshakerlaw07_TermLong.calls (k : Nat) (a0 : Int) (a1 : Int) (a2 : Bool) (r : Bool) (w : World) (HT : Aside0 (r = true)) (h : handshakerlaw07_TermLong.f k a0 a1 a2 = some r) :
    Calls Try.prog 12 #[.int .u8 a0, .int .i16 a1, .bool a2] w fun e w' => e = .returned (.bool r) ∧ Below w.heap.size w w' := by
  have hu41 := Try.underlying41
  have hu58 := Try.underlying58
  have HB := Aside0.mk (Below.refl w.heap.size w)
  have H : (handshakerlaw07_TermLong.l0 k a1 a2 (wrap64 (1 + (wrap64 (Int.tmod a0 7)))) ([] : List (S41)) (wrap64 (1 + (wrap64 (Int.tmod a0 7)))) 0) = some r := h
  clear h
  have H' := Aside0.mk H
  clear H
  go_enter Try.func12, Try.ntmps12
  go_wp2
  go_loopg [8, 18] k (fun kq v8 v18 w' => ∃ (x8_1 : List (S41)) (x18_1 : Int), v18 = .int .i64 x18_1 ∧ Aside0 (handshakerlaw07_TermLong.l0 kq a1 a2 (wrap64 (1 + (wrap64 (Int.tmod a0 7)))) x8_1 (wrap64 (1 + (wrap64 (Int.tmod a0 7)))) x18_1 = some r) ∧ Aside0 (kq ≤ k) ∧ Aside0 (Kd.R k41 41 w' w.heap.size (fun _ => True) v8 x8_1) ∧ Aside0 (Below w.heap.size w w'))
  case atStart => exact ⟨(([] : List (S41))), (0), (by first | rfl | (simp; done) | (simp [*]; done)), H', ⟨Nat.le_refl _⟩, ⟨by first | exact Kd.R_nil _ _ _ _ _ | exact Kd.N_nil _ _ _ _ _ | exact Kd.V_nil _ _ _ _ _ | exact Kd.Q_nil _ _ _ _ _ | exact Kd.S_nil _ _ _ _ _⟩, ⟨by repeat (first | (with_reducible first | exact HB.out | apply below_alloc | apply pw_below_drewN | apply below_drew1) | exact HB.out)⟩⟩
  case round =>
    clear H'
    try clear c1
    try clear p2
    obtain ⟨x8_1, x18_1, rfl, HA, HK1, HO_8, HB⟩ := hrel
    cases gk with
    | zero => exact absurd HA.out (by simp [handshakerlaw07_TermLong.l0])
    | succ k1 =>
      have H := HA.out
      clear HA
      simp only [handshakerlaw07_TermLong.l0] at H
      by_cases c4 : x18_1 < (wrap64 (1 + (wrap64 (Int.tmod a0 7))))
      · rw [if_pos c4] at H
        have c4b0 : decide (x18_1 < (wrap64 (1 + (wrap64 (Int.tmod a0 7))))) = true := decide_eq_true c4
        clear c4
        by_cases c5 : x8_1.length < 8796093022208
        · rw [if_pos c5] at H
          have LMc5 := Aside0.mk c5
          clear c5
          obtain ⟨y385, hy385⟩ : ∃ y_ : List (S41), y_ = (x8_1 ++ [(⟨1, wrap64 (a1)⟩ : S41)]) := ⟨_, rfl⟩
          replace H : (if x18_1 > 0 then (if a2 = true then (handshakerlaw07_TermLong.l0 k1 a1 a2 (wrap64 (1 + (wrap64 (Int.tmod a0 7)))) y385 (wrap64 (1 + (wrap64 (Int.tmod a0 7)))) (wrap64 (x18_1 + 1))) else (if y385.length < 8796093022208 then (handshakerlaw07_TermLong.l0 k1 a1 a2 (wrap64 (1 + (wrap64 (Int.tmod a0 7)))) (y385 ++ [(⟨4, 0⟩ : S41)]) (wrap64 (1 + (wrap64 (Int.tmod a0 7)))) (wrap64 (x18_1 + 1))) else (none))) else (handshakerlaw07_TermLong.l0 k1 a1 a2 (wrap64 (1 + (wrap64 (Int.tmod a0 7)))) y385 (wrap64 (1 + (wrap64 (Int.tmod a0 7)))) (wrap64 (x18_1 + 1)))) = some r := by first | (rw [hy385]; with_reducible exact H) | (have H2_ := (Option.bind_some _ _).symm.trans H; rw [hy385]; with_reducible exact H2_) | (have H2_ := (Option.bind_some _ _).symm.trans H; with_reducible exact H2_) | with_reducible exact H | (rw [hy385]; exact H) | exact H
          have Ny385 := Aside0.mk hy385
          clear hy385
          by_cases c6 : x18_1 > 0
          · rw [if_pos c6] at H
            have c6b0 : decide (0 < x18_1) = true := decide_eq_true c6
            clear c6
            by_cases c7 : a2 = true
            · subst c7
              have H1 : (handshakerlaw07_TermLong.l0 k1 a1 true (wrap64 (1 + (wrap64 (Int.tmod a0 7)))) y385 (wrap64 (1 + (wrap64 (Int.tmod a0 7)))) (wrap64 (x18_1 + 1))) = some r := by rw [if_pos rfl] at H; exact H
              clear H
              have H := H1
              clear H1
              have H' := Aside0.mk H
              clear H
              go_wp2_with (first | ((with_reducible refine gate_builtin (b := .append) (xs := #[.tmp 21, .tmp 25]) rfl ?_); at_builtin; refine Kd.R_append k41 (w0 := w) w.heap.size rfl (.tmp 21) (.tmp 25) 35 41 (.agg #[(.int .i64 0), (.int .i64 0)]) 16 rfl Try.underlying35 info41 rfl (by decide) (by omega) u8 x8_1 (⟨1, wrap64 (a1)⟩ : S41) [.int .i64 1, .int .i64 (wrap64 (a1))] (fun _ => True) (fun _ => False) rfl rfl ?aP (fun _ hk => hk.elim) ?aF ?aO ?aB ?aS ?aL ?_; (case aP => exact k41_mkM _ _ _ (⟨1, wrap64 (a1)⟩ : S41)); (case aB => exact (by repeat (first | (with_reducible first | exact HB.out | apply below_alloc | apply pw_below_drewN | apply below_drew1) | exact HB.out))); (case aF => exact (fun _ _ => trivial)); (case aO => exact (by (with_reducible repeat (first | apply Kd.R_alloc | apply Kd.R_drewN | apply Kd.R_drew)); exact HO_8.out)); (case aS => exact (below_size (by repeat (first | (with_reducible first | exact HB.out | apply below_alloc | apply pw_below_drewN | apply below_drew1) | exact HB.out)))); (case aL => have := LMc5.out; omega); intro v386 w8 ho hb hg hat; rw [← Ny385.out] at ho; have n0_ := Aside0.mk (hb); have n1_ := Aside0.mk (ho); clear HB; clear HO_8; have HB := n0_; have HO387 := n1_; clear n0_ n1_; clear ho hb hg hat))
              go_roundg k1
              case measure => have := HK1.out; omega
              case rel => exact ⟨(y385), (wrap64 (x18_1 + 1)), (by first | rfl | (simp; done) | (simp [*]; done)), H', ⟨by have := HK1.out; omega⟩, ⟨by (with_reducible repeat (first | apply Kd.R_alloc | apply Kd.R_drewN | apply Kd.R_drew)); exact HO387.out⟩, ⟨by repeat (first | (with_reducible first | exact HB.out | apply below_alloc | apply pw_below_drewN | apply below_drew1) | exact HB.out)⟩⟩
            · replace c7 := Bool.eq_false_iff.mpr c7
              subst c7
              have H1 : (if y385.length < 8796093022208 then (handshakerlaw07_TermLong.l0 k1 a1 false (wrap64 (1 + (wrap64 (Int.tmod a0 7)))) (y385 ++ [(⟨4, 0⟩ : S41)]) (wrap64 (1 + (wrap64 (Int.tmod a0 7)))) (wrap64 (x18_1 + 1))) else (none)) = some r := by rw [if_neg (show ¬ (false = true) by decide)] at H; exact H
              clear H
              have H := H1
              clear H1
              by_cases c9 : y385.length < 8796093022208
              · rw [if_pos c9] at H
                have LMc9 := Aside0.mk c9
                clear c9
                obtain ⟨y388, hy388⟩ : ∃ y_ : List (S41), y_ = (y385 ++ [(⟨4, 0⟩ : S41)]) := ⟨_, rfl⟩
                replace H : (handshakerlaw07_TermLong.l0 k1 a1 false (wrap64 (1 + (wrap64 (Int.tmod a0 7)))) y388 (wrap64 (1 + (wrap64 (Int.tmod a0 7)))) (wrap64 (x18_1 + 1))) = some r := by first | (rw [hy388]; with_reducible exact H) | (have H2_ := (Option.bind_some _ _).symm.trans H; rw [hy388]; with_reducible exact H2_) | (have H2_ := (Option.bind_some _ _).symm.trans H; with_reducible exact H2_) | with_reducible exact H | (rw [hy388]; exact H) | exact H
                have Ny388 := Aside0.mk hy388
                clear hy388
                have H' := Aside0.mk H
                clear H
                go_wp2_with (first | ((with_reducible refine gate_builtin (b := .append) (xs := #[.tmp 21, .tmp 25]) rfl ?_); at_builtin; refine Kd.R_append k41 (w0 := w) w.heap.size rfl (.tmp 21) (.tmp 25) 35 41 (.agg #[(.int .i64 0), (.int .i64 0)]) 16 rfl Try.underlying35 info41 rfl (by decide) (by omega) u8 x8_1 (⟨1, wrap64 (a1)⟩ : S41) [.int .i64 1, .int .i64 (wrap64 (a1))] (fun _ => True) (fun _ => False) rfl rfl ?aP (fun _ hk => hk.elim) ?aF ?aO ?aB ?aS ?aL ?_; (case aP => exact k41_mkM _ _ _ (⟨1, wrap64 (a1)⟩ : S41)); (case aB => exact (by repeat (first | (with_reducible first | exact HB.out | apply below_alloc | apply pw_below_drewN | apply below_drew1) | exact HB.out))); (case aF => exact (fun _ _ => trivial)); (case aO => exact (by (with_reducible repeat (first | apply Kd.R_alloc | apply Kd.R_drewN | apply Kd.R_drew)); exact HO_8.out)); (case aS => exact (below_size (by repeat (first | (with_reducible first | exact HB.out | apply below_alloc | apply pw_below_drewN | apply below_drew1) | exact HB.out)))); (case aL => have := LMc5.out; omega); intro v386 w10 ho hb hg hat; rw [← Ny385.out] at ho; have n0_ := Aside0.mk (hb); have n1_ := Aside0.mk (ho); clear HB; clear HO_8; have HB := n0_; have HO387 := n1_; clear n0_ n1_; clear ho hb hg hat) | ((with_reducible refine gate_builtin (b := .append) (xs := #[.tmp 33, .tmp 35]) rfl ?_); at_builtin; refine Kd.R_append k41 (w0 := w) w.heap.size rfl (.tmp 33) (.tmp 35) 35 41 (.agg #[(.int .i64 0), (.int .i64 0)]) 16 rfl Try.underlying35 info41 rfl (by decide) (by omega) v386 y385 (⟨4, 0⟩ : S41) [.int .i64 4, .int .i64 0] (fun _ => True) (fun _ => False) rfl rfl ?aP (fun _ hk => hk.elim) ?aF ?aO ?aB ?aS ?aL ?_; (case aP => exact k41_mkM _ _ _ (⟨4, 0⟩ : S41)); (case aB => exact (by repeat (first | (with_reducible first | exact HB.out | apply below_alloc | apply pw_below_drewN | apply below_drew1) | exact HB.out))); (case aF => exact (fun _ _ => trivial)); (case aO => exact (by (with_reducible repeat (first | apply Kd.R_alloc | apply Kd.R_drewN | apply Kd.R_drew)); exact HO387.out)); (case aS => exact (below_size (by repeat (first | (with_reducible first | exact HB.out | apply below_alloc | apply pw_below_drewN | apply below_drew1) | exact HB.out)))); (case aL => have := LMc9.out; omega); intro v389 w11 ho hb hg hat; rw [← Ny388.out] at ho; have n0_ := Aside0.mk (hb); have n1_ := Aside0.mk (ho); clear HB; clear HO387; have HB := n0_; have HO390 := n1_; clear n0_ n1_; clear ho hb hg hat))
                go_roundg k1
                case measure => have := HK1.out; omega
                case rel => exact ⟨(y388), (wrap64 (x18_1 + 1)), (by first | rfl | (simp; done) | (simp [*]; done)), H', ⟨by have := HK1.out; omega⟩, ⟨by (with_reducible repeat (first | apply Kd.R_alloc | apply Kd.R_drewN | apply Kd.R_drew)); exact HO390.out⟩, ⟨by repeat (first | (with_reducible first | exact HB.out | apply below_alloc | apply pw_below_drewN | apply below_drew1) | exact HB.out)⟩⟩
              · rw [if_neg c9] at H
                exact absurd H (by simp)
          · rw [if_neg c6] at H
            have c6b0 : decide (0 < x18_1) = false := decide_eq_false c6
            clear c6
            have H' := Aside0.mk H
            clear H
            go_wp2_with (first | ((with_reducible refine gate_builtin (b := .append) (xs := #[.tmp 21, .tmp 25]) rfl ?_); at_builtin; refine Kd.R_append k41 (w0 := w) w.heap.size rfl (.tmp 21) (.tmp 25) 35 41 (.agg #[(.int .i64 0), (.int .i64 0)]) 16 rfl Try.underlying35 info41 rfl (by decide) (by omega) u8 x8_1 (⟨1, wrap64 (a1)⟩ : S41) [.int .i64 1, .int .i64 (wrap64 (a1))] (fun _ => True) (fun _ => False) rfl rfl ?aP (fun _ hk => hk.elim) ?aF ?aO ?aB ?aS ?aL ?_; (case aP => exact k41_mkM _ _ _ (⟨1, wrap64 (a1)⟩ : S41)); (case aB => exact (by repeat (first | (with_reducible first | exact HB.out | apply below_alloc | apply pw_below_drewN | apply below_drew1) | exact HB.out))); (case aF => exact (fun _ _ => trivial)); (case aO => exact (by (with_reducible repeat (first | apply Kd.R_alloc | apply Kd.R_drewN | apply Kd.R_drew)); exact HO_8.out)); (case aS => exact (below_size (by repeat (first | (with_reducible first | exact HB.out | apply below_alloc | apply pw_below_drewN | apply below_drew1) | exact HB.out)))); (case aL => have := LMc5.out; omega); intro v386 w12 ho hb hg hat; rw [← Ny385.out] at ho; have n0_ := Aside0.mk (hb); have n1_ := Aside0.mk (ho); clear HB; clear HO_8; have HB := n0_; have HO387 := n1_; clear n0_ n1_; clear ho hb hg hat))
            go_roundg k1
            case measure => have := HK1.out; omega
            case rel => exact ⟨(y385), (wrap64 (x18_1 + 1)), (by first | rfl | (simp; done) | (simp [*]; done)), H', ⟨by have := HK1.out; omega⟩, ⟨by (with_reducible repeat (first | apply Kd.R_alloc | apply Kd.R_drewN | apply Kd.R_drew)); exact HO387.out⟩, ⟨by repeat (first | (with_reducible first | exact HB.out | apply below_alloc | apply pw_below_drewN | apply below_drew1) | exact HB.out)⟩⟩
        · rw [if_neg c5] at H
          exact absurd H (by simp)
      · rw [if_neg c4] at H
        have c4b0 : decide (x18_1 < (wrap64 (1 + (wrap64 (Int.tmod a0 7))))) = false := decide_eq_false c4
        clear c4
        have H' := Aside0.mk H
        clear H
        go_wp2
        go_loopg [8, 40] k1 (fun kq v8 v40 w' => ∃ (x8_2 : List (S41)) (x40_2 : Int), v40 = .int .i64 x40_2 ∧ Aside0 (handshakerlaw07_TermLong.l1 kq a1 a2 (wrap64 (1 + (wrap64 (Int.tmod a0 7)))) x8_2 (wrap64 ((wrap64 (1 + (wrap64 (Int.tmod a0 7)))) - 1)) x40_2 = some r) ∧ Aside0 (kq ≤ k1) ∧ Aside0 (Kd.R k41 41 w' w.heap.size (fun _ => True) v8 x8_2) ∧ Aside0 (Below w.heap.size w w'))
        case atStart => exact ⟨(x8_1), (0), (by first | rfl | (simp; done) | (simp [*]; done)), H', ⟨Nat.le_refl _⟩, ⟨by (with_reducible repeat (first | apply Kd.R_alloc | apply Kd.R_drewN | apply Kd.R_drew)); exact HO_8.out⟩, ⟨by repeat (first | (with_reducible first | exact HB.out | apply below_alloc | apply pw_below_drewN | apply below_drew1) | exact HB.out)⟩⟩
        case round =>
          clear H'
          try clear c1
          try clear p2
          try clear c4
          try clear c4b0
          try clear c5
          try clear c6
          try clear c6b0
          try clear p6
          try clear c7
          try clear c9
          try clear c12
          try clear p2
          obtain ⟨x8_2, x40_2, rfl, HA, HK2, HO_8, HB⟩ := hrel
          cases gk with
          | zero => exact absurd HA.out (by simp [handshakerlaw07_TermLong.l1])
          | succ k2 =>
            have H := HA.out
            clear HA
            simp only [handshakerlaw07_TermLong.l1] at H
            by_cases c13 : x40_2 < (wrap64 ((wrap64 (1 + (wrap64 (Int.tmod a0 7)))) - 1))
            · rw [if_pos c13] at H
              have c13b0 : decide (x40_2 < (wrap64 ((wrap64 (1 + (wrap64 (Int.tmod a0 7)))) - 1))) = true := decide_eq_true c13
              clear c13
              by_cases c14 : a2 = true
              · subst c14
                have H1 : (if x8_2.length < 8796093022208 then (handshakerlaw07_TermLong.l1 k2 a1 true (wrap64 (1 + (wrap64 (Int.tmod a0 7)))) (x8_2 ++ [(⟨4, 0⟩ : S41)]) (wrap64 ((wrap64 (1 + (wrap64 (Int.tmod a0 7)))) - 1)) (wrap64 (x40_2 + 1))) else (none)) = some r := by rw [if_pos rfl] at H; exact H
                clear H
                have H := H1
                clear H1
                by_cases c15 : x8_2.length < 8796093022208
                · rw [if_pos c15] at H
                  have LMc15 := Aside0.mk c15
                  clear c15
                  obtain ⟨y391, hy391⟩ : ∃ y_ : List (S41), y_ = (x8_2 ++ [(⟨4, 0⟩ : S41)]) := ⟨_, rfl⟩
                  replace H : (handshakerlaw07_TermLong.l1 k2 a1 true (wrap64 (1 + (wrap64 (Int.tmod a0 7)))) y391 (wrap64 ((wrap64 (1 + (wrap64 (Int.tmod a0 7)))) - 1)) (wrap64 (x40_2 + 1))) = some r := by first | (rw [hy391]; with_reducible exact H) | (have H2_ := (Option.bind_some _ _).symm.trans H; rw [hy391]; with_reducible exact H2_) | (have H2_ := (Option.bind_some _ _).symm.trans H; with_reducible exact H2_) | with_reducible exact H | (rw [hy391]; exact H) | exact H
                  have Ny391 := Aside0.mk hy391
                  clear hy391
                  have H' := Aside0.mk H
                  clear H
                  go_wp2_with (first | ((with_reducible refine gate_builtin (b := .append) (xs := #[.tmp 43, .tmp 45]) rfl ?_); at_builtin; refine Kd.R_append k41 (w0 := w) w.heap.size rfl (.tmp 43) (.tmp 45) 35 41 (.agg #[(.int .i64 0), (.int .i64 0)]) 16 rfl Try.underlying35 info41 rfl (by decide) (by omega) u8 x8_2 (⟨4, 0⟩ : S41) [.int .i64 4, .int .i64 0] (fun _ => True) (fun _ => False) rfl rfl ?aP (fun _ hk => hk.elim) ?aF ?aO ?aB ?aS ?aL ?_; (case aP => exact k41_mkM _ _ _ (⟨4, 0⟩ : S41)); (case aB => exact (by repeat (first | (with_reducible first | exact HB.out | apply below_alloc | apply pw_below_drewN | apply below_drew1) | exact HB.out))); (case aF => exact (fun _ _ => trivial)); (case aO => exact (by (with_reducible repeat (first | apply Kd.R_alloc | apply Kd.R_drewN | apply Kd.R_drew)); exact HO_8.out)); (case aS => exact (below_size (by repeat (first | (with_reducible first | exact HB.out | apply below_alloc | apply pw_below_drewN | apply below_drew1) | exact HB.out)))); (case aL => have := LMc15.out; omega); intro v392 w16 ho hb hg hat; rw [← Ny391.out] at ho; have n0_ := Aside0.mk (hb); have n1_ := Aside0.mk (ho); clear HB; clear HO_8; have HB := n0_; have HO393 := n1_; clear n0_ n1_; clear ho hb hg hat))
                  go_roundg k2
                  case measure => have := HK1.out; have := HK2.out; omega
                  case rel => exact ⟨(y391), (wrap64 (x40_2 + 1)), (by first | rfl | (simp; done) | (simp [*]; done)), H', ⟨by have := HK1.out; have := HK2.out; omega⟩, ⟨by (with_reducible repeat (first | apply Kd.R_alloc | apply Kd.R_drewN | apply Kd.R_drew)); exact HO393.out⟩, ⟨by repeat (first | (with_reducible first | exact HB.out | apply below_alloc | apply pw_below_drewN | apply below_drew1) | exact HB.out)⟩⟩
                · rw [if_neg c15] at H
                  exact absurd H (by simp)
              · replace c14 := Bool.eq_false_iff.mpr c14
                subst c14
                have H1 : (handshakerlaw07_TermLong.l1 k2 a1 false (wrap64 (1 + (wrap64 (Int.tmod a0 7)))) x8_2 (wrap64 ((wrap64 (1 + (wrap64 (Int.tmod a0 7)))) - 1)) (wrap64 (x40_2 + 1))) = some r := by rw [if_neg (show ¬ (false = true) by decide)] at H; exact H
                clear H
                have H := H1
                clear H1
                have H' := Aside0.mk H
                clear H
                go_wp2
                go_roundg k2
                case measure => have := HK1.out; have := HK2.out; omega
                case rel => exact ⟨(x8_2), (wrap64 (x40_2 + 1)), (by first | rfl | (simp; done) | (simp [*]; done)), H', ⟨by have := HK1.out; have := HK2.out; omega⟩, ⟨by (with_reducible repeat (first | apply Kd.R_alloc | apply Kd.R_drewN | apply Kd.R_drew)); exact HO_8.out⟩, ⟨by repeat (first | (with_reducible first | exact HB.out | apply below_alloc | apply pw_below_drewN | apply below_drew1) | exact HB.out)⟩⟩
            · rw [if_neg c13] at H
              have c13b0 : decide (x40_2 < (wrap64 ((wrap64 (1 + (wrap64 (Int.tmod a0 7)))) - 1))) = false := decide_eq_false c13
              clear c13
              obtain ⟨y394, hy394⟩ : ∃ y_ : List (S58), y_ = (([(⟨false, 0⟩ : S58)] : List (S58))) := ⟨_, rfl⟩
              replace H : ((term_Eval.f k2 x8_2 y394 ([] : List Int)).bind fun bt397 => (if (wrap64 (1 + (wrap64 (Int.tmod a0 7)))) = 7 then (if (x8_2.length : Int) = 13 then (if bt397.1 = 0 then (if bt397.2 = 1 then ((term_Deep.f k2 x8_2).bind fun t399 => (if t399 = 0 then ((handshakerlaw07_awake.f k2).bind fun t400 => (some t400)) else (some false))) else (some false)) else (some false)) else (some false)) else (if a2 = true then (if bt397.1 = (wrap64 ((wrap64 (1 + (wrap64 (Int.tmod a0 7)))) * (wrap64 (a1)))) then (if bt397.2 = 0 then ((term_Deep.f k2 x8_2).bind fun t401 => (if t401 = (wrap64 (1 + (wrap64 (Int.tmod a0 7)))) then ((handshakerlaw07_awake.f k2).bind fun t402 => (some t402)) else (some false))) else (some false)) else (some false)) else (if bt397.1 = (wrap64 ((wrap64 (1 + (wrap64 (Int.tmod a0 7)))) * (wrap64 (a1)))) then (if bt397.2 = 0 then ((term_Deep.f k2 x8_2).bind fun t403 => (if t403 = (mn (wrap64 (1 + (wrap64 (Int.tmod a0 7)))) 2) then ((handshakerlaw07_awake.f k2).bind fun t404 => (some t404)) else (some false))) else (some false)) else (some false))))) = some r := by first | (rw [hy394]; with_reducible exact H) | (have H2_ := (Option.bind_some _ _).symm.trans H; rw [hy394]; with_reducible exact H2_) | (have H2_ := (Option.bind_some _ _).symm.trans H; with_reducible exact H2_) | with_reducible exact H | (rw [hy394]; exact H) | exact H
              have Ny394 := Aside0.mk hy394
              clear hy394
              replace H := Option.bind_eq_some_iff.mp H
              obtain ⟨⟨t397, t398⟩, A170, H⟩ := H
              replace H : (if (wrap64 (1 + (wrap64 (Int.tmod a0 7)))) = 7 then (if (x8_2.length : Int) = 13 then (if t397 = 0 then (if t398 = 1 then ((term_Deep.f k2 x8_2).bind fun t399 => (if t399 = 0 then ((handshakerlaw07_awake.f k2).bind fun t400 => (some t400)) else (some false))) else (some false)) else (some false)) else (some false)) else (if a2 = true then (if t397 = (wrap64 ((wrap64 (1 + (wrap64 (Int.tmod a0 7)))) * (wrap64 (a1)))) then (if t398 = 0 then ((term_Deep.f k2 x8_2).bind fun t401 => (if t401 = (wrap64 (1 + (wrap64 (Int.tmod a0 7)))) then ((handshakerlaw07_awake.f k2).bind fun t402 => (some t402)) else (some false))) else (some false)) else (some false)) else (if t397 = (wrap64 ((wrap64 (1 + (wrap64 (Int.tmod a0 7)))) * (wrap64 (a1)))) then (if t398 = 0 then ((term_Deep.f k2 x8_2).bind fun t403 => (if t403 = (mn (wrap64 (1 + (wrap64 (Int.tmod a0 7)))) 2) then ((handshakerlaw07_awake.f k2).bind fun t404 => (some t404)) else (some false))) else (some false)) else (some false)))) = some r := H
              have A17 := Aside0.mk A170
              clear A170
              by_cases c18 : (wrap64 (1 + (wrap64 (Int.tmod a0 7)))) = 7
              · rw [if_pos c18] at H
                have c18b0 : ((wrap64 (1 + (wrap64 (Int.tmod a0 7)))) == 7) = true := beq_iff_eq.mpr c18
                have c18b1 : ((wrap64 (1 + (wrap64 (Int.tmod a0 7)))) != 7) = false := bne_eq_false_iff_eq.mpr c18
                clear c18
                by_cases c19 : (x8_2.length : Int) = 13
                · rw [if_pos c19] at H
                  have c19b0 : ((x8_2.length : Int) == 13) = true := beq_iff_eq.mpr c19
                  have c19b1 : ((x8_2.length : Int) != 13) = false := bne_eq_false_iff_eq.mpr c19
                  clear c19
                  by_cases c20 : t397 = 0
                  · rw [if_pos c20] at H
                    have c20b0 : (t397 == 0) = true := beq_iff_eq.mpr c20
                    have c20b1 : (t397 != 0) = false := bne_eq_false_iff_eq.mpr c20
                    clear c20
                    by_cases c21 : t398 = 1
                    · rw [if_pos c21] at H
                      have c21b0 : (t398 == 1) = true := beq_iff_eq.mpr c21
                      have c21b1 : (t398 != 1) = false := bne_eq_false_iff_eq.mpr c21
                      clear c21
                      replace H := Option.bind_eq_some_iff.mp H
                      obtain ⟨t399, A220, H⟩ := H
                      replace H : (if t399 = 0 then ((handshakerlaw07_awake.f k2).bind fun t400 => (some t400)) else (some false)) = some r := H
                      have A22 := Aside0.mk A220
                      clear A220
                      by_cases c23 : t399 = 0
                      · rw [if_pos c23] at H
                        have c23b0 : (t399 == 0) = true := beq_iff_eq.mpr c23
                        have c23b1 : (t399 != 0) = false := bne_eq_false_iff_eq.mpr c23
                        clear c23
                        replace H := Option.bind_eq_some_iff.mp H
                        obtain ⟨t400, A240, H⟩ := H
                        replace H : (some t400) = some r := H
                        have A24 := Aside0.mk A240
                        clear A240
                        obtain rfl := Option.some.inj H
                        go_wp2_with (first | ((with_reducible refine gate_dst (N := 51) rfl ?_); refine Kd.R_lit k58 _ 58 ?hg (N := 51) ?hd (xs := ([(⟨false, 0⟩ : S58)] : List (S58))) (inner := [.bool false, .int .i64 0]) (ok := fun _ => True) (okp := fun _ => True) ?hr ?hp (fun _ hk => hk) trivial (Below.refl _ _) (Nat.le_refl _) (by simp) ?_; (case hd => rfl); (case hg => rfl); (case hr => first | (go_simp; done) | (go_simp; rfl)); (case hp => exact (Reps.c2 (show Kd.M k58 _ _ _ (⟨false, 0⟩ : S58) [.bool false, .int .i64 0] from (k58_mkM _ _ _ (⟨false, 0⟩ : S58) )) (Reps.none _ _))); intro v395 w25 ho26 hb hg_ hnew_; clear hg_ hnew_; (first | rw [← Ny394.out] at ho26 | (simp only [Int.reduceToNat] at ho26; rw [← Ny394.out] at ho26)); have n0_ := Aside0.mk (Kd.R_below (by (with_reducible repeat (first | apply Kd.R_alloc | apply Kd.R_drewN | apply Kd.R_drew)); exact HO_8.out) hb); have n1_ := Aside0.mk (Kd.R_lower ho26 (below_size (by repeat (first | (with_reducible first | exact HB.out | apply below_alloc | apply pw_below_drewN | apply below_drew1) | exact HB.out)))); have n2_ := Aside0.mk (below_step (by repeat (first | (with_reducible first | exact HB.out | apply below_alloc | apply pw_below_drewN | apply below_drew1) | exact HB.out)) hb); clear HO_8; clear HB; have HO_8 := n0_; have HO396 := n1_; have HB := n2_; clear n0_ n1_ n2_; clear hb ho26; obtain ⟨Ao27, co27, eo27⟩ := Kd.R_slice HO_8.out; subst eo27; obtain ⟨Ao28, co28, eo28⟩ := Kd.R_slice HO396.out; subst eo28) | ((with_reducible refine gate_callee (f := 28) rfl ?_); refine goesL_ (some 52) rfl rfl Try.func28 (by kernel_rfl) rfl #[.slice Ao27 x8_2.length co27, .slice Ao28 y394.length co28, .slice none 0 0] rfl (by (try simp only [List.map_toArray, List.map_cons, List.map_nil]); first | done | rfl | (simp only [List.length_drop, List.length_take]; rfl)) ?_; (refine (term_Eval.calls k2 _ _ x8_2 _ _ y394 _ _ ([] : List Int) t397 t398 _ ?side1 ?side2 ?side3 ?side4 ?side5 ?side6 A17.out).mono ?_); (case side1 => repeat (first | exact (Kd.R_reads' HO_8.out).2.2 | (with_reducible refine Kd.C_alloc ?_ _) | (with_reducible refine Kd.C_drewN ?_ _) | (with_reducible refine Kd.C_drew ?_))); (case side2 => exact (Kd.R_reads' HO_8.out).2.1); (case side3 => repeat (first | exact (Kd.R_reads' HO396.out).2.2 | (with_reducible refine Kd.C_alloc ?_ _) | (with_reducible refine Kd.C_drewN ?_ _) | (with_reducible refine Kd.C_drew ?_))); (case side4 => exact (Kd.R_reads' HO396.out).2.1); (case side5 => exact Kd.C_nil _ _); (case side6 => exact Nat.le_refl _); rintro e w29 ⟨rfl, hb⟩; refine ⟨_, rfl, ?_⟩; have n0_ := Aside0.mk (Kd.R_below (by (with_reducible repeat (first | apply Kd.R_alloc | apply Kd.R_drewN | apply Kd.R_drew)); exact HO_8.out) hb); have n1_ := Aside0.mk (Kd.R_below (by (with_reducible repeat (first | apply Kd.R_alloc | apply Kd.R_drewN | apply Kd.R_drew)); exact HO396.out) hb); have n2_ := Aside0.mk (below_step (by repeat (first | (with_reducible first | exact HB.out | apply below_alloc | apply pw_below_drewN | apply below_drew1) | exact HB.out)) hb); clear HO_8; clear HO396; clear HB; have HO_8 := n0_; have HO396 := n1_; have HB := n2_; clear n0_ n1_ n2_; (try clear hb); (try clear hb2); (try clear hk); (try clear hi)) | (go_at_call 33; (with_reducible refine (term_Deep.calls k2 _ _ x8_2 t399 _ ?side1 ?side2 A22.out).mono ?_); (case side1 => repeat (first | exact (Kd.R_reads' HO_8.out).2.2 | (with_reducible refine Kd.C_alloc ?_ _) | (with_reducible refine Kd.C_drewN ?_ _) | (with_reducible refine Kd.C_drew ?_))); (case side2 => exact (Kd.R_reads' HO_8.out).2.1); rintro e w30 ⟨rfl, hb⟩; have n0_ := Aside0.mk (Kd.R_below (by (with_reducible repeat (first | apply Kd.R_alloc | apply Kd.R_drewN | apply Kd.R_drew)); exact HO_8.out) hb); have n1_ := Aside0.mk (Kd.R_below (by (with_reducible repeat (first | apply Kd.R_alloc | apply Kd.R_drewN | apply Kd.R_drew)); exact HO396.out) hb); have n2_ := Aside0.mk (below_step (by repeat (first | (with_reducible first | exact HB.out | apply below_alloc | apply pw_below_drewN | apply below_drew1) | exact HB.out)) hb); clear HO_8; clear HO396; clear HB; have HO_8 := n0_; have HO396 := n1_; have HB := n2_; clear n0_ n1_ n2_; (try clear hb); (try clear hb2); (try clear hk); (try clear hi)) | (go_at_call 27; (with_reducible refine (handshakerlaw07_awake.calls k2  t400 _ A24.out).mono ?_); rintro e w31 ⟨rfl, hb⟩; have n0_ := Aside0.mk (Kd.R_below (by (with_reducible repeat (first | apply Kd.R_alloc | apply Kd.R_drewN | apply Kd.R_drew)); exact HO_8.out) hb); have n1_ := Aside0.mk (Kd.R_below (by (with_reducible repeat (first | apply Kd.R_alloc | apply Kd.R_drewN | apply Kd.R_drew)); exact HO396.out) hb); have n2_ := Aside0.mk (below_step (by repeat (first | (with_reducible first | exact HB.out | apply below_alloc | apply pw_below_drewN | apply below_drew1) | exact HB.out)) hb); clear HO_8; clear HO396; clear HB; have HO_8 := n0_; have HO396 := n1_; have HB := n2_; clear n0_ n1_ n2_; (try clear hb); (try clear hb2); (try clear hk); (try clear hi)))
                        go_ret
                        exact ⟨by first | rfl | (simp [errW_none, errW_some] <;> rfl) | (simp [*, errW_none, errW_some] <;> rfl), by repeat (first | (with_reducible first | exact HB.out | apply below_alloc | apply pw_below_drewN | apply below_drew1) | exact HB.out)⟩
                      · rw [if_neg c23] at H
                        have c23b0 : (t399 == 0) = false := beq_eq_false_iff_ne.mpr c23
                        have c23b1 : (t399 != 0) = true := bne_iff_ne.mpr c23
                        exact absurd (Option.some.inj H) (by rw [HT.out]; decide)
                    · rw [if_neg c21] at H
                      have c21b0 : (t398 == 1) = false := beq_eq_false_iff_ne.mpr c21
                      have c21b1 : (t398 != 1) = true := bne_iff_ne.mpr c21
                      exact absurd (Option.some.inj H) (by rw [HT.out]; decide)
                  · rw [if_neg c20] at H
                    have c20b0 : (t397 == 0) = false := beq_eq_false_iff_ne.mpr c20
                    have c20b1 : (t397 != 0) = true := bne_iff_ne.mpr c20
                    exact absurd (Option.some.inj H) (by rw [HT.out]; decide)
                · rw [if_neg c19] at H
                  have c19b0 : ((x8_2.length : Int) == 13) = false := beq_eq_false_iff_ne.mpr c19
                  have c19b1 : ((x8_2.length : Int) != 13) = true := bne_iff_ne.mpr c19
                  exact absurd (Option.some.inj H) (by rw [HT.out]; decide)
              · rw [if_neg c18] at H
                have c18b0 : ((wrap64 (1 + (wrap64 (Int.tmod a0 7)))) == 7) = false := beq_eq_false_iff_ne.mpr c18
                have c18b1 : ((wrap64 (1 + (wrap64 (Int.tmod a0 7)))) != 7) = true := bne_iff_ne.mpr c18
                obtain ⟨ji32, hji32⟩ : ∃ j_ : Int, (mn (wrap64 (1 + (wrap64 (Int.tmod a0 7)))) 2) = j_ := ⟨_, rfl⟩
                replace H : (if a2 = true then (if t397 = (wrap64 ((wrap64 (1 + (wrap64 (Int.tmod a0 7)))) * (wrap64 (a1)))) then (if t398 = 0 then ((term_Deep.f k2 x8_2).bind fun t401 => (if t401 = (wrap64 (1 + (wrap64 (Int.tmod a0 7)))) then ((handshakerlaw07_awake.f k2).bind fun t402 => (some t402)) else (some false))) else (some false)) else (some false)) else (if t397 = (wrap64 ((wrap64 (1 + (wrap64 (Int.tmod a0 7)))) * (wrap64 (a1)))) then (if t398 = 0 then ((term_Deep.f k2 x8_2).bind fun t403 => (if t403 = (ji32) then ((handshakerlaw07_awake.f k2).bind fun t404 => (some t404)) else (some false))) else (some false)) else (some false))) = some r := by first | (rw [hji32] at H; exact H) | (simp only [hji32] at H ⊢; exact H)
                (try rw [hji32] at A17)
                have hji32_ : (if 2 < (wrap64 (1 + (wrap64 (Int.tmod a0 7)))) then 2 else (wrap64 (1 + (wrap64 (Int.tmod a0 7))))) = ji32 := hji32
                by_cases c33 : a2 = true
                · subst c33
                  have H1 : (if t397 = (wrap64 ((wrap64 (1 + (wrap64 (Int.tmod a0 7)))) * (wrap64 (a1)))) then (if t398 = 0 then ((term_Deep.f k2 x8_2).bind fun t401 => (if t401 = (wrap64 (1 + (wrap64 (Int.tmod a0 7)))) then ((handshakerlaw07_awake.f k2).bind fun t402 => (some t402)) else (some false))) else (some false)) else (some false)) = some r := by rw [if_pos rfl] at H; exact H
                  clear H
                  have H := H1
                  clear H1
                  by_cases c34 : t397 = (wrap64 ((wrap64 (1 + (wrap64 (Int.tmod a0 7)))) * (wrap64 (a1))))
                  · rw [if_pos c34] at H
                    have c34b0 : (t397 == (wrap64 ((wrap64 (1 + (wrap64 (Int.tmod a0 7)))) * (wrap64 (a1))))) = true := beq_iff_eq.mpr c34
                    have c34b1 : (t397 != (wrap64 ((wrap64 (1 + (wrap64 (Int.tmod a0 7)))) * (wrap64 (a1))))) = false := bne_eq_false_iff_eq.mpr c34
                    clear c34
                    by_cases c35 : t398 = 0
                    · rw [if_pos c35] at H
                      have c35b0 : (t398 == 0) = true := beq_iff_eq.mpr c35
                      have c35b1 : (t398 != 0) = false := bne_eq_false_iff_eq.mpr c35
                      clear c35
                      replace H := Option.bind_eq_some_iff.mp H
                      obtain ⟨t401, A360, H⟩ := H
                      replace H : (if t401 = (wrap64 (1 + (wrap64 (Int.tmod a0 7)))) then ((handshakerlaw07_awake.f k2).bind fun t402 => (some t402)) else (some false)) = some r := H
                      have A36 := Aside0.mk A360
                      clear A360
                      by_cases c37 : t401 = (wrap64 (1 + (wrap64 (Int.tmod a0 7))))
                      · rw [if_pos c37] at H
                        have c37b0 : (t401 == (wrap64 (1 + (wrap64 (Int.tmod a0 7))))) = true := beq_iff_eq.mpr c37
                        have c37b1 : (t401 != (wrap64 (1 + (wrap64 (Int.tmod a0 7))))) = false := bne_eq_false_iff_eq.mpr c37
                        clear c37
                        replace H := Option.bind_eq_some_iff.mp H
                        obtain ⟨t402, A380, H⟩ := H
                        replace H : (some t402) = some r := H
                        have A38 := Aside0.mk A380
                        clear A380
                        obtain rfl := Option.some.inj H
                        go_wp2_with (first | ((with_reducible refine gate_dst (N := 51) rfl ?_); refine Kd.R_lit k58 _ 58 ?hg (N := 51) ?hd (xs := ([(⟨false, 0⟩ : S58)] : List (S58))) (inner := [.bool false, .int .i64 0]) (ok := fun _ => True) (okp := fun _ => True) ?hr ?hp (fun _ hk => hk) trivial (Below.refl _ _) (Nat.le_refl _) (by simp) ?_; (case hd => rfl); (case hg => rfl); (case hr => first | (go_simp; done) | (go_simp; rfl)); (case hp => exact (Reps.c2 (show Kd.M k58 _ _ _ (⟨false, 0⟩ : S58) [.bool false, .int .i64 0] from (k58_mkM _ _ _ (⟨false, 0⟩ : S58) )) (Reps.none _ _))); intro v395 w39 ho40 hb hg_ hnew_; clear hg_ hnew_; (first | rw [← Ny394.out] at ho40 | (simp only [Int.reduceToNat] at ho40; rw [← Ny394.out] at ho40)); have n0_ := Aside0.mk (Kd.R_below (by (with_reducible repeat (first | apply Kd.R_alloc | apply Kd.R_drewN | apply Kd.R_drew)); exact HO_8.out) hb); have n1_ := Aside0.mk (Kd.R_lower ho40 (below_size (by repeat (first | (with_reducible first | exact HB.out | apply below_alloc | apply pw_below_drewN | apply below_drew1) | exact HB.out)))); have n2_ := Aside0.mk (below_step (by repeat (first | (with_reducible first | exact HB.out | apply below_alloc | apply pw_below_drewN | apply below_drew1) | exact HB.out)) hb); clear HO_8; clear HB; have HO_8 := n0_; have HO396 := n1_; have HB := n2_; clear n0_ n1_ n2_; clear hb ho40; obtain ⟨Ao41, co41, eo41⟩ := Kd.R_slice HO_8.out; subst eo41; obtain ⟨Ao42, co42, eo42⟩ := Kd.R_slice HO396.out; subst eo42) | ((with_reducible refine gate_callee (f := 28) rfl ?_); refine goesL_ (some 52) rfl rfl Try.func28 (by kernel_rfl) rfl #[.slice Ao41 x8_2.length co41, .slice Ao42 y394.length co42, .slice none 0 0] rfl (by (try simp only [List.map_toArray, List.map_cons, List.map_nil]); first | done | rfl | (simp only [List.length_drop, List.length_take]; rfl)) ?_; (refine (term_Eval.calls k2 _ _ x8_2 _ _ y394 _ _ ([] : List Int) t397 t398 _ ?side1 ?side2 ?side3 ?side4 ?side5 ?side6 A17.out).mono ?_); (case side1 => repeat (first | exact (Kd.R_reads' HO_8.out).2.2 | (with_reducible refine Kd.C_alloc ?_ _) | (with_reducible refine Kd.C_drewN ?_ _) | (with_reducible refine Kd.C_drew ?_))); (case side2 => exact (Kd.R_reads' HO_8.out).2.1); (case side3 => repeat (first | exact (Kd.R_reads' HO396.out).2.2 | (with_reducible refine Kd.C_alloc ?_ _) | (with_reducible refine Kd.C_drewN ?_ _) | (with_reducible refine Kd.C_drew ?_))); (case side4 => exact (Kd.R_reads' HO396.out).2.1); (case side5 => exact Kd.C_nil _ _); (case side6 => exact Nat.le_refl _); rintro e w43 ⟨rfl, hb⟩; refine ⟨_, rfl, ?_⟩; have n0_ := Aside0.mk (Kd.R_below (by (with_reducible repeat (first | apply Kd.R_alloc | apply Kd.R_drewN | apply Kd.R_drew)); exact HO_8.out) hb); have n1_ := Aside0.mk (Kd.R_below (by (with_reducible repeat (first | apply Kd.R_alloc | apply Kd.R_drewN | apply Kd.R_drew)); exact HO396.out) hb); have n2_ := Aside0.mk (below_step (by repeat (first | (with_reducible first | exact HB.out | apply below_alloc | apply pw_below_drewN | apply below_drew1) | exact HB.out)) hb); clear HO_8; clear HO396; clear HB; have HO_8 := n0_; have HO396 := n1_; have HB := n2_; clear n0_ n1_ n2_; (try clear hb); (try clear hb2); (try clear hk); (try clear hi)) | (go_at_call 33; (with_reducible refine (term_Deep.calls k2 _ _ x8_2 t401 _ ?side1 ?side2 A36.out).mono ?_); (case side1 => repeat (first | exact (Kd.R_reads' HO_8.out).2.2 | (with_reducible refine Kd.C_alloc ?_ _) | (with_reducible refine Kd.C_drewN ?_ _) | (with_reducible refine Kd.C_drew ?_))); (case side2 => exact (Kd.R_reads' HO_8.out).2.1); rintro e w44 ⟨rfl, hb⟩; have n0_ := Aside0.mk (Kd.R_below (by (with_reducible repeat (first | apply Kd.R_alloc | apply Kd.R_drewN | apply Kd.R_drew)); exact HO_8.out) hb); have n1_ := Aside0.mk (Kd.R_below (by (with_reducible repeat (first | apply Kd.R_alloc | apply Kd.R_drewN | apply Kd.R_drew)); exact HO396.out) hb); have n2_ := Aside0.mk (below_step (by repeat (first | (with_reducible first | exact HB.out | apply below_alloc | apply pw_below_drewN | apply below_drew1) | exact HB.out)) hb); clear HO_8; clear HO396; clear HB; have HO_8 := n0_; have HO396 := n1_; have HB := n2_; clear n0_ n1_ n2_; (try clear hb); (try clear hb2); (try clear hk); (try clear hi)) | (go_at_call 27; (with_reducible refine (handshakerlaw07_awake.calls k2  t402 _ A38.out).mono ?_); rintro e w45 ⟨rfl, hb⟩; have n0_ := Aside0.mk (Kd.R_below (by (with_reducible repeat (first | apply Kd.R_alloc | apply Kd.R_drewN | apply Kd.R_drew)); exact HO_8.out) hb); have n1_ := Aside0.mk (Kd.R_below (by (with_reducible repeat (first | apply Kd.R_alloc | apply Kd.R_drewN | apply Kd.R_drew)); exact HO396.out) hb); have n2_ := Aside0.mk (below_step (by repeat (first | (with_reducible first | exact HB.out | apply below_alloc | apply pw_below_drewN | apply below_drew1) | exact HB.out)) hb); clear HO_8; clear HO396; clear HB; have HO_8 := n0_; have HO396 := n1_; have HB := n2_; clear n0_ n1_ n2_; (try clear hb); (try clear hb2); (try clear hk); (try clear hi)))
                        go_ret
                        exact ⟨by first | rfl | (simp [errW_none, errW_some] <;> rfl) | (simp only [← hji32]; first | rfl | (simp [errW_none, errW_some] <;> rfl)) | (simp [*, errW_none, errW_some] <;> rfl), by repeat (first | (with_reducible first | exact HB.out | apply below_alloc | apply pw_below_drewN | apply below_drew1) | exact HB.out)⟩
                      · rw [if_neg c37] at H
                        have c37b0 : (t401 == (wrap64 (1 + (wrap64 (Int.tmod a0 7))))) = false := beq_eq_false_iff_ne.mpr c37
                        have c37b1 : (t401 != (wrap64 (1 + (wrap64 (Int.tmod a0 7))))) = true := bne_iff_ne.mpr c37
                        exact absurd (Option.some.inj H) (by rw [HT.out]; decide)
                    · rw [if_neg c35] at H
                      have c35b0 : (t398 == 0) = false := beq_eq_false_iff_ne.mpr c35
                      have c35b1 : (t398 != 0) = true := bne_iff_ne.mpr c35
                      exact absurd (Option.some.inj H) (by rw [HT.out]; decide)
                  · rw [if_neg c34] at H
                    have c34b0 : (t397 == (wrap64 ((wrap64 (1 + (wrap64 (Int.tmod a0 7)))) * (wrap64 (a1))))) = false := beq_eq_false_iff_ne.mpr c34
                    have c34b1 : (t397 != (wrap64 ((wrap64 (1 + (wrap64 (Int.tmod a0 7)))) * (wrap64 (a1))))) = true := bne_iff_ne.mpr c34
                    exact absurd (Option.some.inj H) (by rw [HT.out]; decide)
                · replace c33 := Bool.eq_false_iff.mpr c33
                  subst c33
                  have H1 : (if t397 = (wrap64 ((wrap64 (1 + (wrap64 (Int.tmod a0 7)))) * (wrap64 (a1)))) then (if t398 = 0 then ((term_Deep.f k2 x8_2).bind fun t403 => (if t403 = (ji32) then ((handshakerlaw07_awake.f k2).bind fun t404 => (some t404)) else (some false))) else (some false)) else (some false)) = some r := by rw [if_neg (show ¬ (false = true) by decide)] at H; exact H
                  clear H
                  have H := H1
                  clear H1
                  by_cases c46 : t397 = (wrap64 ((wrap64 (1 + (wrap64 (Int.tmod a0 7)))) * (wrap64 (a1))))
                  · rw [if_pos c46] at H
                    have c46b0 : (t397 == (wrap64 ((wrap64 (1 + (wrap64 (Int.tmod a0 7)))) * (wrap64 (a1))))) = true := beq_iff_eq.mpr c46
                    have c46b1 : (t397 != (wrap64 ((wrap64 (1 + (wrap64 (Int.tmod a0 7)))) * (wrap64 (a1))))) = false := bne_eq_false_iff_eq.mpr c46
                    clear c46
                    by_cases c47 : t398 = 0
                    · rw [if_pos c47] at H
                      have c47b0 : (t398 == 0) = true := beq_iff_eq.mpr c47
                      have c47b1 : (t398 != 0) = false := bne_eq_false_iff_eq.mpr c47
                      clear c47
                      replace H := Option.bind_eq_some_iff.mp H
                      obtain ⟨t403, A480, H⟩ := H
                      replace H : (if t403 = (ji32) then ((handshakerlaw07_awake.f k2).bind fun t404 => (some t404)) else (some false)) = some r := H
                      have A48 := Aside0.mk A480
                      clear A480
                      by_cases c49 : t403 = (ji32)
                      · rw [if_pos c49] at H
                        have c49b0 : (t403 == (ji32)) = true := beq_iff_eq.mpr c49
                        have c49b1 : (t403 != (ji32)) = false := bne_eq_false_iff_eq.mpr c49
                        clear c49
                        replace H := Option.bind_eq_some_iff.mp H
                        obtain ⟨t404, A500, H⟩ := H
                        replace H : (some t404) = some r := H
                        have A50 := Aside0.mk A500
                        clear A500
                        obtain rfl := Option.some.inj H
                        go_wp2_with (first | ((with_reducible refine gate_dst (N := 51) rfl ?_); refine Kd.R_lit k58 _ 58 ?hg (N := 51) ?hd (xs := ([(⟨false, 0⟩ : S58)] : List (S58))) (inner := [.bool false, .int .i64 0]) (ok := fun _ => True) (okp := fun _ => True) ?hr ?hp (fun _ hk => hk) trivial (Below.refl _ _) (Nat.le_refl _) (by simp) ?_; (case hd => rfl); (case hg => rfl); (case hr => first | (go_simp; done) | (go_simp; rfl)); (case hp => exact (Reps.c2 (show Kd.M k58 _ _ _ (⟨false, 0⟩ : S58) [.bool false, .int .i64 0] from (k58_mkM _ _ _ (⟨false, 0⟩ : S58) )) (Reps.none _ _))); intro v395 w51 ho52 hb hg_ hnew_; clear hg_ hnew_; (first | rw [← Ny394.out] at ho52 | (simp only [Int.reduceToNat] at ho52; rw [← Ny394.out] at ho52)); have n0_ := Aside0.mk (Kd.R_below (by (with_reducible repeat (first | apply Kd.R_alloc | apply Kd.R_drewN | apply Kd.R_drew)); exact HO_8.out) hb); have n1_ := Aside0.mk (Kd.R_lower ho52 (below_size (by repeat (first | (with_reducible first | exact HB.out | apply below_alloc | apply pw_below_drewN | apply below_drew1) | exact HB.out)))); have n2_ := Aside0.mk (below_step (by repeat (first | (with_reducible first | exact HB.out | apply below_alloc | apply pw_below_drewN | apply below_drew1) | exact HB.out)) hb); clear HO_8; clear HB; have HO_8 := n0_; have HO396 := n1_; have HB := n2_; clear n0_ n1_ n2_; clear hb ho52; obtain ⟨Ao53, co53, eo53⟩ := Kd.R_slice HO_8.out; subst eo53; obtain ⟨Ao54, co54, eo54⟩ := Kd.R_slice HO396.out; subst eo54) | ((with_reducible refine gate_callee (f := 28) rfl ?_); refine goesL_ (some 52) rfl rfl Try.func28 (by kernel_rfl) rfl #[.slice Ao53 x8_2.length co53, .slice Ao54 y394.length co54, .slice none 0 0] rfl (by (try simp only [List.map_toArray, List.map_cons, List.map_nil]); first | done | rfl | (simp only [List.length_drop, List.length_take]; rfl)) ?_; (refine (term_Eval.calls k2 _ _ x8_2 _ _ y394 _ _ ([] : List Int) t397 t398 _ ?side1 ?side2 ?side3 ?side4 ?side5 ?side6 A17.out).mono ?_); (case side1 => repeat (first | exact (Kd.R_reads' HO_8.out).2.2 | (with_reducible refine Kd.C_alloc ?_ _) | (with_reducible refine Kd.C_drewN ?_ _) | (with_reducible refine Kd.C_drew ?_))); (case side2 => exact (Kd.R_reads' HO_8.out).2.1); (case side3 => repeat (first | exact (Kd.R_reads' HO396.out).2.2 | (with_reducible refine Kd.C_alloc ?_ _) | (with_reducible refine Kd.C_drewN ?_ _) | (with_reducible refine Kd.C_drew ?_))); (case side4 => exact (Kd.R_reads' HO396.out).2.1); (case side5 => exact Kd.C_nil _ _); (case side6 => exact Nat.le_refl _); rintro e w55 ⟨rfl, hb⟩; refine ⟨_, rfl, ?_⟩; have n0_ := Aside0.mk (Kd.R_below (by (with_reducible repeat (first | apply Kd.R_alloc | apply Kd.R_drewN | apply Kd.R_drew)); exact HO_8.out) hb); have n1_ := Aside0.mk (Kd.R_below (by (with_reducible repeat (first | apply Kd.R_alloc | apply Kd.R_drewN | apply Kd.R_drew)); exact HO396.out) hb); have n2_ := Aside0.mk (below_step (by repeat (first | (with_reducible first | exact HB.out | apply below_alloc | apply pw_below_drewN | apply below_drew1) | exact HB.out)) hb); clear HO_8; clear HO396; clear HB; have HO_8 := n0_; have HO396 := n1_; have HB := n2_; clear n0_ n1_ n2_; (try clear hb); (try clear hb2); (try clear hk); (try clear hi)) | (go_at_call 33; (with_reducible refine (term_Deep.calls k2 _ _ x8_2 t403 _ ?side1 ?side2 A48.out).mono ?_); (case side1 => repeat (first | exact (Kd.R_reads' HO_8.out).2.2 | (with_reducible refine Kd.C_alloc ?_ _) | (with_reducible refine Kd.C_drewN ?_ _) | (with_reducible refine Kd.C_drew ?_))); (case side2 => exact (Kd.R_reads' HO_8.out).2.1); rintro e w56 ⟨rfl, hb⟩; have n0_ := Aside0.mk (Kd.R_below (by (with_reducible repeat (first | apply Kd.R_alloc | apply Kd.R_drewN | apply Kd.R_drew)); exact HO_8.out) hb); have n1_ := Aside0.mk (Kd.R_below (by (with_reducible repeat (first | apply Kd.R_alloc | apply Kd.R_drewN | apply Kd.R_drew)); exact HO396.out) hb); have n2_ := Aside0.mk (below_step (by repeat (first | (with_reducible first | exact HB.out | apply below_alloc | apply pw_below_drewN | apply below_drew1) | exact HB.out)) hb); clear HO_8; clear HO396; clear HB; have HO_8 := n0_; have HO396 := n1_; have HB := n2_; clear n0_ n1_ n2_; (try clear hb); (try clear hb2); (try clear hk); (try clear hi)) | (go_at_call 27; (with_reducible refine (handshakerlaw07_awake.calls k2  t404 _ A50.out).mono ?_); rintro e w57 ⟨rfl, hb⟩; have n0_ := Aside0.mk (Kd.R_below (by (with_reducible repeat (first | apply Kd.R_alloc | apply Kd.R_drewN | apply Kd.R_drew)); exact HO_8.out) hb); have n1_ := Aside0.mk (Kd.R_below (by (with_reducible repeat (first | apply Kd.R_alloc | apply Kd.R_drewN | apply Kd.R_drew)); exact HO396.out) hb); have n2_ := Aside0.mk (below_step (by repeat (first | (with_reducible first | exact HB.out | apply below_alloc | apply pw_below_drewN | apply below_drew1) | exact HB.out)) hb); clear HO_8; clear HO396; clear HB; have HO_8 := n0_; have HO396 := n1_; have HB := n2_; clear n0_ n1_ n2_; (try clear hb); (try clear hb2); (try clear hk); (try clear hi)))
                        go_ret
                        exact ⟨by first | rfl | (simp [errW_none, errW_some] <;> rfl) | (simp only [← hji32]; first | rfl | (simp [errW_none, errW_some] <;> rfl)) | (simp [*, errW_none, errW_some] <;> rfl), by repeat (first | (with_reducible first | exact HB.out | apply below_alloc | apply pw_below_drewN | apply below_drew1) | exact HB.out)⟩
                      · rw [if_neg c49] at H
                        have c49b0 : (t403 == (ji32)) = false := beq_eq_false_iff_ne.mpr c49
                        have c49b1 : (t403 != (ji32)) = true := bne_iff_ne.mpr c49
                        exact absurd (Option.some.inj H) (by rw [HT.out]; decide)
                    · rw [if_neg c47] at H
                      have c47b0 : (t398 == 0) = false := beq_eq_false_iff_ne.mpr c47
                      have c47b1 : (t398 != 0) = true := bne_iff_ne.mpr c47
                      exact absurd (Option.some.inj H) (by rw [HT.out]; decide)
                  · rw [if_neg c46] at H
                    have c46b0 : (t397 == (wrap64 ((wrap64 (1 + (wrap64 (Int.tmod a0 7)))) * (wrap64 (a1))))) = false := beq_eq_false_iff_ne.mpr c46
                    have c46b1 : (t397 != (wrap64 ((wrap64 (1 + (wrap64 (Int.tmod a0 7)))) * (wrap64 (a1))))) = true := bne_iff_ne.mpr c46
                    exact absurd (Option.some.inj H) (by rw [HT.out]; decide)

/-- THE ONE PURE STATEMENT of handshakerlaw07_TermLong. -/
def handshakerlaw07_TermLong.Pure : Prop := ∀ (a0 : Int) (a1 : Int) (a2 : Bool), (Lit.int .u8 a0).wf = true → (Lit.int .i16 a1).wf = true → ∃ k, handshakerlaw07_TermLong.f k a0 a1 a2 = some true

end Go.Proofs.Ytbcpnbmegaodbaa.Tc
