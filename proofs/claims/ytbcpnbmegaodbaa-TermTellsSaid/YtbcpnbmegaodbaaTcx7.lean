-- PRINTED by print.py (a twelfth state) out of the translation. Not trusted: Lean checks it.
import Derived.Test.YtbcpnbmegaodbaaTcx0
import Derived.Test.YtbcpnbmegaodbaaTcx1
import Derived.Test.YtbcpnbmegaodbaaTcx2
import Derived.Test.YtbcpnbmegaodbaaTcx3
import Derived.Test.YtbcpnbmegaodbaaTcx4
import Derived.Test.YtbcpnbmegaodbaaTcx5
import Derived.Test.YtbcpnbmegaodbaaTcx6
namespace Go.Proofs.Ytbcpnbmegaodbaa.Tc
open Go.Proofs.Ytbcpnbmegaodbaa.Ho
open Go.RowKit Go.Proofs.YtbcpnbmegaodbaaW.PrintWords Go.Proofs.YtbcpnbmegaodbaaW.PrintLast Go.Proofs.YtbcpnbmegaodbaaW.PrintMore
attribute [local go_sem] max2_int min2_int max_two min_two max_three min_three max_four min_four   -- for this text's walks alone
set_option linter.unusedVariables false
set_option linter.unusedSimpArgs false

/-! ### handshakerlaw07_TermTells: function 9 -/
def handshakerlaw07_TermTells.j0 : Nat → List (S41) → List (S58) → List Int → Bool → Option (Bool)
  | 0, _, _, _, _ => none
  | k + 1, x0, x1, x2, x23 => if x23 = true then ((handshakerlaw07_awake.f k).bind fun t289 => (some t289)) else ((term_Eval.f k x0 x1 x2).bind fun bt290 => ((handshakerlaw07_Ref.f k x0).bind fun t292 => ((handshakerref07_Eval.f k t292 x1 x2).bind fun bt295 => ((term_Check.f k x0).bind fun t297 => ((handshakerlaw07_Ref.f k x0).bind fun t298 => ((handshakerref07_Check.f k t298).bind fun t301 => (if t297 = t301 then ((term_Cells.f k x0).bind fun t302 => ((handshakerlaw07_Ref.f k x0).bind fun t305 => ((handshakerref07_Cells.f k t305).bind fun t308 => ((handshakerref03_Numbers.f k t302 t308).bind fun t311 => (if t311 = true then ((term_Deep.f k x0).bind fun t312 => ((handshakerlaw07_Ref.f k x0).bind fun t313 => ((handshakerref07_Deep.f k t313).bind fun t316 => (if t312 = t316 then (if bt290.1 = bt295.1 then (if bt290.2 = bt295.2 then ((handshakerlaw07_awake.f k).bind fun t317 => (some t317)) else (some false)) else (some false)) else (some false))))) else (some false)))))) else (some false))))))))
def handshakerlaw07_TermTells.f (k : Nat) (l0 : List (S41)) (l1 : List (S58)) (l2 : List Int) : Option (Bool) := if (l0.length : Int) > 30 then (handshakerlaw07_TermTells.j0 k l0 l1 l2 true) else (if (l1.length : Int) > 100 then (handshakerlaw07_TermTells.j0 k l0 l1 l2 true) else (handshakerlaw07_TermTells.j0 k l0 l1 l2 (decide ((l2.length : Int) > 20))))
theorem handshakerlaw07_TermTells.mono_l : ∀ k, (∀ y0 y1 y2 y3, LeO (handshakerlaw07_TermTells.j0 k y0 y1 y2 y3) (handshakerlaw07_TermTells.j0 (k + 1) y0 y1 y2 y3))
  | 0 => fun _ _ _ _ r h => by simp [handshakerlaw07_TermTells.j0] at h
  | k + 1 => by
    have ih0 := handshakerlaw07_TermTells.mono_l k
    · intro y0 y1 y2 y3
      unfold handshakerlaw07_TermTells.j0
      repeat' first
      | (with_reducible exact ih0 _ _ _ _)
      | (with_reducible exact handshakerlaw07_Ref.mono _ _)
      | (with_reducible exact handshakerlaw07_awake.mono _)
      | (with_reducible exact handshakerref03_Numbers.mono _ _ _)
      | (with_reducible exact handshakerref07_Cells.mono _ _)
      | (with_reducible exact handshakerref07_Check.mono _ _)
      | (with_reducible exact handshakerref07_Deep.mono _ _)
      | (with_reducible exact handshakerref07_Eval.mono _ _ _ _)
      | (with_reducible exact term_Cells.mono _ _)
      | (with_reducible exact term_Check.mono _ _)
      | (with_reducible exact term_Deep.mono _ _)
      | (with_reducible exact term_Eval.mono _ _ _ _)
      | (with_reducible exact LeO.refl _)
      | (with_reducible exact LeO.none _)
      | (with_reducible refine LeO.ite ?_ ?_)
      | (with_reducible refine LeO.bind ?_ (fun _ => ?_))
      | exact ih0 _ _ _ _
      | exact handshakerlaw07_Ref.mono _ _
      | exact handshakerlaw07_awake.mono _
      | exact handshakerref03_Numbers.mono _ _ _
      | exact handshakerref07_Cells.mono _ _
      | exact handshakerref07_Check.mono _ _
      | exact handshakerref07_Deep.mono _ _
      | exact handshakerref07_Eval.mono _ _ _ _
      | exact term_Cells.mono _ _
      | exact term_Check.mono _ _
      | exact term_Deep.mono _ _
      | exact term_Eval.mono _ _ _ _
      | exact LeO.none _
      | refine LeO.ite ?_ ?_
      | refine LeO.bind ?_ (fun _ => ?_)
theorem handshakerlaw07_TermTells.mono : ∀ a0 a1 a2 k, LeO (handshakerlaw07_TermTells.f k a0 a1 a2) (handshakerlaw07_TermTells.f (k + 1) a0 a1 a2) := by
  intro a0 a1 a2 k
  have ih0 := handshakerlaw07_TermTells.mono_l k
  unfold handshakerlaw07_TermTells.f
  repeat' first
      | (with_reducible exact ih0 _ _ _ _)
      | (with_reducible exact handshakerlaw07_Ref.mono _ _)
      | (with_reducible exact handshakerlaw07_awake.mono _)
      | (with_reducible exact handshakerref03_Numbers.mono _ _ _)
      | (with_reducible exact handshakerref07_Cells.mono _ _)
      | (with_reducible exact handshakerref07_Check.mono _ _)
      | (with_reducible exact handshakerref07_Deep.mono _ _)
      | (with_reducible exact handshakerref07_Eval.mono _ _ _ _)
      | (with_reducible exact term_Cells.mono _ _)
      | (with_reducible exact term_Check.mono _ _)
      | (with_reducible exact term_Deep.mono _ _)
      | (with_reducible exact term_Eval.mono _ _ _ _)
      | (with_reducible exact LeO.refl _)
      | (with_reducible exact LeO.none _)
      | (with_reducible refine LeO.ite ?_ ?_)
      | (with_reducible refine LeO.bind ?_ (fun _ => ?_))
      | exact ih0 _ _ _ _
      | exact handshakerlaw07_Ref.mono _ _
      | exact handshakerlaw07_awake.mono _
      | exact handshakerref03_Numbers.mono _ _ _
      | exact handshakerref07_Cells.mono _ _
      | exact handshakerref07_Check.mono _ _
      | exact handshakerref07_Deep.mono _ _
      | exact handshakerref07_Eval.mono _ _ _ _
      | exact term_Cells.mono _ _
      | exact term_Check.mono _ _
      | exact term_Deep.mono _ _
      | exact term_Eval.mono _ _ _ _
      | exact LeO.none _
      | refine LeO.ite ?_ ?_
      | refine LeO.bind ?_ (fun _ => ?_)
set_option maxHeartbeats 8000000 in
set_option maxRecDepth 100000 in
theorem handshakerlaw07_TermTells.calls (k : Nat) (A0 : Option Addr) (c0 : Nat) (l0 : List (S41)) (A1 : Option Addr) (c1 : Nat) (l1 : List (S58)) (A2 : Option Addr) (c2 : Nat) (l2 : List Int) (r : Bool) (w : World) (HT : Aside0 (r = true)) (hr0 : Kd.C k41 w A0 l0.length l0) (hc0 : l0.length ≤ c0) (hr1 : Kd.C k58 w A1 l1.length l1) (hc1 : l1.length ≤ c1) (hr2 : Kd.C (Kd.int .i64) w A2 l2.length l2) (hc2 : l2.length ≤ c2) (h : handshakerlaw07_TermTells.f k l0 l1 l2 = some r) :
    Calls Try.prog 9 #[.slice A0 l0.length c0, .slice A1 l1.length c1, .slice A2 l2.length c2] w fun e w' => e = .returned (.bool r) ∧ Below w.heap.size w w' := by
  have HR0 := Aside0.mk hr0
  have HC0 := Aside0.mk hc0
  clear hr0 hc0
  have HR1 := Aside0.mk hr1
  have HC1 := Aside0.mk hc1
  clear hr1 hc1
  have HR2 := Aside0.mk hr2
  have HC2 := Aside0.mk hc2
  clear hr2 hc2
  have HB := Aside0.mk (Below.refl w.heap.size w)
  have H : (if (l0.length : Int) > 30 then (handshakerlaw07_TermTells.j0 k l0 l1 l2 true) else (if (l1.length : Int) > 100 then (handshakerlaw07_TermTells.j0 k l0 l1 l2 true) else (handshakerlaw07_TermTells.j0 k l0 l1 l2 (decide ((l2.length : Int) > 20))))) = some r := h
  clear h
  have HC4 := Aside0.mk H
  clear H
  go_enter Try.func9, Try.ntmps9
  go_upto_region 1 with (fail)
  go_cut [23] (fun v23 wc => ∃ (kq : Nat) (x23_3 : Bool), v23 = .bool x23_3 ∧ Aside0 (handshakerlaw07_TermTells.j0 kq l0 l1 l2 x23_3 = some r) ∧ Aside0 (kq ≤ k) ∧ Aside0 (Below w.heap.size w wc))
  case first =>
    have H := HC4.out
    clear HC4
    by_cases c5 : (l0.length : Int) > 30
    · rw [if_pos c5] at H
      have c5b0 : decide (30 < (l0.length : Int)) = true := decide_eq_true c5
      have c5b1 : decide (30 < l0.length) = true := decide_eq_true (by omega)
      clear c5
      (first | rw [c5b0] | (simp only [i64_w, i32_w]; rw [c5b0]) | skip)
      have H' := Aside0.mk H
      clear H
      go_wp2
      go_meet
      case rel => exact ⟨_, (true), (by first | rfl | (simp; done) | (simp [*]; done)), H', ⟨by first | omega | exact Nat.le_refl _⟩, ⟨by repeat (first | (with_reducible first | exact HB.out | apply below_alloc | apply pw_below_drewN | apply below_drew1) | exact HB.out)⟩⟩
    · rw [if_neg c5] at H
      have c5b0 : decide (30 < (l0.length : Int)) = false := decide_eq_false c5
      have c5b1 : decide (30 < l0.length) = false := decide_eq_false (by omega)
      clear c5
      (first | rw [c5b0] | (simp only [i64_w, i32_w]; rw [c5b0]) | skip)
      by_cases c6 : (l1.length : Int) > 100
      · rw [if_pos c6] at H
        have c6b0 : decide (100 < (l1.length : Int)) = true := decide_eq_true c6
        have c6b1 : decide (100 < l1.length) = true := decide_eq_true (by omega)
        clear c6
        have H' := Aside0.mk H
        clear H
        go_wp2
        go_meet
        case rel => exact ⟨_, (true), (by first | rfl | (simp; done) | (simp [*]; done)), H', ⟨by first | omega | exact Nat.le_refl _⟩, ⟨by repeat (first | (with_reducible first | exact HB.out | apply below_alloc | apply pw_below_drewN | apply below_drew1) | exact HB.out)⟩⟩
      · rw [if_neg c6] at H
        have c6b0 : decide (100 < (l1.length : Int)) = false := decide_eq_false c6
        have c6b1 : decide (100 < l1.length) = false := decide_eq_false (by omega)
        clear c6
        have H' := Aside0.mk H
        clear H
        go_wp2
        go_meet
        case rel => exact ⟨_, (decide ((l2.length : Int) > 20)), (by first | rfl | (simp; done) | (simp [*]; done)), H', ⟨by first | omega | exact Nat.le_refl _⟩, ⟨by repeat (first | (with_reducible first | exact HB.out | apply below_alloc | apply pw_below_drewN | apply below_drew1) | exact HB.out)⟩⟩
  case rest =>
    clear HC4
    try clear c1
    try clear c2
    try clear p2
    try clear c5
    try clear c5b0
    try clear c5b1
    try clear c6
    try clear c6b0
    try clear c6b1
    obtain ⟨kq, x23_3, rfl, HA, HJ3, HB⟩ := hcut
    cases kq with
    | zero => exact absurd HA.out (by simp [handshakerlaw07_TermTells.j0])
    | succ kj3 =>
      have H := HA.out
      clear HA
      simp only [handshakerlaw07_TermTells.j0] at H
      by_cases c7 : x23_3 = true
      · subst c7
        have H1 : ((handshakerlaw07_awake.f kj3).bind fun t289 => (some t289)) = some r := by rw [if_pos rfl] at H; exact H
        clear H
        have H := H1
        clear H1
        replace H := Option.bind_eq_some_iff.mp H
        obtain ⟨t289, A80, H⟩ := H
        replace H : (some t289) = some r := H
        have A8 := Aside0.mk A80
        clear A80
        obtain rfl := Option.some.inj H
        go_wp2_with (first | ((with_reducible refine gate_callee (f := 27) rfl ?_); refine goesL_ (some 24) rfl rfl Try.func27 (by kernel_rfl) rfl #[] rfl (by (try simp only [List.map_toArray, List.map_cons, List.map_nil]); first | done | rfl | (simp only [List.length_drop, List.length_take]; rfl)) ?_; (with_reducible refine (handshakerlaw07_awake.calls kj3  t289 _ A8.out).mono ?_); rintro e w9 ⟨rfl, hb⟩; refine ⟨_, rfl, ?_⟩; have n0_ := Aside0.mk (below_step (by repeat (first | (with_reducible first | exact HB.out | apply below_alloc | apply pw_below_drewN | apply below_drew1) | exact HB.out)) hb); clear HB; have HB := n0_; clear n0_; (try clear hb); (try clear hb2); (try clear hk); (try clear hi)))
        go_ret
        exact ⟨by first | rfl | (simp [errW_none, errW_some] <;> rfl) | (simp [*, errW_none, errW_some] <;> rfl), by repeat (first | (with_reducible first | exact HB.out | apply below_alloc | apply pw_below_drewN | apply below_drew1) | exact HB.out)⟩
      · replace c7 := Bool.eq_false_iff.mpr c7
        subst c7
        have H1 : ((term_Eval.f kj3 l0 l1 l2).bind fun bt290 => ((handshakerlaw07_Ref.f kj3 l0).bind fun t292 => ((handshakerref07_Eval.f kj3 t292 l1 l2).bind fun bt295 => ((term_Check.f kj3 l0).bind fun t297 => ((handshakerlaw07_Ref.f kj3 l0).bind fun t298 => ((handshakerref07_Check.f kj3 t298).bind fun t301 => (if t297 = t301 then ((term_Cells.f kj3 l0).bind fun t302 => ((handshakerlaw07_Ref.f kj3 l0).bind fun t305 => ((handshakerref07_Cells.f kj3 t305).bind fun t308 => ((handshakerref03_Numbers.f kj3 t302 t308).bind fun t311 => (if t311 = true then ((term_Deep.f kj3 l0).bind fun t312 => ((handshakerlaw07_Ref.f kj3 l0).bind fun t313 => ((handshakerref07_Deep.f kj3 t313).bind fun t316 => (if t312 = t316 then (if bt290.1 = bt295.1 then (if bt290.2 = bt295.2 then ((handshakerlaw07_awake.f kj3).bind fun t317 => (some t317)) else (some false)) else (some false)) else (some false))))) else (some false)))))) else (some false)))))))) = some r := by rw [if_neg (show ¬ (false = true) by decide)] at H; exact H
        clear H
        have H := H1
        clear H1
        replace H := Option.bind_eq_some_iff.mp H
        obtain ⟨⟨t290, t291⟩, A100, H⟩ := H
        replace H : ((handshakerlaw07_Ref.f kj3 l0).bind fun t292 => ((handshakerref07_Eval.f kj3 t292 l1 l2).bind fun bt295 => ((term_Check.f kj3 l0).bind fun t297 => ((handshakerlaw07_Ref.f kj3 l0).bind fun t298 => ((handshakerref07_Check.f kj3 t298).bind fun t301 => (if t297 = t301 then ((term_Cells.f kj3 l0).bind fun t302 => ((handshakerlaw07_Ref.f kj3 l0).bind fun t305 => ((handshakerref07_Cells.f kj3 t305).bind fun t308 => ((handshakerref03_Numbers.f kj3 t302 t308).bind fun t311 => (if t311 = true then ((term_Deep.f kj3 l0).bind fun t312 => ((handshakerlaw07_Ref.f kj3 l0).bind fun t313 => ((handshakerref07_Deep.f kj3 t313).bind fun t316 => (if t312 = t316 then (if t290 = bt295.1 then (if t291 = bt295.2 then ((handshakerlaw07_awake.f kj3).bind fun t317 => (some t317)) else (some false)) else (some false)) else (some false))))) else (some false)))))) else (some false))))))) = some r := H
        have A10 := Aside0.mk A100
        clear A100
        replace H := Option.bind_eq_some_iff.mp H
        obtain ⟨t292, A110, H⟩ := H
        replace H : ((handshakerref07_Eval.f kj3 t292 l1 l2).bind fun bt295 => ((term_Check.f kj3 l0).bind fun t297 => ((handshakerlaw07_Ref.f kj3 l0).bind fun t298 => ((handshakerref07_Check.f kj3 t298).bind fun t301 => (if t297 = t301 then ((term_Cells.f kj3 l0).bind fun t302 => ((handshakerlaw07_Ref.f kj3 l0).bind fun t305 => ((handshakerref07_Cells.f kj3 t305).bind fun t308 => ((handshakerref03_Numbers.f kj3 t302 t308).bind fun t311 => (if t311 = true then ((term_Deep.f kj3 l0).bind fun t312 => ((handshakerlaw07_Ref.f kj3 l0).bind fun t313 => ((handshakerref07_Deep.f kj3 t313).bind fun t316 => (if t312 = t316 then (if t290 = bt295.1 then (if t291 = bt295.2 then ((handshakerlaw07_awake.f kj3).bind fun t317 => (some t317)) else (some false)) else (some false)) else (some false))))) else (some false)))))) else (some false)))))) = some r := H
        have A11 := Aside0.mk A110
        clear A110
        replace H := Option.bind_eq_some_iff.mp H
        obtain ⟨⟨t295, t296⟩, A120, H⟩ := H
        replace H : ((term_Check.f kj3 l0).bind fun t297 => ((handshakerlaw07_Ref.f kj3 l0).bind fun t298 => ((handshakerref07_Check.f kj3 t298).bind fun t301 => (if t297 = t301 then ((term_Cells.f kj3 l0).bind fun t302 => ((handshakerlaw07_Ref.f kj3 l0).bind fun t305 => ((handshakerref07_Cells.f kj3 t305).bind fun t308 => ((handshakerref03_Numbers.f kj3 t302 t308).bind fun t311 => (if t311 = true then ((term_Deep.f kj3 l0).bind fun t312 => ((handshakerlaw07_Ref.f kj3 l0).bind fun t313 => ((handshakerref07_Deep.f kj3 t313).bind fun t316 => (if t312 = t316 then (if t290 = t295 then (if t291 = t296 then ((handshakerlaw07_awake.f kj3).bind fun t317 => (some t317)) else (some false)) else (some false)) else (some false))))) else (some false)))))) else (some false))))) = some r := H
        have A12 := Aside0.mk A120
        clear A120
        replace H := Option.bind_eq_some_iff.mp H
        obtain ⟨t297, A130, H⟩ := H
        replace H : ((handshakerlaw07_Ref.f kj3 l0).bind fun t298 => ((handshakerref07_Check.f kj3 t298).bind fun t301 => (if t297 = t301 then ((term_Cells.f kj3 l0).bind fun t302 => ((handshakerlaw07_Ref.f kj3 l0).bind fun t305 => ((handshakerref07_Cells.f kj3 t305).bind fun t308 => ((handshakerref03_Numbers.f kj3 t302 t308).bind fun t311 => (if t311 = true then ((term_Deep.f kj3 l0).bind fun t312 => ((handshakerlaw07_Ref.f kj3 l0).bind fun t313 => ((handshakerref07_Deep.f kj3 t313).bind fun t316 => (if t312 = t316 then (if t290 = t295 then (if t291 = t296 then ((handshakerlaw07_awake.f kj3).bind fun t317 => (some t317)) else (some false)) else (some false)) else (some false))))) else (some false)))))) else (some false)))) = some r := H
        have A13 := Aside0.mk A130
        clear A130
        replace H := Option.bind_eq_some_iff.mp H
        obtain ⟨t298, A140, H⟩ := H
        replace H : ((handshakerref07_Check.f kj3 t298).bind fun t301 => (if t297 = t301 then ((term_Cells.f kj3 l0).bind fun t302 => ((handshakerlaw07_Ref.f kj3 l0).bind fun t305 => ((handshakerref07_Cells.f kj3 t305).bind fun t308 => ((handshakerref03_Numbers.f kj3 t302 t308).bind fun t311 => (if t311 = true then ((term_Deep.f kj3 l0).bind fun t312 => ((handshakerlaw07_Ref.f kj3 l0).bind fun t313 => ((handshakerref07_Deep.f kj3 t313).bind fun t316 => (if t312 = t316 then (if t290 = t295 then (if t291 = t296 then ((handshakerlaw07_awake.f kj3).bind fun t317 => (some t317)) else (some false)) else (some false)) else (some false))))) else (some false)))))) else (some false))) = some r := H
        have A14 := Aside0.mk A140
        clear A140
        replace H := Option.bind_eq_some_iff.mp H
        obtain ⟨t301, A150, H⟩ := H
        replace H : (if t297 = t301 then ((term_Cells.f kj3 l0).bind fun t302 => ((handshakerlaw07_Ref.f kj3 l0).bind fun t305 => ((handshakerref07_Cells.f kj3 t305).bind fun t308 => ((handshakerref03_Numbers.f kj3 t302 t308).bind fun t311 => (if t311 = true then ((term_Deep.f kj3 l0).bind fun t312 => ((handshakerlaw07_Ref.f kj3 l0).bind fun t313 => ((handshakerref07_Deep.f kj3 t313).bind fun t316 => (if t312 = t316 then (if t290 = t295 then (if t291 = t296 then ((handshakerlaw07_awake.f kj3).bind fun t317 => (some t317)) else (some false)) else (some false)) else (some false))))) else (some false)))))) else (some false)) = some r := H
        have A15 := Aside0.mk A150
        clear A150
        by_cases c16 : t297 = t301
        · rw [if_pos c16] at H
          have c16b0 : (t297 == t301) = true := beq_iff_eq.mpr c16
          have c16b1 : (t297 != t301) = false := bne_eq_false_iff_eq.mpr c16
          clear c16
          replace H := Option.bind_eq_some_iff.mp H
          obtain ⟨t302, A170, H⟩ := H
          replace H : ((handshakerlaw07_Ref.f kj3 l0).bind fun t305 => ((handshakerref07_Cells.f kj3 t305).bind fun t308 => ((handshakerref03_Numbers.f kj3 t302 t308).bind fun t311 => (if t311 = true then ((term_Deep.f kj3 l0).bind fun t312 => ((handshakerlaw07_Ref.f kj3 l0).bind fun t313 => ((handshakerref07_Deep.f kj3 t313).bind fun t316 => (if t312 = t316 then (if t290 = t295 then (if t291 = t296 then ((handshakerlaw07_awake.f kj3).bind fun t317 => (some t317)) else (some false)) else (some false)) else (some false))))) else (some false))))) = some r := H
          have A17 := Aside0.mk A170
          clear A170
          replace H := Option.bind_eq_some_iff.mp H
          obtain ⟨t305, A180, H⟩ := H
          replace H : ((handshakerref07_Cells.f kj3 t305).bind fun t308 => ((handshakerref03_Numbers.f kj3 t302 t308).bind fun t311 => (if t311 = true then ((term_Deep.f kj3 l0).bind fun t312 => ((handshakerlaw07_Ref.f kj3 l0).bind fun t313 => ((handshakerref07_Deep.f kj3 t313).bind fun t316 => (if t312 = t316 then (if t290 = t295 then (if t291 = t296 then ((handshakerlaw07_awake.f kj3).bind fun t317 => (some t317)) else (some false)) else (some false)) else (some false))))) else (some false)))) = some r := H
          have A18 := Aside0.mk A180
          clear A180
          replace H := Option.bind_eq_some_iff.mp H
          obtain ⟨t308, A190, H⟩ := H
          replace H : ((handshakerref03_Numbers.f kj3 t302 t308).bind fun t311 => (if t311 = true then ((term_Deep.f kj3 l0).bind fun t312 => ((handshakerlaw07_Ref.f kj3 l0).bind fun t313 => ((handshakerref07_Deep.f kj3 t313).bind fun t316 => (if t312 = t316 then (if t290 = t295 then (if t291 = t296 then ((handshakerlaw07_awake.f kj3).bind fun t317 => (some t317)) else (some false)) else (some false)) else (some false))))) else (some false))) = some r := H
          have A19 := Aside0.mk A190
          clear A190
          replace H := Option.bind_eq_some_iff.mp H
          obtain ⟨t311, A200, H⟩ := H
          replace H : (if t311 = true then ((term_Deep.f kj3 l0).bind fun t312 => ((handshakerlaw07_Ref.f kj3 l0).bind fun t313 => ((handshakerref07_Deep.f kj3 t313).bind fun t316 => (if t312 = t316 then (if t290 = t295 then (if t291 = t296 then ((handshakerlaw07_awake.f kj3).bind fun t317 => (some t317)) else (some false)) else (some false)) else (some false))))) else (some false)) = some r := H
          have A20 := Aside0.mk A200
          clear A200
          by_cases c21 : t311 = true
          · subst c21
            have H1 : ((term_Deep.f kj3 l0).bind fun t312 => ((handshakerlaw07_Ref.f kj3 l0).bind fun t313 => ((handshakerref07_Deep.f kj3 t313).bind fun t316 => (if t312 = t316 then (if t290 = t295 then (if t291 = t296 then ((handshakerlaw07_awake.f kj3).bind fun t317 => (some t317)) else (some false)) else (some false)) else (some false))))) = some r := by rw [if_pos rfl] at H; exact H
            clear H
            have H := H1
            clear H1
            replace H := Option.bind_eq_some_iff.mp H
            obtain ⟨t312, A220, H⟩ := H
            replace H : ((handshakerlaw07_Ref.f kj3 l0).bind fun t313 => ((handshakerref07_Deep.f kj3 t313).bind fun t316 => (if t312 = t316 then (if t290 = t295 then (if t291 = t296 then ((handshakerlaw07_awake.f kj3).bind fun t317 => (some t317)) else (some false)) else (some false)) else (some false)))) = some r := H
            have A22 := Aside0.mk A220
            clear A220
            replace H := Option.bind_eq_some_iff.mp H
            obtain ⟨t313, A230, H⟩ := H
            replace H : ((handshakerref07_Deep.f kj3 t313).bind fun t316 => (if t312 = t316 then (if t290 = t295 then (if t291 = t296 then ((handshakerlaw07_awake.f kj3).bind fun t317 => (some t317)) else (some false)) else (some false)) else (some false))) = some r := H
            have A23 := Aside0.mk A230
            clear A230
            replace H := Option.bind_eq_some_iff.mp H
            obtain ⟨t316, A240, H⟩ := H
            replace H : (if t312 = t316 then (if t290 = t295 then (if t291 = t296 then ((handshakerlaw07_awake.f kj3).bind fun t317 => (some t317)) else (some false)) else (some false)) else (some false)) = some r := H
            have A24 := Aside0.mk A240
            clear A240
            by_cases c25 : t312 = t316
            · rw [if_pos c25] at H
              have c25b0 : (t312 == t316) = true := beq_iff_eq.mpr c25
              have c25b1 : (t312 != t316) = false := bne_eq_false_iff_eq.mpr c25
              clear c25
              by_cases c26 : t290 = t295
              · rw [if_pos c26] at H
                have c26b0 : (t290 == t295) = true := beq_iff_eq.mpr c26
                have c26b1 : (t290 != t295) = false := bne_eq_false_iff_eq.mpr c26
                clear c26
                by_cases c27 : t291 = t296
                · rw [if_pos c27] at H
                  have c27b0 : (t291 == t296) = true := beq_iff_eq.mpr c27
                  have c27b1 : (t291 != t296) = false := bne_eq_false_iff_eq.mpr c27
                  clear c27
                  replace H := Option.bind_eq_some_iff.mp H
                  obtain ⟨t317, A280, H⟩ := H
                  replace H : (some t317) = some r := H
                  have A28 := Aside0.mk A280
                  clear A280
                  obtain rfl := Option.some.inj H
                  go_wp2_with (first | ((with_reducible refine gate_callee (f := 28) rfl ?_); refine goesL_ (some 29) rfl rfl Try.func28 (by kernel_rfl) rfl #[.slice A0 l0.length c0, .slice A1 l1.length c1, .slice A2 l2.length c2] rfl (by (try simp only [List.map_toArray, List.map_cons, List.map_nil]); first | done | rfl | (simp only [List.length_drop, List.length_take]; rfl)) ?_; (with_reducible refine (term_Eval.calls kj3 _ _ l0 _ _ l1 _ _ l2 t290 t291 _ ?side1 ?side2 ?side3 ?side4 ?side5 ?side6 A10.out).mono ?_); (case side1 => repeat (first | exact (Kd.C_below HR0.out HB.out) | (with_reducible refine Kd.C_alloc ?_ _) | (with_reducible refine Kd.C_drewN ?_ _) | (with_reducible refine Kd.C_drew ?_))); (case side2 => exact HC0.out); (case side3 => repeat (first | exact (Kd.C_below HR1.out HB.out) | (with_reducible refine Kd.C_alloc ?_ _) | (with_reducible refine Kd.C_drewN ?_ _) | (with_reducible refine Kd.C_drew ?_))); (case side4 => exact HC1.out); (case side5 => repeat (first | exact (Kd.C_below HR2.out HB.out) | (with_reducible refine Kd.C_alloc ?_ _) | (with_reducible refine Kd.C_drewN ?_ _) | (with_reducible refine Kd.C_drew ?_))); (case side6 => exact HC2.out); rintro e w29 ⟨rfl, hb⟩; refine ⟨_, rfl, ?_⟩; have n0_ := Aside0.mk (below_step (by repeat (first | (with_reducible first | exact HB.out | apply below_alloc | apply pw_below_drewN | apply below_drew1) | exact HB.out)) hb); clear HB; have HB := n0_; clear n0_; (try clear hb); (try clear hb2); (try clear hk); (try clear hi)) | ((with_reducible refine gate_callee (f := 30) rfl ?_); refine goesL_ (some 34) rfl rfl Try.func30 (by kernel_rfl) rfl #[.slice A0 l0.length c0] rfl (by (try simp only [List.map_toArray, List.map_cons, List.map_nil]); first | done | rfl | (simp only [List.length_drop, List.length_take]; rfl)) ?_; (with_reducible refine (handshakerlaw07_Ref.calls kj3 _ _ l0 t292 _ ?side1 ?side2 A11.out).mono ?_); (case side1 => repeat (first | exact (Kd.C_below HR0.out HB.out) | (with_reducible refine Kd.C_alloc ?_ _) | (with_reducible refine Kd.C_drewN ?_ _) | (with_reducible refine Kd.C_drew ?_))); (case side2 => exact HC0.out); rintro e w30 ⟨v293, rfl, ho0, hb⟩; refine ⟨_, rfl, ?_⟩; have n0_ := Aside0.mk (Kd.R_lower ho0 (below_size (by repeat (first | (with_reducible first | exact HB.out | apply below_alloc | apply pw_below_drewN | apply below_drew1) | exact HB.out)))); have n1_ := Aside0.mk (below_step (by repeat (first | (with_reducible first | exact HB.out | apply below_alloc | apply pw_below_drewN | apply below_drew1) | exact HB.out)) hb); clear HB; have HO294 := n0_; have HB := n1_; clear n0_ n1_; (try clear hb); (try clear hb2); (try clear hk); (try clear hi); (try clear ho0); obtain ⟨Ao31, co31, eo31⟩ := Kd.R_slice HO294.out; subst eo31) | ((with_reducible refine gate_callee (f := 29) rfl ?_); refine goesL_ (some 37) rfl rfl Try.func29 (by kernel_rfl) rfl #[.slice Ao31 t292.length co31, .slice A1 l1.length c1, .slice A2 l2.length c2] rfl (by (try simp only [List.map_toArray, List.map_cons, List.map_nil]); first | done | rfl | (simp only [List.length_drop, List.length_take]; rfl)) ?_; (with_reducible refine (handshakerref07_Eval.calls kj3 _ _ t292 _ _ l1 _ _ l2 t295 t296 _ ?side1 ?side2 ?side3 ?side4 ?side5 ?side6 A12.out).mono ?_); (case side1 => repeat (first | exact (Kd.R_reads' HO294.out).2.2 | (with_reducible refine Kd.C_alloc ?_ _) | (with_reducible refine Kd.C_drewN ?_ _) | (with_reducible refine Kd.C_drew ?_))); (case side2 => exact (Kd.R_reads' HO294.out).2.1); (case side3 => repeat (first | exact (Kd.C_below HR1.out HB.out) | (with_reducible refine Kd.C_alloc ?_ _) | (with_reducible refine Kd.C_drewN ?_ _) | (with_reducible refine Kd.C_drew ?_))); (case side4 => exact HC1.out); (case side5 => repeat (first | exact (Kd.C_below HR2.out HB.out) | (with_reducible refine Kd.C_alloc ?_ _) | (with_reducible refine Kd.C_drewN ?_ _) | (with_reducible refine Kd.C_drew ?_))); (case side6 => exact HC2.out); rintro e w32 ⟨rfl, hb⟩; refine ⟨_, rfl, ?_⟩; have n0_ := Aside0.mk (Kd.R_below (by (with_reducible repeat (first | apply Kd.R_alloc | apply Kd.R_drewN | apply Kd.R_drew)); exact HO294.out) hb); have n1_ := Aside0.mk (below_step (by repeat (first | (with_reducible first | exact HB.out | apply below_alloc | apply pw_below_drewN | apply below_drew1) | exact HB.out)) hb); clear HO294; clear HB; have HO294 := n0_; have HB := n1_; clear n0_ n1_; (try clear hb); (try clear hb2); (try clear hk); (try clear hi)) | ((with_reducible refine gate_callee (f := 25) rfl ?_); refine goesL_ (some 41) rfl rfl Try.func25 (by kernel_rfl) rfl #[.slice A0 l0.length c0] rfl (by (try simp only [List.map_toArray, List.map_cons, List.map_nil]); first | done | rfl | (simp only [List.length_drop, List.length_take]; rfl)) ?_; (with_reducible refine (term_Check.calls kj3 _ _ l0 t297 _ ?side1 ?side2 A13.out).mono ?_); (case side1 => repeat (first | exact (Kd.C_below HR0.out HB.out) | (with_reducible refine Kd.C_alloc ?_ _) | (with_reducible refine Kd.C_drewN ?_ _) | (with_reducible refine Kd.C_drew ?_))); (case side2 => exact HC0.out); rintro e w33 ⟨rfl, hb⟩; refine ⟨_, rfl, ?_⟩; have n0_ := Aside0.mk (Kd.R_below (by (with_reducible repeat (first | apply Kd.R_alloc | apply Kd.R_drewN | apply Kd.R_drew)); exact HO294.out) hb); have n1_ := Aside0.mk (below_step (by repeat (first | (with_reducible first | exact HB.out | apply below_alloc | apply pw_below_drewN | apply below_drew1) | exact HB.out)) hb); clear HO294; clear HB; have HO294 := n0_; have HB := n1_; clear n0_ n1_; (try clear hb); (try clear hb2); (try clear hk); (try clear hi)) | ((with_reducible refine gate_callee (f := 30) rfl ?_); refine goesL_ (some 43) rfl rfl Try.func30 (by kernel_rfl) rfl #[.slice A0 l0.length c0] rfl (by (try simp only [List.map_toArray, List.map_cons, List.map_nil]); first | done | rfl | (simp only [List.length_drop, List.length_take]; rfl)) ?_; (with_reducible refine (handshakerlaw07_Ref.calls kj3 _ _ l0 t298 _ ?side1 ?side2 A14.out).mono ?_); (case side1 => repeat (first | exact (Kd.C_below HR0.out HB.out) | (with_reducible refine Kd.C_alloc ?_ _) | (with_reducible refine Kd.C_drewN ?_ _) | (with_reducible refine Kd.C_drew ?_))); (case side2 => exact HC0.out); rintro e w34 ⟨v299, rfl, ho0, hb⟩; refine ⟨_, rfl, ?_⟩; have n0_ := Aside0.mk (Kd.R_elder' (by (with_reducible repeat (first | apply Kd.R_alloc | apply Kd.R_drewN | apply Kd.R_drew)); exact HO294.out) (Kd.R_base ho0) hb); have n1_ := Aside0.mk (Kd.R_lower (Kd.R_new' ho0 (Kd.R_lt (by (with_reducible repeat (first | apply Kd.R_alloc | apply Kd.R_drewN | apply Kd.R_drew)); exact HO294.out))) (below_size (by repeat (first | (with_reducible first | exact HB.out | apply below_alloc | apply pw_below_drewN | apply below_drew1) | exact HB.out)))); have n2_ := Aside0.mk (below_step (by repeat (first | (with_reducible first | exact HB.out | apply below_alloc | apply pw_below_drewN | apply below_drew1) | exact HB.out)) hb); clear HO294; clear HB; have HO294 := n0_; have HO300 := n1_; have HB := n2_; clear n0_ n1_ n2_; (try clear hb); (try clear hb2); (try clear hk); (try clear hi); (try clear ho0); obtain ⟨Ao35, co35, eo35⟩ := Kd.R_slice HO300.out; subst eo35) | ((with_reducible refine gate_callee (f := 31) rfl ?_); refine goesL_ (some 44) rfl rfl Try.func31 (by kernel_rfl) rfl #[.slice Ao35 t298.length co35] rfl (by (try simp only [List.map_toArray, List.map_cons, List.map_nil]); first | done | rfl | (simp only [List.length_drop, List.length_take]; rfl)) ?_; (with_reducible refine (handshakerref07_Check.calls kj3 _ _ t298 t301 _ ?side1 ?side2 A15.out).mono ?_); (case side1 => repeat (first | exact (Kd.R_reads' HO300.out).2.2 | (with_reducible refine Kd.C_alloc ?_ _) | (with_reducible refine Kd.C_drewN ?_ _) | (with_reducible refine Kd.C_drew ?_))); (case side2 => exact (Kd.R_reads' HO300.out).2.1); rintro e w36 ⟨rfl, hb⟩; refine ⟨_, rfl, ?_⟩; have n0_ := Aside0.mk (Kd.R_below (by (with_reducible repeat (first | apply Kd.R_alloc | apply Kd.R_drewN | apply Kd.R_drew)); exact HO294.out) hb); have n1_ := Aside0.mk (Kd.R_below (by (with_reducible repeat (first | apply Kd.R_alloc | apply Kd.R_drewN | apply Kd.R_drew)); exact HO300.out) hb); have n2_ := Aside0.mk (below_step (by repeat (first | (with_reducible first | exact HB.out | apply below_alloc | apply pw_below_drewN | apply below_drew1) | exact HB.out)) hb); clear HO294; clear HO300; clear HB; have HO294 := n0_; have HO300 := n1_; have HB := n2_; clear n0_ n1_ n2_; (try clear hb); (try clear hb2); (try clear hk); (try clear hi)) | ((with_reducible refine gate_callee (f := 26) rfl ?_); refine goesG_ (some 48) rfl Try.func26 (by kernel_rfl) rfl #[.slice A0 l0.length c0] rfl (by first | rfl | (go_simp; done) | (simp [Region.wanted, yielded]; done)) (by (try simp only [List.map_toArray, List.map_cons, List.map_nil]); first | done | rfl | (simp only [List.length_drop, List.length_take]; rfl)) ?_; (with_reducible refine (term_Cells.calls kj3 _ _ l0 t302 _ ?side1 ?side2 A17.out).mono ?_); (case side1 => repeat (first | exact (Kd.C_below HR0.out HB.out) | (with_reducible refine Kd.C_alloc ?_ _) | (with_reducible refine Kd.C_drewN ?_ _) | (with_reducible refine Kd.C_drew ?_))); (case side2 => exact HC0.out); rintro e w37 ⟨v303, rfl, ho0, hb⟩; refine ⟨_, rfl, ?_⟩; have n0_ := Aside0.mk (Kd.R_below (by (with_reducible repeat (first | apply Kd.R_alloc | apply Kd.R_drewN | apply Kd.R_drew)); exact HO294.out) hb); have n1_ := Aside0.mk (Kd.R_below (by (with_reducible repeat (first | apply Kd.R_alloc | apply Kd.R_drewN | apply Kd.R_drew)); exact HO300.out) hb); have n2_ := Aside0.mk (Kd.R_lower ho0 (below_size (by repeat (first | (with_reducible first | exact HB.out | apply below_alloc | apply pw_below_drewN | apply below_drew1) | exact HB.out)))); have n3_ := Aside0.mk (below_step (by repeat (first | (with_reducible first | exact HB.out | apply below_alloc | apply pw_below_drewN | apply below_drew1) | exact HB.out)) hb); clear HO294; clear HO300; clear HB; have HO294 := n0_; have HO300 := n1_; have HO304 := n2_; have HB := n3_; clear n0_ n1_ n2_ n3_; (try clear hb); (try clear hb2); (try clear hk); (try clear hi); (try clear ho0)) | ((with_reducible refine gate_callee (f := 30) rfl ?_); refine goesG_ (some 50) rfl Try.func30 (by kernel_rfl) rfl #[.slice A0 l0.length c0] rfl (by first | rfl | (go_simp; done) | (simp [Region.wanted, yielded]; done)) (by (try simp only [List.map_toArray, List.map_cons, List.map_nil]); first | done | rfl | (simp only [List.length_drop, List.length_take]; rfl)) ?_; (with_reducible refine (handshakerlaw07_Ref.calls kj3 _ _ l0 t305 _ ?side1 ?side2 A18.out).mono ?_); (case side1 => repeat (first | exact (Kd.C_below HR0.out HB.out) | (with_reducible refine Kd.C_alloc ?_ _) | (with_reducible refine Kd.C_drewN ?_ _) | (with_reducible refine Kd.C_drew ?_))); (case side2 => exact HC0.out); rintro e w38 ⟨v306, rfl, ho0, hb⟩; refine ⟨_, rfl, ?_⟩; have n0_ := Aside0.mk (Kd.R_elder' (by (with_reducible repeat (first | apply Kd.R_alloc | apply Kd.R_drewN | apply Kd.R_drew)); exact HO294.out) (Kd.R_base ho0) hb); have n1_ := Aside0.mk (Kd.R_elder' (by (with_reducible repeat (first | apply Kd.R_alloc | apply Kd.R_drewN | apply Kd.R_drew)); exact HO300.out) (Kd.R_base ho0) hb); have n2_ := Aside0.mk (Kd.R_below (by (with_reducible repeat (first | apply Kd.R_alloc | apply Kd.R_drewN | apply Kd.R_drew)); exact HO304.out) hb); have n3_ := Aside0.mk (Kd.R_lower (Kd.R_new' (Kd.R_new' ho0 (Kd.R_lt (by (with_reducible repeat (first | apply Kd.R_alloc | apply Kd.R_drewN | apply Kd.R_drew)); exact HO294.out))) (Kd.R_lt (by (with_reducible repeat (first | apply Kd.R_alloc | apply Kd.R_drewN | apply Kd.R_drew)); exact HO300.out))) (below_size (by repeat (first | (with_reducible first | exact HB.out | apply below_alloc | apply pw_below_drewN | apply below_drew1) | exact HB.out)))); have n4_ := Aside0.mk (below_step (by repeat (first | (with_reducible first | exact HB.out | apply below_alloc | apply pw_below_drewN | apply below_drew1) | exact HB.out)) hb); clear HO294; clear HO300; clear HO304; clear HB; have HO294 := n0_; have HO300 := n1_; have HO304 := n2_; have HO307 := n3_; have HB := n4_; clear n0_ n1_ n2_ n3_ n4_; (try clear hb); (try clear hb2); (try clear hk); (try clear hi); (try clear ho0); obtain ⟨Ao39, co39, eo39⟩ := Kd.R_slice HO307.out; subst eo39) | ((with_reducible refine gate_callee (f := 32) rfl ?_); refine goesG_ (some 51) rfl Try.func32 (by kernel_rfl) rfl #[.slice Ao39 t305.length co39] rfl (by first | rfl | (go_simp; done) | (simp [Region.wanted, yielded]; done)) (by (try simp only [List.map_toArray, List.map_cons, List.map_nil]); first | done | rfl | (simp only [List.length_drop, List.length_take]; rfl)) ?_; (with_reducible refine (handshakerref07_Cells.calls kj3 _ _ t305 t308 _ ?side1 ?side2 A19.out).mono ?_); (case side1 => repeat (first | exact (Kd.R_reads' HO307.out).2.2 | (with_reducible refine Kd.C_alloc ?_ _) | (with_reducible refine Kd.C_drewN ?_ _) | (with_reducible refine Kd.C_drew ?_))); (case side2 => exact (Kd.R_reads' HO307.out).2.1); rintro e w40 ⟨v309, rfl, ho0, hb⟩; refine ⟨_, rfl, ?_⟩; have n0_ := Aside0.mk (Kd.R_below (by (with_reducible repeat (first | apply Kd.R_alloc | apply Kd.R_drewN | apply Kd.R_drew)); exact HO294.out) hb); have n1_ := Aside0.mk (Kd.R_below (by (with_reducible repeat (first | apply Kd.R_alloc | apply Kd.R_drewN | apply Kd.R_drew)); exact HO300.out) hb); have n2_ := Aside0.mk (Kd.R_elder' (by (with_reducible repeat (first | apply Kd.R_alloc | apply Kd.R_drewN | apply Kd.R_drew)); exact HO304.out) (Kd.R_base ho0) hb); have n3_ := Aside0.mk (Kd.R_below (by (with_reducible repeat (first | apply Kd.R_alloc | apply Kd.R_drewN | apply Kd.R_drew)); exact HO307.out) hb); have n4_ := Aside0.mk (Kd.R_lower (Kd.R_new' ho0 (Kd.R_lt (by (with_reducible repeat (first | apply Kd.R_alloc | apply Kd.R_drewN | apply Kd.R_drew)); exact HO304.out))) (below_size (by repeat (first | (with_reducible first | exact HB.out | apply below_alloc | apply pw_below_drewN | apply below_drew1) | exact HB.out)))); have n5_ := Aside0.mk (below_step (by repeat (first | (with_reducible first | exact HB.out | apply below_alloc | apply pw_below_drewN | apply below_drew1) | exact HB.out)) hb); clear HO294; clear HO300; clear HO304; clear HO307; clear HB; have HO294 := n0_; have HO300 := n1_; have HO304 := n2_; have HO307 := n3_; have HO310 := n4_; have HB := n5_; clear n0_ n1_ n2_ n3_ n4_ n5_; (try clear hb); (try clear hb2); (try clear hk); (try clear hi); (try clear ho0); obtain ⟨Ao41, co41, eo41⟩ := Kd.R_slice HO304.out; subst eo41; obtain ⟨Ao42, co42, eo42⟩ := Kd.R_slice HO310.out; subst eo42) | ((with_reducible refine gate_callee (f := 22) rfl ?_); refine goesG_ (some 52) rfl Try.func22 (by kernel_rfl) rfl #[.slice Ao41 t302.length co41, .slice Ao42 t308.length co42] rfl (by first | rfl | (go_simp; done) | (simp [Region.wanted, yielded]; done)) (by (try simp only [List.map_toArray, List.map_cons, List.map_nil]); first | done | rfl | (simp only [List.length_drop, List.length_take]; rfl)) ?_; (with_reducible refine (handshakerref03_Numbers.calls kj3 _ _ t302 _ _ t308 true _ ?side1 ?side2 ?side3 ?side4 A20.out).mono ?_); (case side1 => repeat (first | exact (Kd.R_reads' HO304.out).2.2 | (with_reducible refine Kd.C_alloc ?_ _) | (with_reducible refine Kd.C_drewN ?_ _) | (with_reducible refine Kd.C_drew ?_))); (case side2 => exact (Kd.R_reads' HO304.out).2.1); (case side3 => repeat (first | exact (Kd.R_reads' HO310.out).2.2 | (with_reducible refine Kd.C_alloc ?_ _) | (with_reducible refine Kd.C_drewN ?_ _) | (with_reducible refine Kd.C_drew ?_))); (case side4 => exact (Kd.R_reads' HO310.out).2.1); rintro e w' ⟨rfl, ⟨nd, rfl⟩⟩; refine ⟨_, rfl, ?_⟩) | ((with_reducible refine gate_callee (f := 33) rfl ?_); refine goesG_ (some 56) rfl Try.func33 (by kernel_rfl) rfl #[.slice A0 l0.length c0] rfl (by first | rfl | (go_simp; done) | (simp [Region.wanted, yielded]; done)) (by (try simp only [List.map_toArray, List.map_cons, List.map_nil]); first | done | rfl | (simp only [List.length_drop, List.length_take]; rfl)) ?_; (with_reducible refine (term_Deep.calls kj3 _ _ l0 t312 _ ?side1 ?side2 A22.out).mono ?_); (case side1 => repeat (first | exact (Kd.C_below HR0.out (by repeat (first | (with_reducible first | exact HB.out | apply below_alloc | apply pw_below_drewN | apply below_drew1) | exact HB.out))) | (with_reducible refine Kd.C_alloc ?_ _) | (with_reducible refine Kd.C_drewN ?_ _) | (with_reducible refine Kd.C_drew ?_))); (case side2 => exact HC0.out); rintro e w43 ⟨rfl, hb⟩; refine ⟨_, rfl, ?_⟩; have n0_ := Aside0.mk (Kd.R_below (by (with_reducible repeat (first | apply Kd.R_alloc | apply Kd.R_drewN | apply Kd.R_drew)); exact HO294.out) hb); have n1_ := Aside0.mk (Kd.R_below (by (with_reducible repeat (first | apply Kd.R_alloc | apply Kd.R_drewN | apply Kd.R_drew)); exact HO300.out) hb); have n2_ := Aside0.mk (Kd.R_below (by (with_reducible repeat (first | apply Kd.R_alloc | apply Kd.R_drewN | apply Kd.R_drew)); exact HO304.out) hb); have n3_ := Aside0.mk (Kd.R_below (by (with_reducible repeat (first | apply Kd.R_alloc | apply Kd.R_drewN | apply Kd.R_drew)); exact HO307.out) hb); have n4_ := Aside0.mk (Kd.R_below (by (with_reducible repeat (first | apply Kd.R_alloc | apply Kd.R_drewN | apply Kd.R_drew)); exact HO310.out) hb); have n5_ := Aside0.mk (below_step (by repeat (first | (with_reducible first | exact HB.out | apply below_alloc | apply pw_below_drewN | apply below_drew1) | exact HB.out)) hb); clear HO294; clear HO300; clear HO304; clear HO307; clear HO310; clear HB; have HO294 := n0_; have HO300 := n1_; have HO304 := n2_; have HO307 := n3_; have HO310 := n4_; have HB := n5_; clear n0_ n1_ n2_ n3_ n4_ n5_; (try clear hb); (try clear hb2); (try clear hk); (try clear hi)) | ((with_reducible refine gate_callee (f := 30) rfl ?_); refine goesG_ (some 58) rfl Try.func30 (by kernel_rfl) rfl #[.slice A0 l0.length c0] rfl (by first | rfl | (go_simp; done) | (simp [Region.wanted, yielded]; done)) (by (try simp only [List.map_toArray, List.map_cons, List.map_nil]); first | done | rfl | (simp only [List.length_drop, List.length_take]; rfl)) ?_; (with_reducible refine (handshakerlaw07_Ref.calls kj3 _ _ l0 t313 _ ?side1 ?side2 A23.out).mono ?_); (case side1 => repeat (first | exact (Kd.C_below HR0.out HB.out) | (with_reducible refine Kd.C_alloc ?_ _) | (with_reducible refine Kd.C_drewN ?_ _) | (with_reducible refine Kd.C_drew ?_))); (case side2 => exact HC0.out); rintro e w44 ⟨v314, rfl, ho0, hb⟩; refine ⟨_, rfl, ?_⟩; have n0_ := Aside0.mk (Kd.R_elder' (by (with_reducible repeat (first | apply Kd.R_alloc | apply Kd.R_drewN | apply Kd.R_drew)); exact HO294.out) (Kd.R_base ho0) hb); have n1_ := Aside0.mk (Kd.R_elder' (by (with_reducible repeat (first | apply Kd.R_alloc | apply Kd.R_drewN | apply Kd.R_drew)); exact HO300.out) (Kd.R_base ho0) hb); have n2_ := Aside0.mk (Kd.R_below (by (with_reducible repeat (first | apply Kd.R_alloc | apply Kd.R_drewN | apply Kd.R_drew)); exact HO304.out) hb); have n3_ := Aside0.mk (Kd.R_elder' (by (with_reducible repeat (first | apply Kd.R_alloc | apply Kd.R_drewN | apply Kd.R_drew)); exact HO307.out) (Kd.R_base ho0) hb); have n4_ := Aside0.mk (Kd.R_below (by (with_reducible repeat (first | apply Kd.R_alloc | apply Kd.R_drewN | apply Kd.R_drew)); exact HO310.out) hb); have n5_ := Aside0.mk (Kd.R_lower (Kd.R_new' (Kd.R_new' (Kd.R_new' ho0 (Kd.R_lt (by (with_reducible repeat (first | apply Kd.R_alloc | apply Kd.R_drewN | apply Kd.R_drew)); exact HO294.out))) (Kd.R_lt (by (with_reducible repeat (first | apply Kd.R_alloc | apply Kd.R_drewN | apply Kd.R_drew)); exact HO300.out))) (Kd.R_lt (by (with_reducible repeat (first | apply Kd.R_alloc | apply Kd.R_drewN | apply Kd.R_drew)); exact HO307.out))) (below_size (by repeat (first | (with_reducible first | exact HB.out | apply below_alloc | apply pw_below_drewN | apply below_drew1) | exact HB.out)))); have n6_ := Aside0.mk (below_step (by repeat (first | (with_reducible first | exact HB.out | apply below_alloc | apply pw_below_drewN | apply below_drew1) | exact HB.out)) hb); clear HO294; clear HO300; clear HO304; clear HO307; clear HO310; clear HB; have HO294 := n0_; have HO300 := n1_; have HO304 := n2_; have HO307 := n3_; have HO310 := n4_; have HO315 := n5_; have HB := n6_; clear n0_ n1_ n2_ n3_ n4_ n5_ n6_; (try clear hb); (try clear hb2); (try clear hk); (try clear hi); (try clear ho0); obtain ⟨Ao45, co45, eo45⟩ := Kd.R_slice HO315.out; subst eo45) | ((with_reducible refine gate_callee (f := 34) rfl ?_); refine goesG_ (some 59) rfl Try.func34 (by kernel_rfl) rfl #[.slice Ao45 t313.length co45] rfl (by first | rfl | (go_simp; done) | (simp [Region.wanted, yielded]; done)) (by (try simp only [List.map_toArray, List.map_cons, List.map_nil]); first | done | rfl | (simp only [List.length_drop, List.length_take]; rfl)) ?_; (with_reducible refine (handshakerref07_Deep.calls kj3 _ _ t313 t316 _ ?side1 ?side2 A24.out).mono ?_); (case side1 => repeat (first | exact (Kd.R_reads' HO315.out).2.2 | (with_reducible refine Kd.C_alloc ?_ _) | (with_reducible refine Kd.C_drewN ?_ _) | (with_reducible refine Kd.C_drew ?_))); (case side2 => exact (Kd.R_reads' HO315.out).2.1); rintro e w46 ⟨rfl, hb⟩; refine ⟨_, rfl, ?_⟩; have n0_ := Aside0.mk (Kd.R_below (by (with_reducible repeat (first | apply Kd.R_alloc | apply Kd.R_drewN | apply Kd.R_drew)); exact HO294.out) hb); have n1_ := Aside0.mk (Kd.R_below (by (with_reducible repeat (first | apply Kd.R_alloc | apply Kd.R_drewN | apply Kd.R_drew)); exact HO300.out) hb); have n2_ := Aside0.mk (Kd.R_below (by (with_reducible repeat (first | apply Kd.R_alloc | apply Kd.R_drewN | apply Kd.R_drew)); exact HO304.out) hb); have n3_ := Aside0.mk (Kd.R_below (by (with_reducible repeat (first | apply Kd.R_alloc | apply Kd.R_drewN | apply Kd.R_drew)); exact HO307.out) hb); have n4_ := Aside0.mk (Kd.R_below (by (with_reducible repeat (first | apply Kd.R_alloc | apply Kd.R_drewN | apply Kd.R_drew)); exact HO310.out) hb); have n5_ := Aside0.mk (Kd.R_below (by (with_reducible repeat (first | apply Kd.R_alloc | apply Kd.R_drewN | apply Kd.R_drew)); exact HO315.out) hb); have n6_ := Aside0.mk (below_step (by repeat (first | (with_reducible first | exact HB.out | apply below_alloc | apply pw_below_drewN | apply below_drew1) | exact HB.out)) hb); clear HO294; clear HO300; clear HO304; clear HO307; clear HO310; clear HO315; clear HB; have HO294 := n0_; have HO300 := n1_; have HO304 := n2_; have HO307 := n3_; have HO310 := n4_; have HO315 := n5_; have HB := n6_; clear n0_ n1_ n2_ n3_ n4_ n5_ n6_; (try clear hb); (try clear hb2); (try clear hk); (try clear hi)) | ((with_reducible refine gate_callee (f := 27) rfl ?_); refine goesG_ (some 73) rfl Try.func27 (by kernel_rfl) rfl #[] rfl (by first | rfl | (go_simp; done) | (simp [Region.wanted, yielded]; done)) (by (try simp only [List.map_toArray, List.map_cons, List.map_nil]); first | done | rfl | (simp only [List.length_drop, List.length_take]; rfl)) ?_; (with_reducible refine (handshakerlaw07_awake.calls kj3  t317 _ A28.out).mono ?_); rintro e w47 ⟨rfl, hb⟩; refine ⟨_, rfl, ?_⟩; have n0_ := Aside0.mk (Kd.R_below (by (with_reducible repeat (first | apply Kd.R_alloc | apply Kd.R_drewN | apply Kd.R_drew)); exact HO294.out) hb); have n1_ := Aside0.mk (Kd.R_below (by (with_reducible repeat (first | apply Kd.R_alloc | apply Kd.R_drewN | apply Kd.R_drew)); exact HO300.out) hb); have n2_ := Aside0.mk (Kd.R_below (by (with_reducible repeat (first | apply Kd.R_alloc | apply Kd.R_drewN | apply Kd.R_drew)); exact HO304.out) hb); have n3_ := Aside0.mk (Kd.R_below (by (with_reducible repeat (first | apply Kd.R_alloc | apply Kd.R_drewN | apply Kd.R_drew)); exact HO307.out) hb); have n4_ := Aside0.mk (Kd.R_below (by (with_reducible repeat (first | apply Kd.R_alloc | apply Kd.R_drewN | apply Kd.R_drew)); exact HO310.out) hb); have n5_ := Aside0.mk (Kd.R_below (by (with_reducible repeat (first | apply Kd.R_alloc | apply Kd.R_drewN | apply Kd.R_drew)); exact HO315.out) hb); have n6_ := Aside0.mk (below_step (by repeat (first | (with_reducible first | exact HB.out | apply below_alloc | apply pw_below_drewN | apply below_drew1) | exact HB.out)) hb); clear HO294; clear HO300; clear HO304; clear HO307; clear HO310; clear HO315; clear HB; have HO294 := n0_; have HO300 := n1_; have HO304 := n2_; have HO307 := n3_; have HO310 := n4_; have HO315 := n5_; have HB := n6_; clear n0_ n1_ n2_ n3_ n4_ n5_ n6_; (try clear hb); (try clear hb2); (try clear hk); (try clear hi)))
                  go_ret
                  exact ⟨by first | rfl | (simp [errW_none, errW_some] <;> rfl) | (simp [*, errW_none, errW_some] <;> rfl), by repeat (first | (with_reducible first | exact HB.out | apply below_alloc | apply pw_below_drewN | apply below_drew1) | exact HB.out)⟩
                · rw [if_neg c27] at H
                  have c27b0 : (t291 == t296) = false := beq_eq_false_iff_ne.mpr c27
                  have c27b1 : (t291 != t296) = true := bne_iff_ne.mpr c27
                  exact absurd (Option.some.inj H) (by rw [HT.out]; decide)
              · rw [if_neg c26] at H
                have c26b0 : (t290 == t295) = false := beq_eq_false_iff_ne.mpr c26
                have c26b1 : (t290 != t295) = true := bne_iff_ne.mpr c26
                exact absurd (Option.some.inj H) (by rw [HT.out]; decide)
            · rw [if_neg c25] at H
              have c25b0 : (t312 == t316) = false := beq_eq_false_iff_ne.mpr c25
              have c25b1 : (t312 != t316) = true := bne_iff_ne.mpr c25
              exact absurd (Option.some.inj H) (by rw [HT.out]; decide)
          · replace c21 := Bool.eq_false_iff.mpr c21
            subst c21
            have H1 : (some false) = some r := by rw [if_neg (show ¬ (false = true) by decide)] at H; exact H
            clear H
            have H := H1
            clear H1
            exact absurd (Option.some.inj H) (by rw [HT.out]; decide)
        · rw [if_neg c16] at H
          have c16b0 : (t297 == t301) = false := beq_eq_false_iff_ne.mpr c16
          have c16b1 : (t297 != t301) = true := bne_iff_ne.mpr c16
          exact absurd (Option.some.inj H) (by rw [HT.out]; decide)

/-- THE ONE PURE STATEMENT of handshakerlaw07_TermTells. -/
def handshakerlaw07_TermTells.Pure : Prop := ∀ (l0 : List (S41)) (l1 : List (S58)) (l2 : List Int), l0.length ≤ maxLen → l0.length * 16 ≤ 140737488351232 → (∀ y ∈ l0, wfS41 y) → l1.length ≤ maxLen → l1.length * 16 ≤ 140737488351232 → (∀ y ∈ l1, wfS58 y) → l2.length ≤ maxLen → l2.length * 8 ≤ 140737488351232 → (∀ y ∈ l2, (Lit.int .i64 y).wf = true) → ∃ k, handshakerlaw07_TermTells.f k l0 l1 l2 = some true

end Go.Proofs.Ytbcpnbmegaodbaa.Tc
