-- PRINTED by print.py (a twelfth state) out of the translation. Not trusted: Lean checks it.
import Derived.Test.YtbcpnbmegaodbaaTcx0
import Derived.Test.YtbcpnbmegaodbaaTcx2
import Derived.Test.YtbcpnbmegaodbaaTcx3
import Derived.Test.YtbcpnbmegaodbaaTcx6
namespace Go.Proofs.Ytbcpnbmegaodbaa.Tc
open Go.Proofs.Ytbcpnbmegaodbaa.Ho
open Go.RowKit Go.Proofs.YtbcpnbmegaodbaaW.PrintWords Go.Proofs.YtbcpnbmegaodbaaW.PrintLast Go.Proofs.YtbcpnbmegaodbaaW.PrintMore
attribute [local go_sem] max2_int min2_int max_two min_two max_three min_three max_four min_four   -- for this text's walks alone
set_option linter.unusedVariables false
set_option linter.unusedSimpArgs false

/-! ### handshakerlaw07_TermNames: function 10 -/
mutual
def handshakerlaw07_TermNames.j0 : Nat → List (S41) → List (S58) → List Int → Int → Int → Bool → Option (Bool)
  | 0, _, _, _, _, _, _ => none
  | k + 1, x0, x1, x2, x3, x4, x36 => if x36 = true then ((handshakerlaw07_awake.f k).bind fun t318 => (some t318)) else (if (x1.length : Int) = 0 then (none) else ((term_Cells.f k x0).bind fun t319 => (handshakerlaw07_TermNames.l0 k x0 x1 x2 x4 (Int.tmod (wrap64 (x3)) (x1.length : Int)) t319 (t319.length : Int) 0)))
def handshakerlaw07_TermNames.l0 : Nat → List (S41) → List (S58) → List Int → Int → Int → List Int → Int → Int → Option (Bool)
  | 0, _, _, _, _, _, _, _, _ => none
  | k + 1, x0, x1, x2, x4, x11, x44, x45, x46 => if x46 < x45 then (if 0 ≤ x46 then (if x46 < (x44.length : Int) then (if (rd x44 x46) = x11 then ((handshakerlaw07_awake.f k).bind fun t323 => (some t323)) else (handshakerlaw07_TermNames.l0 k x0 x1 x2 x4 x11 x44 x45 (wrap64 (x46 + 1)))) else (none)) else (none)) else ((term_Eval.f k x0 x1 x2).bind fun bt324 => ((some (([] : List (S58)) : List (S58))).bind fun y326 => (if y326.length + x1.length < 8796093022208 then ((some (y326 ++ x1 : List (S58))).bind fun y329 => (if 0 ≤ x11 then (if x11 < (y329.length : Int) then ((term_Eval.f k x0 (y329.set (x11 : Int).toNat (⟨true, wrap64 (x4)⟩ : S58)) x2).bind fun bt333 => (if bt324.2 = 1 then ((handshakerlaw07_awake.f k).bind fun t335 => (some t335)) else (if bt324.1 = bt333.1 then (if bt324.2 = bt333.2 then ((handshakerlaw07_awake.f k).bind fun t336 => (some t336)) else (some false)) else (some false)))) else (none)) else (none))) else (none))))
end
def handshakerlaw07_TermNames.f (k : Nat) (l0 : List (S41)) (l1 : List (S58)) (l2 : List Int) (a3 : Int) (a4 : Int) : Option (Bool) := if (l0.length : Int) > 12 then (handshakerlaw07_TermNames.j0 k l0 l1 l2 a3 a4 true) else (if (l1.length : Int) > 64 then (handshakerlaw07_TermNames.j0 k l0 l1 l2 a3 a4 true) else (if (l1.length : Int) = 0 then (handshakerlaw07_TermNames.j0 k l0 l1 l2 a3 a4 true) else (handshakerlaw07_TermNames.j0 k l0 l1 l2 a3 a4 (decide ((l2.length : Int) > 20)))))
theorem handshakerlaw07_TermNames.mono_l : ∀ k, (∀ y0 y1 y2 y3 y4 y5, LeO (handshakerlaw07_TermNames.j0 k y0 y1 y2 y3 y4 y5) (handshakerlaw07_TermNames.j0 (k + 1) y0 y1 y2 y3 y4 y5)) ∧ (∀ y0 y1 y2 y3 y4 y5 y6 y7, LeO (handshakerlaw07_TermNames.l0 k y0 y1 y2 y3 y4 y5 y6 y7) (handshakerlaw07_TermNames.l0 (k + 1) y0 y1 y2 y3 y4 y5 y6 y7))
  | 0 => ⟨fun _ _ _ _ _ _ r h => by simp [handshakerlaw07_TermNames.j0] at h, fun _ _ _ _ _ _ _ _ r h => by simp [handshakerlaw07_TermNames.l0] at h⟩
  | k + 1 => by
    obtain ⟨ih0, ih1⟩ := handshakerlaw07_TermNames.mono_l k
    refine ⟨?_, ?_⟩
    · intro y0 y1 y2 y3 y4 y5
      unfold handshakerlaw07_TermNames.j0
      repeat' first
      | (with_reducible exact ih0 _ _ _ _ _ _)
      | (with_reducible exact ih1 _ _ _ _ _ _ _ _)
      | (with_reducible exact handshakerlaw07_awake.mono _)
      | (with_reducible exact term_Cells.mono _ _)
      | (with_reducible exact term_Eval.mono _ _ _ _)
      | (with_reducible exact LeO.refl _)
      | (with_reducible exact LeO.none _)
      | (with_reducible refine LeO.ite ?_ ?_)
      | (with_reducible refine LeO.bind ?_ (fun _ => ?_))
      | exact ih0 _ _ _ _ _ _
      | exact ih1 _ _ _ _ _ _ _ _
      | exact handshakerlaw07_awake.mono _
      | exact term_Cells.mono _ _
      | exact term_Eval.mono _ _ _ _
      | exact LeO.none _
      | refine LeO.ite ?_ ?_
      | refine LeO.bind ?_ (fun _ => ?_)
    · intro y0 y1 y2 y3 y4 y5 y6 y7
      unfold handshakerlaw07_TermNames.l0
      repeat' first
      | (with_reducible exact ih0 _ _ _ _ _ _)
      | (with_reducible exact ih1 _ _ _ _ _ _ _ _)
      | (with_reducible exact handshakerlaw07_awake.mono _)
      | (with_reducible exact term_Cells.mono _ _)
      | (with_reducible exact term_Eval.mono _ _ _ _)
      | (with_reducible exact LeO.refl _)
      | (with_reducible exact LeO.none _)
      | (with_reducible refine LeO.ite ?_ ?_)
      | (with_reducible refine LeO.bind ?_ (fun _ => ?_))
      | exact ih0 _ _ _ _ _ _
      | exact ih1 _ _ _ _ _ _ _ _
      | exact handshakerlaw07_awake.mono _
      | exact term_Cells.mono _ _
      | exact term_Eval.mono _ _ _ _
      | exact LeO.none _
      | refine LeO.ite ?_ ?_
      | refine LeO.bind ?_ (fun _ => ?_)
theorem handshakerlaw07_TermNames.mono : ∀ a0 a1 a2 a3 a4 k, LeO (handshakerlaw07_TermNames.f k a0 a1 a2 a3 a4) (handshakerlaw07_TermNames.f (k + 1) a0 a1 a2 a3 a4) := by
  intro a0 a1 a2 a3 a4 k
  obtain ⟨ih0, ih1⟩ := handshakerlaw07_TermNames.mono_l k
  unfold handshakerlaw07_TermNames.f
  repeat' first
      | (with_reducible exact ih0 _ _ _ _ _ _)
      | (with_reducible exact ih1 _ _ _ _ _ _ _ _)
      | (with_reducible exact handshakerlaw07_awake.mono _)
      | (with_reducible exact term_Cells.mono _ _)
      | (with_reducible exact term_Eval.mono _ _ _ _)
      | (with_reducible exact LeO.refl _)
      | (with_reducible exact LeO.none _)
      | (with_reducible refine LeO.ite ?_ ?_)
      | (with_reducible refine LeO.bind ?_ (fun _ => ?_))
      | exact ih0 _ _ _ _ _ _
      | exact ih1 _ _ _ _ _ _ _ _
      | exact handshakerlaw07_awake.mono _
      | exact term_Cells.mono _ _
      | exact term_Eval.mono _ _ _ _
      | exact LeO.none _
      | refine LeO.ite ?_ ?_
      | refine LeO.bind ?_ (fun _ => ?_)
set_option maxHeartbeats 8000000 in
set_option maxRecDepth 100000 in
theorem handshakerlaw07_TermNames.calls (k : Nat) (A0 : Option Addr) (c0 : Nat) (l0 : List (S41)) (A1 : Option Addr) (c1 : Nat) (l1 : List (S58)) (A2 : Option Addr) (c2 : Nat) (l2 : List Int) (a3 : Int) (a4 : Int) (r : Bool) (w : World) (HT : Aside0 (r = true)) (hr0 : Kd.C k41 w A0 l0.length l0) (hc0 : l0.length ≤ c0) (hr1 : Kd.C k58 w A1 l1.length l1) (hc1 : l1.length ≤ c1) (hr2 : Kd.C (Kd.int .i64) w A2 l2.length l2) (hc2 : l2.length ≤ c2) (h : handshakerlaw07_TermNames.f k l0 l1 l2 a3 a4 = some r) :
    Calls Try.prog 10 #[.slice A0 l0.length c0, .slice A1 l1.length c1, .slice A2 l2.length c2, .int .u8 a3, .int .i32 a4] w fun e w' => e = .returned (.bool r) ∧ Below w.heap.size w w' := by
  have hu58 := Try.underlying58
  have HR0 := Aside0.mk hr0
  have HC0 := Aside0.mk hc0
  clear hr0 hc0
  have HR1 := Aside0.mk hr1
  have HC1 := Aside0.mk hc1
  clear hr1 hc1
  have HR2 := Aside0.mk hr2
  have HC2 := Aside0.mk hc2
  clear hr2 hc2
  have HB := Aside0.mk (Below.refl w.heap.size w)
  have H : (if (l0.length : Int) > 12 then (handshakerlaw07_TermNames.j0 k l0 l1 l2 a3 a4 true) else (if (l1.length : Int) > 64 then (handshakerlaw07_TermNames.j0 k l0 l1 l2 a3 a4 true) else (if (l1.length : Int) = 0 then (handshakerlaw07_TermNames.j0 k l0 l1 l2 a3 a4 true) else (handshakerlaw07_TermNames.j0 k l0 l1 l2 a3 a4 (decide ((l2.length : Int) > 20)))))) = some r := h
  clear h
  have HC6 := Aside0.mk H
  clear H
  go_enter Try.func10, Try.ntmps10
  go_upto_region 1 with (fail)
  go_cut [36] (fun v36 wc => ∃ (kq : Nat) (x36_5 : Bool), v36 = .bool x36_5 ∧ Aside0 (handshakerlaw07_TermNames.j0 kq l0 l1 l2 a3 a4 x36_5 = some r) ∧ Aside0 (kq ≤ k) ∧ Aside0 (Below w.heap.size w wc))
  case first =>
    have H := HC6.out
    clear HC6
    by_cases c7 : (l0.length : Int) > 12
    · rw [if_pos c7] at H
      have c7b0 : decide (12 < (l0.length : Int)) = true := decide_eq_true c7
      have c7b1 : decide (12 < l0.length) = true := decide_eq_true (by omega)
      clear c7
      (first | rw [c7b0] | (simp only [i64_w, i32_w]; rw [c7b0]) | skip)
      have H' := Aside0.mk H
      clear H
      go_wp2
      go_meet
      case rel => exact ⟨_, (true), (by first | rfl | (simp; done) | (simp [*]; done)), H', ⟨by first | omega | exact Nat.le_refl _⟩, ⟨by repeat (first | (with_reducible first | exact HB.out | apply below_alloc | apply pw_below_drewN | apply below_drew1) | exact HB.out)⟩⟩
    · rw [if_neg c7] at H
      have c7b0 : decide (12 < (l0.length : Int)) = false := decide_eq_false c7
      have c7b1 : decide (12 < l0.length) = false := decide_eq_false (by omega)
      clear c7
      (first | rw [c7b0] | (simp only [i64_w, i32_w]; rw [c7b0]) | skip)
      by_cases c8 : (l1.length : Int) > 64
      · rw [if_pos c8] at H
        have c8b0 : decide (64 < (l1.length : Int)) = true := decide_eq_true c8
        have c8b1 : decide (64 < l1.length) = true := decide_eq_true (by omega)
        clear c8
        have H' := Aside0.mk H
        clear H
        go_wp2
        go_meet
        case rel => exact ⟨_, (true), (by first | rfl | (simp; done) | (simp [*]; done)), H', ⟨by first | omega | exact Nat.le_refl _⟩, ⟨by repeat (first | (with_reducible first | exact HB.out | apply below_alloc | apply pw_below_drewN | apply below_drew1) | exact HB.out)⟩⟩
      · rw [if_neg c8] at H
        have c8b0 : decide (64 < (l1.length : Int)) = false := decide_eq_false c8
        have c8b1 : decide (64 < l1.length) = false := decide_eq_false (by omega)
        clear c8
        by_cases c9 : (l1.length : Int) = 0
        · rw [if_pos c9] at H
          have c9b0 : ((l1.length : Int) == 0) = true := beq_iff_eq.mpr c9
          have c9b1 : ((l1.length : Int) != 0) = false := bne_eq_false_iff_eq.mpr c9
          clear c9
          have H' := Aside0.mk H
          clear H
          go_wp2
          go_meet
          case rel => exact ⟨_, (true), (by first | rfl | (simp; done) | (simp [*]; done)), H', ⟨by first | omega | exact Nat.le_refl _⟩, ⟨by repeat (first | (with_reducible first | exact HB.out | apply below_alloc | apply pw_below_drewN | apply below_drew1) | exact HB.out)⟩⟩
        · rw [if_neg c9] at H
          have c9b0 : ((l1.length : Int) == 0) = false := beq_eq_false_iff_ne.mpr c9
          have c9b1 : ((l1.length : Int) != 0) = true := bne_iff_ne.mpr c9
          have c9b2 : ¬ (l1 = []) := fun h_ => c9 (by rw [h_]; rfl)
          have H' := Aside0.mk H
          clear H
          go_wp2
          go_meet
          case rel => exact ⟨_, (decide ((l2.length : Int) > 20)), (by first | rfl | (simp; done) | (simp [*]; done)), H', ⟨by first | omega | exact Nat.le_refl _⟩, ⟨by repeat (first | (with_reducible first | exact HB.out | apply below_alloc | apply pw_below_drewN | apply below_drew1) | exact HB.out)⟩⟩
  case rest =>
    clear HC6
    try clear c1
    try clear c2
    try clear p2
    try clear c7
    try clear c7b0
    try clear c7b1
    try clear c8
    try clear c8b0
    try clear c8b1
    try clear c9
    try clear c9b0
    try clear c9b1
    try clear c9b2
    obtain ⟨kq, x36_5, rfl, HA, HJ5, HB⟩ := hcut
    cases kq with
    | zero => exact absurd HA.out (by simp [handshakerlaw07_TermNames.j0])
    | succ kj5 =>
      have H := HA.out
      clear HA
      simp only [handshakerlaw07_TermNames.j0] at H
      by_cases c10 : x36_5 = true
      · subst c10
        have H1 : ((handshakerlaw07_awake.f kj5).bind fun t318 => (some t318)) = some r := by rw [if_pos rfl] at H; exact H
        clear H
        have H := H1
        clear H1
        replace H := Option.bind_eq_some_iff.mp H
        obtain ⟨t318, A110, H⟩ := H
        replace H : (some t318) = some r := H
        have A11 := Aside0.mk A110
        clear A110
        obtain rfl := Option.some.inj H
        go_wp2_with (first | ((with_reducible refine gate_callee (f := 27) rfl ?_); refine goesL_ (some 37) rfl rfl Try.func27 (by kernel_rfl) rfl #[] rfl (by (try simp only [List.map_toArray, List.map_cons, List.map_nil]); first | done | rfl | (simp only [List.length_drop, List.length_take]; rfl)) ?_; (with_reducible refine (handshakerlaw07_awake.calls kj5  t318 _ A11.out).mono ?_); rintro e w12 ⟨rfl, hb⟩; refine ⟨_, rfl, ?_⟩; have n0_ := Aside0.mk (below_step (by repeat (first | (with_reducible first | exact HB.out | apply below_alloc | apply pw_below_drewN | apply below_drew1) | exact HB.out)) hb); clear HB; have HB := n0_; clear n0_; (try clear hb); (try clear hb2); (try clear hk); (try clear hi)))
        go_ret
        exact ⟨by first | rfl | (simp [errW_none, errW_some] <;> rfl) | (simp [*, errW_none, errW_some] <;> rfl), by repeat (first | (with_reducible first | exact HB.out | apply below_alloc | apply pw_below_drewN | apply below_drew1) | exact HB.out)⟩
      · replace c10 := Bool.eq_false_iff.mpr c10
        subst c10
        have H1 : (if (l1.length : Int) = 0 then (none) else ((term_Cells.f kj5 l0).bind fun t319 => (handshakerlaw07_TermNames.l0 kj5 l0 l1 l2 a4 (Int.tmod (wrap64 (a3)) (l1.length : Int)) t319 (t319.length : Int) 0))) = some r := by rw [if_neg (show ¬ (false = true) by decide)] at H; exact H
        clear H
        have H := H1
        clear H1
        by_cases c13 : (l1.length : Int) = 0
        · rw [if_pos c13] at H
          exact absurd H (by simp)
        · rw [if_neg c13] at H
          have c13b0 : ((l1.length : Int) == 0) = false := beq_eq_false_iff_ne.mpr c13
          have c13b1 : ((l1.length : Int) != 0) = true := bne_iff_ne.mpr c13
          have c13b2 : ¬ (l1 = []) := fun h_ => c13 (by rw [h_]; rfl)
          replace H := Option.bind_eq_some_iff.mp H
          obtain ⟨t319, A140, H⟩ := H
          replace H : (handshakerlaw07_TermNames.l0 kj5 l0 l1 l2 a4 (Int.tmod (wrap64 (a3)) (l1.length : Int)) t319 (t319.length : Int) 0) = some r := H
          have A14 := Aside0.mk A140
          clear A140
          have H' := Aside0.mk H
          clear H
          go_wp2_with (first | ((with_reducible refine gate_callee (f := 26) rfl ?_); refine goesL_ (some 44) rfl rfl Try.func26 (by kernel_rfl) rfl #[.slice A0 l0.length c0] rfl (by (try simp only [List.map_toArray, List.map_cons, List.map_nil]); first | done | rfl | (simp only [List.length_drop, List.length_take]; rfl)) ?_; (with_reducible refine (term_Cells.calls kj5 _ _ l0 t319 _ ?side1 ?side2 A14.out).mono ?_); (case side1 => repeat (first | exact (Kd.C_below HR0.out HB.out) | (with_reducible refine Kd.C_alloc ?_ _) | (with_reducible refine Kd.C_drewN ?_ _) | (with_reducible refine Kd.C_drew ?_))); (case side2 => exact HC0.out); rintro e w15 ⟨v320, rfl, ho0, hb⟩; refine ⟨_, rfl, ?_⟩; have n0_ := Aside0.mk (Kd.R_lower ho0 (below_size (by repeat (first | (with_reducible first | exact HB.out | apply below_alloc | apply pw_below_drewN | apply below_drew1) | exact HB.out)))); have n1_ := Aside0.mk (below_step (by repeat (first | (with_reducible first | exact HB.out | apply below_alloc | apply pw_below_drewN | apply below_drew1) | exact HB.out)) hb); clear HB; have HO321 := n0_; have HB := n1_; clear n0_ n1_; (try clear hb); (try clear hb2); (try clear hk); (try clear hi); (try clear ho0); obtain ⟨Ao16, co16, eo16⟩ := Kd.R_slice HO321.out; subst eo16))
          go_loopg [46] kj5 (fun kq v46 w' => ∃ (x46_2 : Int), v46 = .int .i64 x46_2 ∧ Aside0 (handshakerlaw07_TermNames.l0 kq l0 l1 l2 a4 (Int.tmod (wrap64 (a3)) (l1.length : Int)) t319 (t319.length : Int) x46_2 = some r) ∧ Aside0 (kq ≤ kj5) ∧ Aside0 (Kd.R (Kd.int .i64) 3 w' w.heap.size (fun _ => True) (.slice Ao16 t319.length co16) t319) ∧ Aside0 (Below w.heap.size w w'))
          case atStart => exact ⟨(0), (by first | rfl | (simp; done) | (simp [*]; done)), H', ⟨Nat.le_refl _⟩, ⟨by (with_reducible repeat (first | apply Kd.R_alloc | apply Kd.R_drewN | apply Kd.R_drew)); exact HO321.out⟩, ⟨by repeat (first | (with_reducible first | exact HB.out | apply below_alloc | apply pw_below_drewN | apply below_drew1) | exact HB.out)⟩⟩
          case round =>
            clear H'
            try clear c1
            try clear c2
            try clear p2
            try clear p6
            try clear c7
            try clear c7b0
            try clear c7b1
            try clear c8
            try clear c8b0
            try clear c8b1
            try clear c9
            try clear c9b0
            try clear c9b1
            try clear c9b2
            try clear c10
            try clear c13
            try clear c13b0
            try clear c13b1
            try clear c13b2
            try clear p2
            obtain ⟨x46_2, rfl, HA, HK2, HO_44, HB⟩ := hrel
            cases gk with
            | zero => exact absurd HA.out (by simp [handshakerlaw07_TermNames.l0])
            | succ k2 =>
              have H := HA.out
              clear HA
              simp only [handshakerlaw07_TermNames.l0] at H
              by_cases c17 : x46_2 < (t319.length : Int)
              · rw [if_pos c17] at H
                have c17b0 : decide (x46_2 < (t319.length : Int)) = true := decide_eq_true c17
                clear c17
                by_cases c18 : 0 ≤ x46_2
                · rw [if_pos c18] at H
                  have c18b0 : decide (0 ≤ x46_2) = true := decide_eq_true c18
                  clear c18
                  by_cases c19 : x46_2 < (t319.length : Int)
                  · rw [if_pos c19] at H
                    have c19b0 : decide (x46_2 < (t319.length : Int)) = true := decide_eq_true c19
                    clear c19
                    by_cases c20 : (rd t319 x46_2) = (Int.tmod (wrap64 (a3)) (l1.length : Int))
                    · rw [if_pos c20] at H
                      have c20b0 : ((rd t319 x46_2) == (Int.tmod (wrap64 (a3)) (l1.length : Int))) = true := beq_iff_eq.mpr c20
                      have c20b1 : ((rd t319 x46_2) != (Int.tmod (wrap64 (a3)) (l1.length : Int))) = false := bne_eq_false_iff_eq.mpr c20
                      clear c20
                      replace H := Option.bind_eq_some_iff.mp H
                      obtain ⟨t323, A210, H⟩ := H
                      replace H : (some t323) = some r := H
                      have A21 := Aside0.mk A210
                      clear A210
                      obtain rfl := Option.some.inj H
                      have p322 : 0 ≤ (x46_2 : Int) := of_decide_eq_true (by first | (with_reducible assumption) | assumption)
                      have q322 : x46_2 < (t319.length : Int) := of_decide_eq_true (by first | (with_reducible assumption) | assumption)
                      obtain ⟨ad322, e322, hx322_0⟩ := Kd.at_int (Kd.R_reads' HO_44.out).2.2 x46_2 p322 q322
                      cases e322
                      replace p322 := eq_true p322
                      replace q322 := eq_true q322
                      go_wp2_with (first | ((with_reducible refine gate_callee (f := 27) rfl ?_); refine goesL_ (some 53) rfl rfl Try.func27 (by kernel_rfl) rfl #[] rfl (by (try simp only [List.map_toArray, List.map_cons, List.map_nil]); first | done | rfl | (simp only [List.length_drop, List.length_take]; rfl)) ?_; (with_reducible refine (handshakerlaw07_awake.calls k2  t323 _ A21.out).mono ?_); rintro e w22 ⟨rfl, hb⟩; refine ⟨_, rfl, ?_⟩; have n0_ := Aside0.mk (Kd.R_below (by (with_reducible repeat (first | apply Kd.R_alloc | apply Kd.R_drewN | apply Kd.R_drew)); exact HO_44.out) hb); have n1_ := Aside0.mk (below_step (by repeat (first | (with_reducible first | exact HB.out | apply below_alloc | apply pw_below_drewN | apply below_drew1) | exact HB.out)) hb); clear HO_44; clear HB; have HO_44 := n0_; have HB := n1_; clear n0_ n1_; (try clear hb); (try clear hb2); (try clear hk); (try clear hi)))
                      go_ret
                      exact ⟨by first | rfl | (simp [errW_none, errW_some] <;> rfl) | (simp [*, errW_none, errW_some] <;> rfl), by repeat (first | (with_reducible first | exact HB.out | apply below_alloc | apply pw_below_drewN | apply below_drew1) | exact HB.out)⟩
                    · rw [if_neg c20] at H
                      have c20b0 : ((rd t319 x46_2) == (Int.tmod (wrap64 (a3)) (l1.length : Int))) = false := beq_eq_false_iff_ne.mpr c20
                      have c20b1 : ((rd t319 x46_2) != (Int.tmod (wrap64 (a3)) (l1.length : Int))) = true := bne_iff_ne.mpr c20
                      have H' := Aside0.mk H
                      clear H
                      have p322 : 0 ≤ (x46_2 : Int) := of_decide_eq_true (by first | (with_reducible assumption) | assumption)
                      have q322 : x46_2 < (t319.length : Int) := of_decide_eq_true (by first | (with_reducible assumption) | assumption)
                      obtain ⟨ad322, e322, hx322_0⟩ := Kd.at_int (Kd.R_reads' HO_44.out).2.2 x46_2 p322 q322
                      cases e322
                      replace p322 := eq_true p322
                      replace q322 := eq_true q322
                      go_wp2
                      go_roundg k2
                      case measure => have := HJ5.out; have := HK2.out; omega
                      case rel => exact ⟨(wrap64 (x46_2 + 1)), (by first | rfl | (simp; done) | (simp [*]; done)), H', ⟨by have := HJ5.out; have := HK2.out; omega⟩, ⟨by (with_reducible repeat (first | apply Kd.R_alloc | apply Kd.R_drewN | apply Kd.R_drew)); exact HO_44.out⟩, ⟨by repeat (first | (with_reducible first | exact HB.out | apply below_alloc | apply pw_below_drewN | apply below_drew1) | exact HB.out)⟩⟩
                  · rw [if_neg c19] at H
                    exact absurd H (by simp)
                · rw [if_neg c18] at H
                  exact absurd H (by simp)
              · rw [if_neg c17] at H
                have c17b0 : decide (x46_2 < (t319.length : Int)) = false := decide_eq_false c17
                clear c17
                replace H := Option.bind_eq_some_iff.mp H
                obtain ⟨⟨t324, t325⟩, A230, H⟩ := H
                replace H : ((some (([] : List (S58)) : List (S58))).bind fun y326 => (if y326.length + l1.length < 8796093022208 then ((some (y326 ++ l1 : List (S58))).bind fun y329 => (if 0 ≤ (Int.tmod (wrap64 (a3)) (l1.length : Int)) then (if (Int.tmod (wrap64 (a3)) (l1.length : Int)) < (y329.length : Int) then ((term_Eval.f k2 l0 (y329.set ((Int.tmod (wrap64 (a3)) (l1.length : Int)) : Int).toNat (⟨true, wrap64 (a4)⟩ : S58)) l2).bind fun bt333 => (if t325 = 1 then ((handshakerlaw07_awake.f k2).bind fun t335 => (some t335)) else (if t324 = bt333.1 then (if t325 = bt333.2 then ((handshakerlaw07_awake.f k2).bind fun t336 => (some t336)) else (some false)) else (some false)))) else (none)) else (none))) else (none))) = some r := H
                have A23 := Aside0.mk A230
                clear A230
                obtain ⟨y326, hy326⟩ : ∃ y_ : List (S58), y_ = (([] : List (S58))) := ⟨_, rfl⟩
                replace H : (if y326.length + l1.length < 8796093022208 then ((some (y326 ++ l1 : List (S58))).bind fun y329 => (if 0 ≤ (Int.tmod (wrap64 (a3)) (l1.length : Int)) then (if (Int.tmod (wrap64 (a3)) (l1.length : Int)) < (y329.length : Int) then ((term_Eval.f k2 l0 (y329.set ((Int.tmod (wrap64 (a3)) (l1.length : Int)) : Int).toNat (⟨true, wrap64 (a4)⟩ : S58)) l2).bind fun bt333 => (if t325 = 1 then ((handshakerlaw07_awake.f k2).bind fun t335 => (some t335)) else (if t324 = bt333.1 then (if t325 = bt333.2 then ((handshakerlaw07_awake.f k2).bind fun t336 => (some t336)) else (some false)) else (some false)))) else (none)) else (none))) else (none)) = some r := by first | (rw [hy326]; with_reducible exact H) | (have H2_ := (Option.bind_some _ _).symm.trans H; rw [hy326]; with_reducible exact H2_) | (have H2_ := (Option.bind_some _ _).symm.trans H; with_reducible exact H2_) | with_reducible exact H | (rw [hy326]; exact H) | exact H
                have Ny326 := Aside0.mk hy326
                clear hy326
                by_cases c24 : y326.length + l1.length < 8796093022208
                · rw [if_pos c24] at H
                  have LMc24 := Aside0.mk c24
                  clear c24
                  obtain ⟨y329, hy329⟩ : ∃ y_ : List (S58), y_ = (y326 ++ l1) := ⟨_, rfl⟩
                  replace H : (if 0 ≤ (Int.tmod (wrap64 (a3)) (l1.length : Int)) then (if (Int.tmod (wrap64 (a3)) (l1.length : Int)) < (y329.length : Int) then ((term_Eval.f k2 l0 (y329.set ((Int.tmod (wrap64 (a3)) (l1.length : Int)) : Int).toNat (⟨true, wrap64 (a4)⟩ : S58)) l2).bind fun bt333 => (if t325 = 1 then ((handshakerlaw07_awake.f k2).bind fun t335 => (some t335)) else (if t324 = bt333.1 then (if t325 = bt333.2 then ((handshakerlaw07_awake.f k2).bind fun t336 => (some t336)) else (some false)) else (some false)))) else (none)) else (none)) = some r := by first | (rw [hy329]; with_reducible exact H) | (have H2_ := (Option.bind_some _ _).symm.trans H; rw [hy329]; with_reducible exact H2_) | (have H2_ := (Option.bind_some _ _).symm.trans H; with_reducible exact H2_) | with_reducible exact H | (rw [hy329]; exact H) | exact H
                  have Ny329 := Aside0.mk hy329
                  clear hy329
                  obtain ⟨ji25, hji25⟩ : ∃ j_ : Int, (Int.tmod (wrap64 (a3)) (l1.length : Int)) = j_ := ⟨_, rfl⟩
                  replace H : (if 0 ≤ (ji25) then (if (ji25) < (y329.length : Int) then ((term_Eval.f k2 l0 (y329.set ((ji25) : Int).toNat (⟨true, wrap64 (a4)⟩ : S58)) l2).bind fun bt333 => (if t325 = 1 then ((handshakerlaw07_awake.f k2).bind fun t335 => (some t335)) else (if t324 = bt333.1 then (if t325 = bt333.2 then ((handshakerlaw07_awake.f k2).bind fun t336 => (some t336)) else (some false)) else (some false)))) else (none)) else (none)) = some r := by first | (rw [hji25] at H; exact H) | (simp only [hji25] at H ⊢; exact H)
                  (try rw [hji25] at A23)
                  by_cases c26 : 0 ≤ (ji25)
                  · rw [if_pos c26] at H
                    have c26b0 : decide (0 ≤ (ji25)) = true := decide_eq_true c26
                    clear c26
                    by_cases c27 : (ji25) < (y329.length : Int)
                    · rw [if_pos c27] at H
                      have c27b0 : decide ((ji25) < (y329.length : Int)) = true := decide_eq_true c27
                      clear c27
                      obtain ⟨y332, hy332⟩ : ∃ y_ : List (S58), y_ = (y329.set ((ji25) : Int).toNat (⟨true, wrap64 (a4)⟩ : S58)) := ⟨_, rfl⟩
                      replace H : ((term_Eval.f k2 l0 y332 l2).bind fun bt333 => (if t325 = 1 then ((handshakerlaw07_awake.f k2).bind fun t335 => (some t335)) else (if t324 = bt333.1 then (if t325 = bt333.2 then ((handshakerlaw07_awake.f k2).bind fun t336 => (some t336)) else (some false)) else (some false)))) = some r := by first | (rw [hy332]; with_reducible exact H) | (have H2_ := (Option.bind_some _ _).symm.trans H; rw [hy332]; with_reducible exact H2_) | (have H2_ := (Option.bind_some _ _).symm.trans H; with_reducible exact H2_) | with_reducible exact H | (rw [hy332]; exact H) | exact H
                      have Ny332 := Aside0.mk hy332
                      clear hy332
                      replace H := Option.bind_eq_some_iff.mp H
                      obtain ⟨⟨t333, t334⟩, A290, H⟩ := H
                      replace H : (if t325 = 1 then ((handshakerlaw07_awake.f k2).bind fun t335 => (some t335)) else (if t324 = t333 then (if t325 = t334 then ((handshakerlaw07_awake.f k2).bind fun t336 => (some t336)) else (some false)) else (some false))) = some r := H
                      have A29 := Aside0.mk A290
                      clear A290
                      by_cases c30 : t325 = 1
                      · rw [if_pos c30] at H
                        have c30b0 : (t325 == 1) = true := beq_iff_eq.mpr c30
                        have c30b1 : (t325 != 1) = false := bne_eq_false_iff_eq.mpr c30
                        clear c30
                        replace H := Option.bind_eq_some_iff.mp H
                        obtain ⟨t335, A310, H⟩ := H
                        replace H : (some t335) = some r := H
                        have A31 := Aside0.mk A310
                        clear A310
                        obtain rfl := Option.some.inj H
                        go_wp2_with (first | ((with_reducible refine gate_callee (f := 28) rfl ?_); refine goesL_ (some 59) rfl rfl Try.func28 (by kernel_rfl) rfl #[.slice A0 l0.length c0, .slice A1 l1.length c1, .slice A2 l2.length c2] rfl (by (try simp only [List.map_toArray, List.map_cons, List.map_nil]); first | done | rfl | (simp only [List.length_drop, List.length_take]; rfl)) ?_; (with_reducible refine (term_Eval.calls k2 _ _ l0 _ _ l1 _ _ l2 t324 t325 _ ?side1 ?side2 ?side3 ?side4 ?side5 ?side6 A23.out).mono ?_); (case side1 => repeat (first | exact (Kd.C_below HR0.out HB.out) | (with_reducible refine Kd.C_alloc ?_ _) | (with_reducible refine Kd.C_drewN ?_ _) | (with_reducible refine Kd.C_drew ?_))); (case side2 => exact HC0.out); (case side3 => repeat (first | exact (Kd.C_below HR1.out HB.out) | (with_reducible refine Kd.C_alloc ?_ _) | (with_reducible refine Kd.C_drewN ?_ _) | (with_reducible refine Kd.C_drew ?_))); (case side4 => exact HC1.out); (case side5 => repeat (first | exact (Kd.C_below HR2.out HB.out) | (with_reducible refine Kd.C_alloc ?_ _) | (with_reducible refine Kd.C_drewN ?_ _) | (with_reducible refine Kd.C_drew ?_))); (case side6 => exact HC2.out); rintro e w32 ⟨rfl, hb⟩; refine ⟨_, rfl, ?_⟩; have n0_ := Aside0.mk (Kd.R_below (by (with_reducible repeat (first | apply Kd.R_alloc | apply Kd.R_drewN | apply Kd.R_drew)); exact HO_44.out) hb); have n1_ := Aside0.mk (below_step (by repeat (first | (with_reducible first | exact HB.out | apply below_alloc | apply pw_below_drewN | apply below_drew1) | exact HB.out)) hb); clear HO_44; clear HB; have HO_44 := n0_; have HB := n1_; clear n0_ n1_; (try clear hb); (try clear hb2); (try clear hk); (try clear hi)) | ((with_reducible refine gate_dst (N := 62) rfl ?_); (try (refine gate_guard (by rfl) ?_; dsimp only)); refine Kd.R_lit k58 _ 58 ?hg (N := 62) ?hd (xs := ([] : List (S58))) (inner := []) (ok := fun _ => True) (okp := fun _ => True) ?hr ?hp (fun _ hk => hk) trivial (Below.refl _ _) (Nat.le_refl _) (by simp) ?_; (case hd => rfl); (case hg => rfl); (case hr => first | (go_simp; done) | (go_simp; rfl)); (case hp => exact (Reps.none _ _)); intro v327 w33 ho34 hb hg_ hnew_; clear hg_ hnew_; (first | rw [← Ny326.out] at ho34 | (simp only [Int.reduceToNat] at ho34; rw [← Ny326.out] at ho34)); have n0_ := Aside0.mk (Kd.R_below (by (with_reducible repeat (first | apply Kd.R_alloc | apply Kd.R_drewN | apply Kd.R_drew)); exact HO_44.out) hb); have n1_ := Aside0.mk (Kd.R_lower ho34 (below_size (by repeat (first | (with_reducible first | exact HB.out | apply below_alloc | apply pw_below_drewN | apply below_drew1) | exact HB.out)))); have n2_ := Aside0.mk (below_step (by repeat (first | (with_reducible first | exact HB.out | apply below_alloc | apply pw_below_drewN | apply below_drew1) | exact HB.out)) hb); clear HO_44; clear HB; have HO_44 := n0_; have HO328 := n1_; have HB := n2_; clear n0_ n1_ n2_; clear hb ho34) | ((with_reducible refine gate_builtin (b := .append) (xs := #[.tmp 62, .tmp 63]) rfl ?_); (try (refine gate_guard (by rfl) ?_; dsimp only)); at_builtin; refine Kd.R_append_rows k58 (w0 := w) w.heap.size rfl (.tmp 62) (.tmp 63) 46 58 (.agg #[(.bool false), (.int .i64 0)]) 16 rfl Try.underlying46 info58 rfl (by decide) (by omega) v327 y326 l1 _ _ _ (fun _ => True) (fun _ => False) rfl rfl ?aO ?aR (fun _ _ h => h) (fun _ h => h.elim) ?aF ?aB ?aS ?aL ?_; (case aR => repeat (first | exact (Kd.C_below HR1.out HB.out) | (with_reducible refine Kd.C_alloc ?_ _) | (with_reducible refine Kd.C_drewN ?_ _) | (with_reducible refine Kd.C_drew ?_))); (case aB => exact (by repeat (first | (with_reducible first | exact HB.out | apply below_alloc | apply pw_below_drewN | apply below_drew1) | exact HB.out))); (case aF => exact (fun _ _ => trivial)); (case aO => exact (by (with_reducible repeat (first | apply Kd.R_alloc | apply Kd.R_drewN | apply Kd.R_drew)); exact HO328.out)); (case aS => exact (below_size (by repeat (first | (with_reducible first | exact HB.out | apply below_alloc | apply pw_below_drewN | apply below_drew1) | exact HB.out)))); (case aL => have := LMc24.out; omega); intro v330 w35 ho hb hg hat; rw [← Ny329.out] at ho; have n0_ := Aside0.mk (Kd.R_over' (by (with_reducible repeat (first | apply Kd.R_alloc | apply Kd.R_drewN | apply Kd.R_drew)); exact HO_44.out) (Kd.R_typed (by (with_reducible repeat (first | apply Kd.R_alloc | apply Kd.R_drewN | apply Kd.R_drew)); exact HO328.out)) (by decide) hg); have n1_ := Aside0.mk (hb); have n2_ := Aside0.mk (ho); clear HO_44; clear HB; clear HO328; have HO_44 := n0_; have HB := n1_; have HO331 := n2_; clear n0_ n1_ n2_; clear ho hb hg hat; have p28 : 0 ≤ ((ji25) : Int) := of_decide_eq_true (by first | (with_reducible assumption) | assumption); have q28 : ((ji25) : Int) < ((y329.length : Int) : Int) := of_decide_eq_true (by first | (with_reducible assumption) | assumption); obtain ⟨go28, co28, eo28, gb28, gl28, cl28, HG28⟩ := Kd.R_form HO331.out (by omega); (first | cases eo28 | (injection eo28 with ea_ en_ ec_; (first | subst ea_ | (injection ea_ with ea_; subst ea_)); subst ec_; clear en_)); have GB28 := Aside0.mk gb28; have GG28 := Aside0.mk HG28; clear gb28 gl28 HG28; obtain ⟨ce28, hcl28, hM28, hcc28, hfr28⟩ := Kd.R_elem HO331.out z58 ((ji25) : Int) p28 q28; obtain rfl := k58_openM hM28; have hx28_0 : w35.cell? ⟨go28, ((ji25) : Int).toNat * 2, none⟩ = some (.bool ((rd_T58 y329 (ji25)).f0)) := hcc28 0 _ rfl; have hx28_1 : w35.cell? ⟨go28, ((ji25) : Int).toNat * 2 + 1, none⟩ = some (.int .i64 ((rd_T58 y329 (ji25)).f1)) := hcc28 1 _ rfl; have hf28_0 : w35.frozen? ⟨go28, ((ji25) : Int).toNat * 2, none⟩ = false := hfr28 0; have hf28_1 : w35.frozen? ⟨go28, ((ji25) : Int).toNat * 2 + 1, none⟩ = false := hfr28 1; clear hcl28 hcc28 hfr28 hM28; replace p28 := eq_true p28; replace q28 := eq_true q28; have HX36 := Aside0.mk (show Kd.R k58 58 w35 w.heap.size (fun _ => True) (.slice (some ⟨go28, 0, none⟩) y329.length co28) y329 from (by (with_reducible repeat (first | apply Kd.R_alloc | apply Kd.R_drewN | apply Kd.R_drew)); exact HO331.out)); obtain ⟨ce36, hcl36, hM36, hcc36, hfr36⟩ := Kd.R_elem HX36.out z58 ((ji25) : Int) (of_decide_eq_true (by first | (with_reducible assumption) | assumption)) (by have h_ : ((ji25) : Int) < ((y329.length : Int) : Int) := of_decide_eq_true (by first | (with_reducible assumption) | assumption); first | exact h_ | (have e_ := (Kd.R_reads' HO331.out).1; omega) | simpa using h_); obtain rfl := k58_openM hM36; have HP36 := Kd.R_seg HX36.out ((ji25) : Int) (of_decide_eq_true (by first | (with_reducible assumption) | assumption)) (by have h_ : ((ji25) : Int) < ((y329.length : Int) : Int) := of_decide_eq_true (by first | (with_reducible assumption) | assumption); first | exact h_ | (have e_ := (Kd.R_reads' HO331.out).1; omega) | simpa using h_) (seg := [.bool true, .int .i64 (wrap64 (a4))]) (j := 0) hcl36 hcc36 (show 2 ≤ 2 from by decide) (x' := (⟨true, wrap64 (a4)⟩ : S58)) (k58_mkM _ _ _ (⟨true, wrap64 (a4)⟩ : S58) ) (fun _ hk => hk); have hx36_0 := hcc36 0 _ rfl; (try simp only [show (k58).sz = 2 from rfl, Nat.mul_one, Nat.add_zero] at hx36_0); have hf36_0 := hfr36 0; (try simp only [show (k58).sz = 2 from rfl, Nat.mul_one, Nat.add_zero] at hf36_0); have hx36_1 := hcc36 1 _ rfl; (try simp only [show (k58).sz = 2 from rfl, Nat.mul_one, Nat.add_zero] at hx36_1); have hf36_1 := hfr36 1; (try simp only [show (k58).sz = 2 from rfl, Nat.mul_one, Nat.add_zero] at hf36_1); clear hcl36 hcc36 hfr36 hM36) | ((with_reducible refine gate_store (t := 58) (p := 70) rfl ?_); refine store_event (t := 58) (p := 70) (v := ?vo_w37) (w1 := ((w35.setCell ⟨go28, ((ji25) : Int).toNat * 2, none⟩ (.bool true)).setCell ⟨go28, ((ji25) : Int).toNat * 2 + 1, none⟩ (.int .i64 (wrap64 (a4))))) ?hg ?ho ?hn ?hr ?_; (case ho => rfl); (case hg => rfl); (case hn => rfl); (case hr => first | (go_simp; done) | (go_simp; rfl)); intro w37 hw; have hg : w35.grownBy w37 (some go28) := (by rw [hw]; exact HP36.2); have hp_ : Kd.R k58 58 w37 w.heap.size (fun _ => True) (.slice (some ⟨go28, 0, none⟩) y329.length co28) y332 := (by rw [hw, Ny332.out]; exact HP36.1); clear HP36; have n0_ := Aside0.mk (Kd.R_over' (v := (.slice (some ⟨go28, 0, none⟩) y329.length co28)) (by (with_reducible repeat (first | apply Kd.R_alloc | apply Kd.R_drewN | apply Kd.R_drew)); exact HO_44.out) (Kd.R_typed HO331.out) (by decide) hg); have n1_ := Aside0.mk (hp_); have n2_ := Aside0.mk ((by rw [hw]; exact below_set (below_set (HB.out) GB28.out) GB28.out : Below w.heap.size w w37)); clear HO_44; clear HO331; clear HB; have HO_44 := n0_; have HO331 := n1_; have HB := n2_; clear n0_ n1_ n2_; clear hg hw hp_) | ((with_reducible refine gate_callee (f := 28) rfl ?_); refine goesL_ (some 75) rfl rfl Try.func28 (by kernel_rfl) rfl #[.slice A0 l0.length c0, .slice (some ⟨go28, 0, none⟩) y332.length co28, .slice A2 l2.length c2] rfl (by (try simp only [List.map_toArray, List.map_cons, List.map_nil]); first | done | (rw [show y332.length = y329.length from (Kd.R_reads' HO331.out).1.symm] <;> rfl) | rfl | (simp only [List.length_drop, List.length_take]; rfl)) ?_; (with_reducible refine (term_Eval.calls k2 _ _ l0 _ _ y332 _ _ l2 t333 t334 _ ?side1 ?side2 ?side3 ?side4 ?side5 ?side6 A29.out).mono ?_); (case side1 => repeat (first | exact (Kd.C_below HR0.out HB.out) | (with_reducible refine Kd.C_alloc ?_ _) | (with_reducible refine Kd.C_drewN ?_ _) | (with_reducible refine Kd.C_drew ?_))); (case side2 => exact HC0.out); (case side3 => repeat (first | exact (Kd.R_reads' HO331.out).2.2 | (with_reducible refine Kd.C_alloc ?_ _) | (with_reducible refine Kd.C_drewN ?_ _) | (with_reducible refine Kd.C_drew ?_))); (case side4 => rw [show y332.length = y329.length from (Kd.R_reads' HO331.out).1.symm]; exact (Kd.R_reads' HO331.out).2.1); (case side5 => repeat (first | exact (Kd.C_below HR2.out HB.out) | (with_reducible refine Kd.C_alloc ?_ _) | (with_reducible refine Kd.C_drewN ?_ _) | (with_reducible refine Kd.C_drew ?_))); (case side6 => exact HC2.out); rintro e w38 ⟨rfl, hb⟩; refine ⟨_, rfl, ?_⟩; have n0_ := Aside0.mk (Kd.R_below (by (with_reducible repeat (first | apply Kd.R_alloc | apply Kd.R_drewN | apply Kd.R_drew)); exact HO_44.out) hb); have n1_ := Aside0.mk (Kd.R_below (by (with_reducible repeat (first | apply Kd.R_alloc | apply Kd.R_drewN | apply Kd.R_drew)); exact HO331.out) hb); have n2_ := Aside0.mk (below_step (by repeat (first | (with_reducible first | exact HB.out | apply below_alloc | apply pw_below_drewN | apply below_drew1) | exact HB.out)) hb); clear HO_44; clear HO331; clear HB; have HO_44 := n0_; have HO331 := n1_; have HB := n2_; clear n0_ n1_ n2_; (try clear hb); (try clear hb2); (try clear hk); (try clear hi)) | (go_at_call 27; (with_reducible refine (handshakerlaw07_awake.calls k2  t335 _ A31.out).mono ?_); rintro e w39 ⟨rfl, hb⟩; have n0_ := Aside0.mk (Kd.R_below (by (with_reducible repeat (first | apply Kd.R_alloc | apply Kd.R_drewN | apply Kd.R_drew)); exact HO_44.out) hb); have n1_ := Aside0.mk (Kd.R_below (by (with_reducible repeat (first | apply Kd.R_alloc | apply Kd.R_drewN | apply Kd.R_drew)); exact HO331.out) hb); have n2_ := Aside0.mk (below_step (by repeat (first | (with_reducible first | exact HB.out | apply below_alloc | apply pw_below_drewN | apply below_drew1) | exact HB.out)) hb); clear HO_44; clear HO331; clear HB; have HO_44 := n0_; have HO331 := n1_; have HB := n2_; clear n0_ n1_ n2_; (try clear hb); (try clear hb2); (try clear hk); (try clear hi)))
                        go_ret
                        exact ⟨by first | rfl | (simp [errW_none, errW_some] <;> rfl) | (simp only [← hji25]; first | rfl | (simp [errW_none, errW_some] <;> rfl)) | (simp [*, errW_none, errW_some] <;> rfl), by repeat (first | (with_reducible first | exact HB.out | apply below_alloc | apply pw_below_drewN | apply below_drew1) | exact HB.out)⟩
                      · rw [if_neg c30] at H
                        have c30b0 : (t325 == 1) = false := beq_eq_false_iff_ne.mpr c30
                        have c30b1 : (t325 != 1) = true := bne_iff_ne.mpr c30
                        by_cases c40 : t324 = t333
                        · rw [if_pos c40] at H
                          have c40b0 : (t324 == t333) = true := beq_iff_eq.mpr c40
                          have c40b1 : (t324 != t333) = false := bne_eq_false_iff_eq.mpr c40
                          clear c40
                          by_cases c41 : t325 = t334
                          · rw [if_pos c41] at H
                            have c41b0 : (t325 == t334) = true := beq_iff_eq.mpr c41
                            have c41b1 : (t325 != t334) = false := bne_eq_false_iff_eq.mpr c41
                            clear c41
                            replace H := Option.bind_eq_some_iff.mp H
                            obtain ⟨t336, A420, H⟩ := H
                            replace H : (some t336) = some r := H
                            have A42 := Aside0.mk A420
                            clear A420
                            obtain rfl := Option.some.inj H
                            go_wp2_with (first | ((with_reducible refine gate_callee (f := 28) rfl ?_); refine goesL_ (some 59) rfl rfl Try.func28 (by kernel_rfl) rfl #[.slice A0 l0.length c0, .slice A1 l1.length c1, .slice A2 l2.length c2] rfl (by (try simp only [List.map_toArray, List.map_cons, List.map_nil]); first | done | rfl | (simp only [List.length_drop, List.length_take]; rfl)) ?_; (with_reducible refine (term_Eval.calls k2 _ _ l0 _ _ l1 _ _ l2 t324 t325 _ ?side1 ?side2 ?side3 ?side4 ?side5 ?side6 A23.out).mono ?_); (case side1 => repeat (first | exact (Kd.C_below HR0.out HB.out) | (with_reducible refine Kd.C_alloc ?_ _) | (with_reducible refine Kd.C_drewN ?_ _) | (with_reducible refine Kd.C_drew ?_))); (case side2 => exact HC0.out); (case side3 => repeat (first | exact (Kd.C_below HR1.out HB.out) | (with_reducible refine Kd.C_alloc ?_ _) | (with_reducible refine Kd.C_drewN ?_ _) | (with_reducible refine Kd.C_drew ?_))); (case side4 => exact HC1.out); (case side5 => repeat (first | exact (Kd.C_below HR2.out HB.out) | (with_reducible refine Kd.C_alloc ?_ _) | (with_reducible refine Kd.C_drewN ?_ _) | (with_reducible refine Kd.C_drew ?_))); (case side6 => exact HC2.out); rintro e w43 ⟨rfl, hb⟩; refine ⟨_, rfl, ?_⟩; have n0_ := Aside0.mk (Kd.R_below (by (with_reducible repeat (first | apply Kd.R_alloc | apply Kd.R_drewN | apply Kd.R_drew)); exact HO_44.out) hb); have n1_ := Aside0.mk (below_step (by repeat (first | (with_reducible first | exact HB.out | apply below_alloc | apply pw_below_drewN | apply below_drew1) | exact HB.out)) hb); clear HO_44; clear HB; have HO_44 := n0_; have HB := n1_; clear n0_ n1_; (try clear hb); (try clear hb2); (try clear hk); (try clear hi)) | ((with_reducible refine gate_dst (N := 62) rfl ?_); (try (refine gate_guard (by rfl) ?_; dsimp only)); refine Kd.R_lit k58 _ 58 ?hg (N := 62) ?hd (xs := ([] : List (S58))) (inner := []) (ok := fun _ => True) (okp := fun _ => True) ?hr ?hp (fun _ hk => hk) trivial (Below.refl _ _) (Nat.le_refl _) (by simp) ?_; (case hd => rfl); (case hg => rfl); (case hr => first | (go_simp; done) | (go_simp; rfl)); (case hp => exact (Reps.none _ _)); intro v327 w44 ho45 hb hg_ hnew_; clear hg_ hnew_; (first | rw [← Ny326.out] at ho45 | (simp only [Int.reduceToNat] at ho45; rw [← Ny326.out] at ho45)); have n0_ := Aside0.mk (Kd.R_below (by (with_reducible repeat (first | apply Kd.R_alloc | apply Kd.R_drewN | apply Kd.R_drew)); exact HO_44.out) hb); have n1_ := Aside0.mk (Kd.R_lower ho45 (below_size (by repeat (first | (with_reducible first | exact HB.out | apply below_alloc | apply pw_below_drewN | apply below_drew1) | exact HB.out)))); have n2_ := Aside0.mk (below_step (by repeat (first | (with_reducible first | exact HB.out | apply below_alloc | apply pw_below_drewN | apply below_drew1) | exact HB.out)) hb); clear HO_44; clear HB; have HO_44 := n0_; have HO328 := n1_; have HB := n2_; clear n0_ n1_ n2_; clear hb ho45) | ((with_reducible refine gate_builtin (b := .append) (xs := #[.tmp 62, .tmp 63]) rfl ?_); (try (refine gate_guard (by rfl) ?_; dsimp only)); at_builtin; refine Kd.R_append_rows k58 (w0 := w) w.heap.size rfl (.tmp 62) (.tmp 63) 46 58 (.agg #[(.bool false), (.int .i64 0)]) 16 rfl Try.underlying46 info58 rfl (by decide) (by omega) v327 y326 l1 _ _ _ (fun _ => True) (fun _ => False) rfl rfl ?aO ?aR (fun _ _ h => h) (fun _ h => h.elim) ?aF ?aB ?aS ?aL ?_; (case aR => repeat (first | exact (Kd.C_below HR1.out HB.out) | (with_reducible refine Kd.C_alloc ?_ _) | (with_reducible refine Kd.C_drewN ?_ _) | (with_reducible refine Kd.C_drew ?_))); (case aB => exact (by repeat (first | (with_reducible first | exact HB.out | apply below_alloc | apply pw_below_drewN | apply below_drew1) | exact HB.out))); (case aF => exact (fun _ _ => trivial)); (case aO => exact (by (with_reducible repeat (first | apply Kd.R_alloc | apply Kd.R_drewN | apply Kd.R_drew)); exact HO328.out)); (case aS => exact (below_size (by repeat (first | (with_reducible first | exact HB.out | apply below_alloc | apply pw_below_drewN | apply below_drew1) | exact HB.out)))); (case aL => have := LMc24.out; omega); intro v330 w46 ho hb hg hat; rw [← Ny329.out] at ho; have n0_ := Aside0.mk (Kd.R_over' (by (with_reducible repeat (first | apply Kd.R_alloc | apply Kd.R_drewN | apply Kd.R_drew)); exact HO_44.out) (Kd.R_typed (by (with_reducible repeat (first | apply Kd.R_alloc | apply Kd.R_drewN | apply Kd.R_drew)); exact HO328.out)) (by decide) hg); have n1_ := Aside0.mk (hb); have n2_ := Aside0.mk (ho); clear HO_44; clear HB; clear HO328; have HO_44 := n0_; have HB := n1_; have HO331 := n2_; clear n0_ n1_ n2_; clear ho hb hg hat; have p28 : 0 ≤ ((ji25) : Int) := of_decide_eq_true (by first | (with_reducible assumption) | assumption); have q28 : ((ji25) : Int) < ((y329.length : Int) : Int) := of_decide_eq_true (by first | (with_reducible assumption) | assumption); obtain ⟨go28, co28, eo28, gb28, gl28, cl28, HG28⟩ := Kd.R_form HO331.out (by omega); (first | cases eo28 | (injection eo28 with ea_ en_ ec_; (first | subst ea_ | (injection ea_ with ea_; subst ea_)); subst ec_; clear en_)); have GB28 := Aside0.mk gb28; have GG28 := Aside0.mk HG28; clear gb28 gl28 HG28; obtain ⟨ce28, hcl28, hM28, hcc28, hfr28⟩ := Kd.R_elem HO331.out z58 ((ji25) : Int) p28 q28; obtain rfl := k58_openM hM28; have hx28_0 : w46.cell? ⟨go28, ((ji25) : Int).toNat * 2, none⟩ = some (.bool ((rd_T58 y329 (ji25)).f0)) := hcc28 0 _ rfl; have hx28_1 : w46.cell? ⟨go28, ((ji25) : Int).toNat * 2 + 1, none⟩ = some (.int .i64 ((rd_T58 y329 (ji25)).f1)) := hcc28 1 _ rfl; have hf28_0 : w46.frozen? ⟨go28, ((ji25) : Int).toNat * 2, none⟩ = false := hfr28 0; have hf28_1 : w46.frozen? ⟨go28, ((ji25) : Int).toNat * 2 + 1, none⟩ = false := hfr28 1; clear hcl28 hcc28 hfr28 hM28; replace p28 := eq_true p28; replace q28 := eq_true q28; have HX47 := Aside0.mk (show Kd.R k58 58 w46 w.heap.size (fun _ => True) (.slice (some ⟨go28, 0, none⟩) y329.length co28) y329 from (by (with_reducible repeat (first | apply Kd.R_alloc | apply Kd.R_drewN | apply Kd.R_drew)); exact HO331.out)); obtain ⟨ce47, hcl47, hM47, hcc47, hfr47⟩ := Kd.R_elem HX47.out z58 ((ji25) : Int) (of_decide_eq_true (by first | (with_reducible assumption) | assumption)) (by have h_ : ((ji25) : Int) < ((y329.length : Int) : Int) := of_decide_eq_true (by first | (with_reducible assumption) | assumption); first | exact h_ | (have e_ := (Kd.R_reads' HO331.out).1; omega) | simpa using h_); obtain rfl := k58_openM hM47; have HP47 := Kd.R_seg HX47.out ((ji25) : Int) (of_decide_eq_true (by first | (with_reducible assumption) | assumption)) (by have h_ : ((ji25) : Int) < ((y329.length : Int) : Int) := of_decide_eq_true (by first | (with_reducible assumption) | assumption); first | exact h_ | (have e_ := (Kd.R_reads' HO331.out).1; omega) | simpa using h_) (seg := [.bool true, .int .i64 (wrap64 (a4))]) (j := 0) hcl47 hcc47 (show 2 ≤ 2 from by decide) (x' := (⟨true, wrap64 (a4)⟩ : S58)) (k58_mkM _ _ _ (⟨true, wrap64 (a4)⟩ : S58) ) (fun _ hk => hk); have hx47_0 := hcc47 0 _ rfl; (try simp only [show (k58).sz = 2 from rfl, Nat.mul_one, Nat.add_zero] at hx47_0); have hf47_0 := hfr47 0; (try simp only [show (k58).sz = 2 from rfl, Nat.mul_one, Nat.add_zero] at hf47_0); have hx47_1 := hcc47 1 _ rfl; (try simp only [show (k58).sz = 2 from rfl, Nat.mul_one, Nat.add_zero] at hx47_1); have hf47_1 := hfr47 1; (try simp only [show (k58).sz = 2 from rfl, Nat.mul_one, Nat.add_zero] at hf47_1); clear hcl47 hcc47 hfr47 hM47) | ((with_reducible refine gate_store (t := 58) (p := 70) rfl ?_); refine store_event (t := 58) (p := 70) (v := ?vo_w48) (w1 := ((w46.setCell ⟨go28, ((ji25) : Int).toNat * 2, none⟩ (.bool true)).setCell ⟨go28, ((ji25) : Int).toNat * 2 + 1, none⟩ (.int .i64 (wrap64 (a4))))) ?hg ?ho ?hn ?hr ?_; (case ho => rfl); (case hg => rfl); (case hn => rfl); (case hr => first | (go_simp; done) | (go_simp; rfl)); intro w48 hw; have hg : w46.grownBy w48 (some go28) := (by rw [hw]; exact HP47.2); have hp_ : Kd.R k58 58 w48 w.heap.size (fun _ => True) (.slice (some ⟨go28, 0, none⟩) y329.length co28) y332 := (by rw [hw, Ny332.out]; exact HP47.1); clear HP47; have n0_ := Aside0.mk (Kd.R_over' (v := (.slice (some ⟨go28, 0, none⟩) y329.length co28)) (by (with_reducible repeat (first | apply Kd.R_alloc | apply Kd.R_drewN | apply Kd.R_drew)); exact HO_44.out) (Kd.R_typed HO331.out) (by decide) hg); have n1_ := Aside0.mk (hp_); have n2_ := Aside0.mk ((by rw [hw]; exact below_set (below_set (HB.out) GB28.out) GB28.out : Below w.heap.size w w48)); clear HO_44; clear HO331; clear HB; have HO_44 := n0_; have HO331 := n1_; have HB := n2_; clear n0_ n1_ n2_; clear hg hw hp_) | ((with_reducible refine gate_callee (f := 28) rfl ?_); refine goesL_ (some 75) rfl rfl Try.func28 (by kernel_rfl) rfl #[.slice A0 l0.length c0, .slice (some ⟨go28, 0, none⟩) y332.length co28, .slice A2 l2.length c2] rfl (by (try simp only [List.map_toArray, List.map_cons, List.map_nil]); first | done | (rw [show y332.length = y329.length from (Kd.R_reads' HO331.out).1.symm] <;> rfl) | rfl | (simp only [List.length_drop, List.length_take]; rfl)) ?_; (with_reducible refine (term_Eval.calls k2 _ _ l0 _ _ y332 _ _ l2 t333 t334 _ ?side1 ?side2 ?side3 ?side4 ?side5 ?side6 A29.out).mono ?_); (case side1 => repeat (first | exact (Kd.C_below HR0.out HB.out) | (with_reducible refine Kd.C_alloc ?_ _) | (with_reducible refine Kd.C_drewN ?_ _) | (with_reducible refine Kd.C_drew ?_))); (case side2 => exact HC0.out); (case side3 => repeat (first | exact (Kd.R_reads' HO331.out).2.2 | (with_reducible refine Kd.C_alloc ?_ _) | (with_reducible refine Kd.C_drewN ?_ _) | (with_reducible refine Kd.C_drew ?_))); (case side4 => rw [show y332.length = y329.length from (Kd.R_reads' HO331.out).1.symm]; exact (Kd.R_reads' HO331.out).2.1); (case side5 => repeat (first | exact (Kd.C_below HR2.out HB.out) | (with_reducible refine Kd.C_alloc ?_ _) | (with_reducible refine Kd.C_drewN ?_ _) | (with_reducible refine Kd.C_drew ?_))); (case side6 => exact HC2.out); rintro e w49 ⟨rfl, hb⟩; refine ⟨_, rfl, ?_⟩; have n0_ := Aside0.mk (Kd.R_below (by (with_reducible repeat (first | apply Kd.R_alloc | apply Kd.R_drewN | apply Kd.R_drew)); exact HO_44.out) hb); have n1_ := Aside0.mk (Kd.R_below (by (with_reducible repeat (first | apply Kd.R_alloc | apply Kd.R_drewN | apply Kd.R_drew)); exact HO331.out) hb); have n2_ := Aside0.mk (below_step (by repeat (first | (with_reducible first | exact HB.out | apply below_alloc | apply pw_below_drewN | apply below_drew1) | exact HB.out)) hb); clear HO_44; clear HO331; clear HB; have HO_44 := n0_; have HO331 := n1_; have HB := n2_; clear n0_ n1_ n2_; (try clear hb); (try clear hb2); (try clear hk); (try clear hi)) | (go_at_call 27; (with_reducible refine (handshakerlaw07_awake.calls k2  t336 _ A42.out).mono ?_); rintro e w50 ⟨rfl, hb⟩; have n0_ := Aside0.mk (Kd.R_below (by (with_reducible repeat (first | apply Kd.R_alloc | apply Kd.R_drewN | apply Kd.R_drew)); exact HO_44.out) hb); have n1_ := Aside0.mk (Kd.R_below (by (with_reducible repeat (first | apply Kd.R_alloc | apply Kd.R_drewN | apply Kd.R_drew)); exact HO331.out) hb); have n2_ := Aside0.mk (below_step (by repeat (first | (with_reducible first | exact HB.out | apply below_alloc | apply pw_below_drewN | apply below_drew1) | exact HB.out)) hb); clear HO_44; clear HO331; clear HB; have HO_44 := n0_; have HO331 := n1_; have HB := n2_; clear n0_ n1_ n2_; (try clear hb); (try clear hb2); (try clear hk); (try clear hi)))
                            go_ret
                            exact ⟨by first | rfl | (simp [errW_none, errW_some] <;> rfl) | (simp only [← hji25]; first | rfl | (simp [errW_none, errW_some] <;> rfl)) | (simp [*, errW_none, errW_some] <;> rfl), by repeat (first | (with_reducible first | exact HB.out | apply below_alloc | apply pw_below_drewN | apply below_drew1) | exact HB.out)⟩
                          · rw [if_neg c41] at H
                            have c41b0 : (t325 == t334) = false := beq_eq_false_iff_ne.mpr c41
                            have c41b1 : (t325 != t334) = true := bne_iff_ne.mpr c41
                            exact absurd (Option.some.inj H) (by rw [HT.out]; decide)
                        · rw [if_neg c40] at H
                          have c40b0 : (t324 == t333) = false := beq_eq_false_iff_ne.mpr c40
                          have c40b1 : (t324 != t333) = true := bne_iff_ne.mpr c40
                          exact absurd (Option.some.inj H) (by rw [HT.out]; decide)
                    · rw [if_neg c27] at H
                      exact absurd H (by simp)
                  · rw [if_neg c26] at H
                    exact absurd H (by simp)
                · rw [if_neg c24] at H
                  exact absurd H (by simp)

/-- THE ONE PURE STATEMENT of handshakerlaw07_TermNames. -/
def handshakerlaw07_TermNames.Pure : Prop := ∀ (l0 : List (S41)) (l1 : List (S58)) (l2 : List Int) (a3 : Int) (a4 : Int), l0.length ≤ maxLen → l0.length * 16 ≤ 140737488351232 → (∀ y ∈ l0, wfS41 y) → l1.length ≤ maxLen → l1.length * 16 ≤ 140737488351232 → (∀ y ∈ l1, wfS58 y) → l2.length ≤ maxLen → l2.length * 8 ≤ 140737488351232 → (∀ y ∈ l2, (Lit.int .i64 y).wf = true) → (Lit.int .u8 a3).wf = true → (Lit.int .i32 a4).wf = true → ∃ k, handshakerlaw07_TermNames.f k l0 l1 l2 a3 a4 = some true

end Go.Proofs.Ytbcpnbmegaodbaa.Tc
