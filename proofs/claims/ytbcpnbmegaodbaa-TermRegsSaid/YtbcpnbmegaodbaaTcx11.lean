-- PRINTED by print.py (a twelfth state) out of the translation. Not trusted: Lean checks it.
import Derived.Test.YtbcpnbmegaodbaaTcx0
import Derived.Test.YtbcpnbmegaodbaaTcx2
import Derived.Test.YtbcpnbmegaodbaaTcx3
import Derived.Test.YtbcpnbmegaodbaaTcx6
namespace Go.Proofs.Ytbcpnbmegaodbaa.Tc
open Go.Proofs.Ytbcpnbmegaodbaa.Ho
open Go.RowKit Go.Proofs.YtbcpnbmegaodbaaW.PrintWords Go.Proofs.YtbcpnbmegaodbaaW.PrintLast Go.Proofs.YtbcpnbmegaodbaaW.PrintMore
attribute [local go_sem] max2_int min2_int max_two min_two max_three min_three max_four min_four   -- for this text's walks alone
set_option linter.unusedVariables false
set_option linter.unusedSimpArgs false

/-! ### handshakerlaw07_TermRegs: function 13 -/
mutual
def handshakerlaw07_TermRegs.j0 : Nat → List (S41) → List (S58) → List Int → Int → Int → Bool → Option (Bool)
  | 0, _, _, _, _, _, _ => none
  | k + 1, x0, x1, x2, x3, x4, x37 => if x37 = true then ((handshakerlaw07_awake.f k).bind fun t405 => (some t405)) else (if (x2.length : Int) = 0 then (none) else (handshakerlaw07_TermRegs.l0 k x0 x1 x2 x4 (Int.tmod (wrap64 (x3)) (x2.length : Int)) false x0 (x0.length : Int) 0))
def handshakerlaw07_TermRegs.l0 : Nat → List (S41) → List (S58) → List Int → Int → Int → Bool → List (S41) → Int → Int → Option (Bool)
  | 0, _, _, _, _, _, _, _, _, _ => none
  | k + 1, x0, x1, x2, x4, x11, x12, x44, x45, x46 => if x46 < x45 then (if 0 ≤ x46 then (if x46 < (x44.length : Int) then (if x12 = true then (handshakerlaw07_TermRegs.l0 k x0 x1 x2 x4 x11 true x44 x45 (wrap64 (x46 + 1))) else (if ((rd_T41 x44 x46).f0) = 3 then (handshakerlaw07_TermRegs.l0 k x0 x1 x2 x4 x11 (((rd_T41 x44 x46).f1) == x11) x44 x45 (wrap64 (x46 + 1))) else (handshakerlaw07_TermRegs.l0 k x0 x1 x2 x4 x11 false x44 x45 (wrap64 (x46 + 1))))) else (none)) else (none)) else ((term_Eval.f k x0 x1 x2).bind fun bt408 => ((some (([] : List Int) : List Int)).bind fun y410 => (if y410.length + x2.length < 17592186044416 then ((some (y410 ++ x2 : List Int)).bind fun y413 => (if 0 ≤ x11 then (if x11 < (y413.length : Int) then ((some (y413.set (x11 : Int).toNat x4 : List Int)).bind fun y416 => (if x12 = true then (if x11 < (x2.length : Int) then ((span_Wrap.f (rd x2 x11)).bind fun t418 => ((term_Eval.f k x0 x1 (y416.set (x11 : Int).toNat t418)).bind fun bt420 => (if bt408.1 = bt420.1 then (if bt408.2 = bt420.2 then ((handshakerlaw07_awake.f k).bind fun t422 => (some t422)) else (some false)) else (some false)))) else (none)) else ((term_Eval.f k x0 x1 y416).bind fun bt423 => (if bt408.1 = bt423.1 then (if bt408.2 = bt423.2 then ((handshakerlaw07_awake.f k).bind fun t425 => (some t425)) else (some false)) else (some false))))) else (none)) else (none))) else (none))))
end
def handshakerlaw07_TermRegs.f (k : Nat) (l0 : List (S41)) (l1 : List (S58)) (l2 : List Int) (a3 : Int) (a4 : Int) : Option (Bool) := if (l0.length : Int) > 12 then (handshakerlaw07_TermRegs.j0 k l0 l1 l2 a3 a4 true) else (if (l1.length : Int) > 64 then (handshakerlaw07_TermRegs.j0 k l0 l1 l2 a3 a4 true) else (if (l2.length : Int) > 8 then (handshakerlaw07_TermRegs.j0 k l0 l1 l2 a3 a4 true) else (handshakerlaw07_TermRegs.j0 k l0 l1 l2 a3 a4 ((l2.length : Int) == 0))))
theorem handshakerlaw07_TermRegs.mono_l : ∀ k, (∀ y0 y1 y2 y3 y4 y5, LeO (handshakerlaw07_TermRegs.j0 k y0 y1 y2 y3 y4 y5) (handshakerlaw07_TermRegs.j0 (k + 1) y0 y1 y2 y3 y4 y5)) ∧ (∀ y0 y1 y2 y3 y4 y5 y6 y7 y8, LeO (handshakerlaw07_TermRegs.l0 k y0 y1 y2 y3 y4 y5 y6 y7 y8) (handshakerlaw07_TermRegs.l0 (k + 1) y0 y1 y2 y3 y4 y5 y6 y7 y8))
  | 0 => ⟨fun _ _ _ _ _ _ r h => by simp [handshakerlaw07_TermRegs.j0] at h, fun _ _ _ _ _ _ _ _ _ r h => by simp [handshakerlaw07_TermRegs.l0] at h⟩
  | k + 1 => by
    obtain ⟨ih0, ih1⟩ := handshakerlaw07_TermRegs.mono_l k
    refine ⟨?_, ?_⟩
    · intro y0 y1 y2 y3 y4 y5
      unfold handshakerlaw07_TermRegs.j0
      repeat' first
      | (with_reducible exact ih0 _ _ _ _ _ _)
      | (with_reducible exact ih1 _ _ _ _ _ _ _ _ _)
      | (with_reducible exact handshakerlaw07_awake.mono _)
      | (with_reducible exact term_Eval.mono _ _ _ _)
      | (with_reducible exact LeO.refl _)
      | (with_reducible exact LeO.none _)
      | (with_reducible refine LeO.ite ?_ ?_)
      | (with_reducible refine LeO.bind ?_ (fun _ => ?_))
      | exact ih0 _ _ _ _ _ _
      | exact ih1 _ _ _ _ _ _ _ _ _
      | exact handshakerlaw07_awake.mono _
      | exact term_Eval.mono _ _ _ _
      | exact LeO.none _
      | refine LeO.ite ?_ ?_
      | refine LeO.bind ?_ (fun _ => ?_)
    · intro y0 y1 y2 y3 y4 y5 y6 y7 y8
      unfold handshakerlaw07_TermRegs.l0
      repeat' first
      | (with_reducible exact ih0 _ _ _ _ _ _)
      | (with_reducible exact ih1 _ _ _ _ _ _ _ _ _)
      | (with_reducible exact handshakerlaw07_awake.mono _)
      | (with_reducible exact term_Eval.mono _ _ _ _)
      | (with_reducible exact LeO.refl _)
      | (with_reducible exact LeO.none _)
      | (with_reducible refine LeO.ite ?_ ?_)
      | (with_reducible refine LeO.bind ?_ (fun _ => ?_))
      | exact ih0 _ _ _ _ _ _
      | exact ih1 _ _ _ _ _ _ _ _ _
      | exact handshakerlaw07_awake.mono _
      | exact term_Eval.mono _ _ _ _
      | exact LeO.none _
      | refine LeO.ite ?_ ?_
      | refine LeO.bind ?_ (fun _ => ?_)
theorem handshakerlaw07_TermRegs.mono : ∀ a0 a1 a2 a3 a4 k, LeO (handshakerlaw07_TermRegs.f k a0 a1 a2 a3 a4) (handshakerlaw07_TermRegs.f (k + 1) a0 a1 a2 a3 a4) := by
  intro a0 a1 a2 a3 a4 k
  obtain ⟨ih0, ih1⟩ := handshakerlaw07_TermRegs.mono_l k
  unfold handshakerlaw07_TermRegs.f
  repeat' first
      | (with_reducible exact ih0 _ _ _ _ _ _)
      | (with_reducible exact ih1 _ _ _ _ _ _ _ _ _)
      | (with_reducible exact handshakerlaw07_awake.mono _)
      | (with_reducible exact term_Eval.mono _ _ _ _)
      | (with_reducible exact LeO.refl _)
      | (with_reducible exact LeO.none _)
      | (with_reducible refine LeO.ite ?_ ?_)
      | (with_reducible refine LeO.bind ?_ (fun _ => ?_))
      | exact ih0 _ _ _ _ _ _
      | exact ih1 _ _ _ _ _ _ _ _ _
      | exact handshakerlaw07_awake.mono _
      | exact term_Eval.mono _ _ _ _
      | exact LeO.none _
      | refine LeO.ite ?_ ?_
      | refine LeO.bind ?_ (fun _ => ?_)
set_option maxHeartbeats 8000000 in
set_option maxRecDepth 100000 in
theorem handshakerlaw07_TermRegs.calls (k : Nat) (A0 : Option Addr) (c0 : Nat) (l0 : List (S41)) (A1 : Option Addr) (c1 : Nat) (l1 : List (S58)) (A2 : Option Addr) (c2 : Nat) (l2 : List Int) (a3 : Int) (a4 : Int) (r : Bool) (w : World) (HT : Aside0 (r = true)) (hr0 : Kd.C k41 w A0 l0.length l0) (hc0 : l0.length ≤ c0) (hr1 : Kd.C k58 w A1 l1.length l1) (hc1 : l1.length ≤ c1) (hr2 : Kd.C (Kd.int .i64) w A2 l2.length l2) (hc2 : l2.length ≤ c2) (h : handshakerlaw07_TermRegs.f k l0 l1 l2 a3 a4 = some r) :
    Calls Try.prog 13 #[.slice A0 l0.length c0, .slice A1 l1.length c1, .slice A2 l2.length c2, .int .u8 a3, .int .i64 a4] w fun e w' => e = .returned (.bool r) ∧ Below w.heap.size w w' := by
  have hu41 := Try.underlying41
  have HR0 := Aside0.mk hr0
  have HC0 := Aside0.mk hc0
  clear hr0 hc0
  have HR1 := Aside0.mk hr1
  have HC1 := Aside0.mk hc1
  clear hr1 hc1
  have HR2 := Aside0.mk hr2
  have HC2 := Aside0.mk hc2
  clear hr2 hc2
  have HB := Aside0.mk (Below.refl w.heap.size w)
  have H : (if (l0.length : Int) > 12 then (handshakerlaw07_TermRegs.j0 k l0 l1 l2 a3 a4 true) else (if (l1.length : Int) > 64 then (handshakerlaw07_TermRegs.j0 k l0 l1 l2 a3 a4 true) else (if (l2.length : Int) > 8 then (handshakerlaw07_TermRegs.j0 k l0 l1 l2 a3 a4 true) else (handshakerlaw07_TermRegs.j0 k l0 l1 l2 a3 a4 ((l2.length : Int) == 0))))) = some r := h
  clear h
  have HC6 := Aside0.mk H
  clear H
  go_enter Try.func13, Try.ntmps13
  go_upto_region 1 with (fail)
  go_cut [37] (fun v37 wc => ∃ (kq : Nat) (x37_5 : Bool), v37 = .bool x37_5 ∧ Aside0 (handshakerlaw07_TermRegs.j0 kq l0 l1 l2 a3 a4 x37_5 = some r) ∧ Aside0 (kq ≤ k) ∧ Aside0 (Below w.heap.size w wc))
  case first =>
    have H := HC6.out
    clear HC6
    by_cases c7 : (l0.length : Int) > 12
    · rw [if_pos c7] at H
      have c7b0 : decide (12 < (l0.length : Int)) = true := decide_eq_true c7
      have c7b1 : decide (12 < l0.length) = true := decide_eq_true (by omega)
      clear c7
      (first | rw [c7b0] | (simp only [i64_w, i32_w]; rw [c7b0]) | skip)
      have H' := Aside0.mk H
      clear H
      go_wp2
      go_meet
      case rel => exact ⟨_, (true), (by first | rfl | (simp; done) | (simp [*]; done)), H', ⟨by first | omega | exact Nat.le_refl _⟩, ⟨by repeat (first | (with_reducible first | exact HB.out | apply below_alloc | apply pw_below_drewN | apply below_drew1) | exact HB.out)⟩⟩
    · rw [if_neg c7] at H
      have c7b0 : decide (12 < (l0.length : Int)) = false := decide_eq_false c7
      have c7b1 : decide (12 < l0.length) = false := decide_eq_false (by omega)
      clear c7
      (first | rw [c7b0] | (simp only [i64_w, i32_w]; rw [c7b0]) | skip)
      by_cases c8 : (l1.length : Int) > 64
      · rw [if_pos c8] at H
        have c8b0 : decide (64 < (l1.length : Int)) = true := decide_eq_true c8
        have c8b1 : decide (64 < l1.length) = true := decide_eq_true (by omega)
        clear c8
        have H' := Aside0.mk H
        clear H
        go_wp2
        go_meet
        case rel => exact ⟨_, (true), (by first | rfl | (simp; done) | (simp [*]; done)), H', ⟨by first | omega | exact Nat.le_refl _⟩, ⟨by repeat (first | (with_reducible first | exact HB.out | apply below_alloc | apply pw_below_drewN | apply below_drew1) | exact HB.out)⟩⟩
      · rw [if_neg c8] at H
        have c8b0 : decide (64 < (l1.length : Int)) = false := decide_eq_false c8
        have c8b1 : decide (64 < l1.length) = false := decide_eq_false (by omega)
        clear c8
        by_cases c9 : (l2.length : Int) > 8
        · rw [if_pos c9] at H
          have c9b0 : decide (8 < (l2.length : Int)) = true := decide_eq_true c9
          have c9b1 : decide (8 < l2.length) = true := decide_eq_true (by omega)
          clear c9
          have H' := Aside0.mk H
          clear H
          go_wp2
          go_meet
          case rel => exact ⟨_, (true), (by first | rfl | (simp; done) | (simp [*]; done)), H', ⟨by first | omega | exact Nat.le_refl _⟩, ⟨by repeat (first | (with_reducible first | exact HB.out | apply below_alloc | apply pw_below_drewN | apply below_drew1) | exact HB.out)⟩⟩
        · rw [if_neg c9] at H
          have c9b0 : decide (8 < (l2.length : Int)) = false := decide_eq_false c9
          have c9b1 : decide (8 < l2.length) = false := decide_eq_false (by omega)
          clear c9
          have H' := Aside0.mk H
          clear H
          go_wp2
          go_meet
          case rel => exact ⟨_, (((l2.length : Int) == 0)), (by first | rfl | (simp; done) | (simp [*]; done)), H', ⟨by first | omega | exact Nat.le_refl _⟩, ⟨by repeat (first | (with_reducible first | exact HB.out | apply below_alloc | apply pw_below_drewN | apply below_drew1) | exact HB.out)⟩⟩
  case rest =>
    clear HC6
    try clear c1
    try clear c2
    try clear p2
    try clear c7
    try clear c7b0
    try clear c7b1
    try clear c8
    try clear c8b0
    try clear c8b1
    try clear c9
    try clear c9b0
    try clear c9b1
    obtain ⟨kq, x37_5, rfl, HA, HJ5, HB⟩ := hcut
    cases kq with
    | zero => exact absurd HA.out (by simp [handshakerlaw07_TermRegs.j0])
    | succ kj5 =>
      have H := HA.out
      clear HA
      simp only [handshakerlaw07_TermRegs.j0] at H
      by_cases c10 : x37_5 = true
      · subst c10
        have H1 : ((handshakerlaw07_awake.f kj5).bind fun t405 => (some t405)) = some r := by rw [if_pos rfl] at H; exact H
        clear H
        have H := H1
        clear H1
        replace H := Option.bind_eq_some_iff.mp H
        obtain ⟨t405, A110, H⟩ := H
        replace H : (some t405) = some r := H
        have A11 := Aside0.mk A110
        clear A110
        obtain rfl := Option.some.inj H
        go_wp2_with (first | ((with_reducible refine gate_callee (f := 27) rfl ?_); refine goesL_ (some 38) rfl rfl Try.func27 (by kernel_rfl) rfl #[] rfl (by (try simp only [List.map_toArray, List.map_cons, List.map_nil]); first | done | rfl | (simp only [List.length_drop, List.length_take]; rfl)) ?_; (with_reducible refine (handshakerlaw07_awake.calls kj5  t405 _ A11.out).mono ?_); rintro e w12 ⟨rfl, hb⟩; refine ⟨_, rfl, ?_⟩; have n0_ := Aside0.mk (below_step (by repeat (first | (with_reducible first | exact HB.out | apply below_alloc | apply pw_below_drewN | apply below_drew1) | exact HB.out)) hb); clear HB; have HB := n0_; clear n0_; (try clear hb); (try clear hb2); (try clear hk); (try clear hi)))
        go_ret
        exact ⟨by first | rfl | (simp [errW_none, errW_some] <;> rfl) | (simp [*, errW_none, errW_some] <;> rfl), by repeat (first | (with_reducible first | exact HB.out | apply below_alloc | apply pw_below_drewN | apply below_drew1) | exact HB.out)⟩
      · replace c10 := Bool.eq_false_iff.mpr c10
        subst c10
        have H1 : (if (l2.length : Int) = 0 then (none) else (handshakerlaw07_TermRegs.l0 kj5 l0 l1 l2 a4 (Int.tmod (wrap64 (a3)) (l2.length : Int)) false l0 (l0.length : Int) 0)) = some r := by rw [if_neg (show ¬ (false = true) by decide)] at H; exact H
        clear H
        have H := H1
        clear H1
        by_cases c13 : (l2.length : Int) = 0
        · rw [if_pos c13] at H
          exact absurd H (by simp)
        · rw [if_neg c13] at H
          have c13b0 : ((l2.length : Int) == 0) = false := beq_eq_false_iff_ne.mpr c13
          have c13b1 : ((l2.length : Int) != 0) = true := bne_iff_ne.mpr c13
          have c13b2 : ¬ (l2 = []) := fun h_ => c13 (by rw [h_]; rfl)
          have H' := Aside0.mk H
          clear H
          go_wp2
          go_loopg [12, 46] kj5 (fun kq v12 v46 w' => ∃ (x12_2 : Bool) (x46_2 : Int), v12 = .bool x12_2 ∧ v46 = .int .i64 x46_2 ∧ Aside0 (handshakerlaw07_TermRegs.l0 kq l0 l1 l2 a4 (Int.tmod (wrap64 (a3)) (l2.length : Int)) x12_2 l0 (l0.length : Int) x46_2 = some r) ∧ Aside0 (kq ≤ kj5) ∧ Aside0 (Below w.heap.size w w'))
          case atStart => exact ⟨(false), (0), (by first | rfl | (simp; done) | (simp [*]; done)), (by first | rfl | (simp; done) | (simp [*]; done)), H', ⟨Nat.le_refl _⟩, ⟨by repeat (first | (with_reducible first | exact HB.out | apply below_alloc | apply pw_below_drewN | apply below_drew1) | exact HB.out)⟩⟩
          case round =>
            clear H'
            try clear c1
            try clear c2
            try clear p2
            try clear p6
            try clear c7
            try clear c7b0
            try clear c7b1
            try clear c8
            try clear c8b0
            try clear c8b1
            try clear c9
            try clear c9b0
            try clear c9b1
            try clear c10
            try clear c13
            try clear c13b0
            try clear c13b1
            try clear c13b2
            try clear p2
            obtain ⟨x12_2, x46_2, rfl, rfl, HA, HK2, HB⟩ := hrel
            cases gk with
            | zero => exact absurd HA.out (by simp [handshakerlaw07_TermRegs.l0])
            | succ k2 =>
              have H := HA.out
              clear HA
              simp only [handshakerlaw07_TermRegs.l0] at H
              by_cases c14 : x46_2 < (l0.length : Int)
              · rw [if_pos c14] at H
                have c14b0 : decide (x46_2 < (l0.length : Int)) = true := decide_eq_true c14
                clear c14
                by_cases c15 : 0 ≤ x46_2
                · rw [if_pos c15] at H
                  have c15b0 : decide (0 ≤ x46_2) = true := decide_eq_true c15
                  clear c15
                  by_cases c16 : x46_2 < (l0.length : Int)
                  · rw [if_pos c16] at H
                    have c16b0 : decide (x46_2 < (l0.length : Int)) = true := decide_eq_true c16
                    clear c16
                    by_cases c17 : x12_2 = true
                    · subst c17
                      have H1 : (handshakerlaw07_TermRegs.l0 k2 l0 l1 l2 a4 (Int.tmod (wrap64 (a3)) (l2.length : Int)) true l0 (l0.length : Int) (wrap64 (x46_2 + 1))) = some r := by rw [if_pos rfl] at H; exact H
                      clear H
                      have H := H1
                      clear H1
                      have H' := Aside0.mk H
                      clear H
                      have p406 : 0 ≤ (x46_2 : Int) := of_decide_eq_true (by first | (with_reducible assumption) | assumption)
                      have q406 : x46_2 < (l0.length : Int) := of_decide_eq_true (by first | (with_reducible assumption) | assumption)
                      obtain ⟨ad406, e406, hx406_0, hx406_1⟩ := at_T41 HR0.out x46_2 p406 q406
                      cases e406
                      replace hx406_0 := (HB.out.cell (World.block_lt_of_cell? w _ hx406_0)).trans hx406_0
                      replace hx406_1 := (HB.out.cell (World.block_lt_of_cell? w _ hx406_1)).trans hx406_1
                      replace p406 := eq_true p406
                      replace q406 := eq_true q406
                      go_wp2_with (first | ((with_reducible refine gate_dst (N := 14) rfl ?_); (try (refine gate_guard (by rfl) ?_; dsimp only)); refine box_event ?hg (N := 14) ?hd (cs := #[.int .i64 0, .int .i64 0]) (t := 41) ?hr ?_; (case hd => rfl); (case hg => rfl); (case hr => first | (go_simp; done) | (go_simp; rfl)); intro gb407 hg w18 hbox hb; have n0_ := Aside0.mk (below_step (by repeat (first | (with_reducible first | exact HB.out | apply below_alloc | apply pw_below_drewN | apply below_drew1) | exact HB.out)) hb); have n1_ := Aside0.mk (hbox); have n2_ := Aside0.mk ((by rw [hg]; exact (below_size (by repeat (first | (with_reducible first | exact HB.out | apply below_alloc | apply pw_below_drewN | apply below_drew1) | exact HB.out))) : w.heap.size ≤ gb407)); have n3_ := Aside0.mk ((by rw [hg]; exact (below_size (by repeat (first | (with_reducible first | exact HB.out | apply below_alloc | apply pw_below_drewN | apply below_drew1) | exact HB.out))) : w.heap.size ≤ gb407)); clear HB; have HB := n0_; have BK407 := n1_; have GW407 := n2_; have GE407 := n3_; clear n0_ n1_ n2_ n3_; clear hb hbox hg; have hcz19_0 : w18.cell? ⟨gb407, 0, none⟩ = some (.int .i64 0) := (blk_cell BK407.out 0).trans rfl; have hcz19_1 : w18.cell? ⟨gb407, 1, none⟩ = some (.int .i64 0) := (blk_cell BK407.out 1).trans rfl; have hfz19_0 := blk_frozen BK407.out 0; have hfz19_1 := blk_frozen BK407.out 1))
                      go_roundg k2
                      case measure => have := HJ5.out; have := HK2.out; omega
                      case rel => exact ⟨(true), (wrap64 (x46_2 + 1)), (by first | rfl | (simp; done) | (simp [*]; done)), (by first | rfl | (simp; done) | (simp [*]; done)), H', ⟨by have := HJ5.out; have := HK2.out; omega⟩, ⟨by repeat (first | (with_reducible first | exact HB.out | apply below_alloc | apply pw_below_drewN | apply below_drew1 | refine below_set ?_ GE407.out) | exact HB.out)⟩⟩
                    · replace c17 := Bool.eq_false_iff.mpr c17
                      subst c17
                      have H1 : (if ((rd_T41 l0 x46_2).f0) = 3 then (handshakerlaw07_TermRegs.l0 k2 l0 l1 l2 a4 (Int.tmod (wrap64 (a3)) (l2.length : Int)) (((rd_T41 l0 x46_2).f1) == (Int.tmod (wrap64 (a3)) (l2.length : Int))) l0 (l0.length : Int) (wrap64 (x46_2 + 1))) else (handshakerlaw07_TermRegs.l0 k2 l0 l1 l2 a4 (Int.tmod (wrap64 (a3)) (l2.length : Int)) false l0 (l0.length : Int) (wrap64 (x46_2 + 1)))) = some r := by rw [if_neg (show ¬ (false = true) by decide)] at H; exact H
                      clear H
                      have H := H1
                      clear H1
                      by_cases c20 : ((rd_T41 l0 x46_2).f0) = 3
                      · rw [if_pos c20] at H
                        have c20b0 : (((rd_T41 l0 x46_2).f0) == 3) = true := beq_iff_eq.mpr c20
                        have c20b1 : (((rd_T41 l0 x46_2).f0) != 3) = false := bne_eq_false_iff_eq.mpr c20
                        clear c20
                        have H' := Aside0.mk H
                        clear H
                        have p406 : 0 ≤ (x46_2 : Int) := of_decide_eq_true (by first | (with_reducible assumption) | assumption)
                        have q406 : x46_2 < (l0.length : Int) := of_decide_eq_true (by first | (with_reducible assumption) | assumption)
                        obtain ⟨ad406, e406, hx406_0, hx406_1⟩ := at_T41 HR0.out x46_2 p406 q406
                        cases e406
                        replace hx406_0 := (HB.out.cell (World.block_lt_of_cell? w _ hx406_0)).trans hx406_0
                        replace hx406_1 := (HB.out.cell (World.block_lt_of_cell? w _ hx406_1)).trans hx406_1
                        replace p406 := eq_true p406
                        replace q406 := eq_true q406
                        go_wp2_with (first | ((with_reducible refine gate_dst (N := 14) rfl ?_); (try (refine gate_guard (by rfl) ?_; dsimp only)); refine box_event ?hg (N := 14) ?hd (cs := #[.int .i64 0, .int .i64 0]) (t := 41) ?hr ?_; (case hd => rfl); (case hg => rfl); (case hr => first | (go_simp; done) | (go_simp; rfl)); intro gb407 hg w21 hbox hb; have n0_ := Aside0.mk (below_step (by repeat (first | (with_reducible first | exact HB.out | apply below_alloc | apply pw_below_drewN | apply below_drew1) | exact HB.out)) hb); have n1_ := Aside0.mk (hbox); have n2_ := Aside0.mk ((by rw [hg]; exact (below_size (by repeat (first | (with_reducible first | exact HB.out | apply below_alloc | apply pw_below_drewN | apply below_drew1) | exact HB.out))) : w.heap.size ≤ gb407)); have n3_ := Aside0.mk ((by rw [hg]; exact (below_size (by repeat (first | (with_reducible first | exact HB.out | apply below_alloc | apply pw_below_drewN | apply below_drew1) | exact HB.out))) : w.heap.size ≤ gb407)); clear HB; have HB := n0_; have BK407 := n1_; have GW407 := n2_; have GE407 := n3_; clear n0_ n1_ n2_ n3_; clear hb hbox hg; have hcz22_0 : w21.cell? ⟨gb407, 0, none⟩ = some (.int .i64 0) := (blk_cell BK407.out 0).trans rfl; have hcz22_1 : w21.cell? ⟨gb407, 1, none⟩ = some (.int .i64 0) := (blk_cell BK407.out 1).trans rfl; have hfz22_0 := blk_frozen BK407.out 0; have hfz22_1 := blk_frozen BK407.out 1))
                        go_roundg k2
                        case measure => have := HJ5.out; have := HK2.out; omega
                        case rel => exact ⟨((((rd_T41 l0 x46_2).f1) == (Int.tmod (wrap64 (a3)) (l2.length : Int)))), (wrap64 (x46_2 + 1)), (by first | rfl | (simp; done) | (simp [*]; done)), (by first | rfl | (simp; done) | (simp [*]; done)), H', ⟨by have := HJ5.out; have := HK2.out; omega⟩, ⟨by repeat (first | (with_reducible first | exact HB.out | apply below_alloc | apply pw_below_drewN | apply below_drew1 | refine below_set ?_ GE407.out) | exact HB.out)⟩⟩
                      · rw [if_neg c20] at H
                        have c20b0 : (((rd_T41 l0 x46_2).f0) == 3) = false := beq_eq_false_iff_ne.mpr c20
                        have c20b1 : (((rd_T41 l0 x46_2).f0) != 3) = true := bne_iff_ne.mpr c20
                        have H' := Aside0.mk H
                        clear H
                        have p406 : 0 ≤ (x46_2 : Int) := of_decide_eq_true (by first | (with_reducible assumption) | assumption)
                        have q406 : x46_2 < (l0.length : Int) := of_decide_eq_true (by first | (with_reducible assumption) | assumption)
                        obtain ⟨ad406, e406, hx406_0, hx406_1⟩ := at_T41 HR0.out x46_2 p406 q406
                        cases e406
                        replace hx406_0 := (HB.out.cell (World.block_lt_of_cell? w _ hx406_0)).trans hx406_0
                        replace hx406_1 := (HB.out.cell (World.block_lt_of_cell? w _ hx406_1)).trans hx406_1
                        replace p406 := eq_true p406
                        replace q406 := eq_true q406
                        go_wp2_with (first | ((with_reducible refine gate_dst (N := 14) rfl ?_); (try (refine gate_guard (by rfl) ?_; dsimp only)); refine box_event ?hg (N := 14) ?hd (cs := #[.int .i64 0, .int .i64 0]) (t := 41) ?hr ?_; (case hd => rfl); (case hg => rfl); (case hr => first | (go_simp; done) | (go_simp; rfl)); intro gb407 hg w23 hbox hb; have n0_ := Aside0.mk (below_step (by repeat (first | (with_reducible first | exact HB.out | apply below_alloc | apply pw_below_drewN | apply below_drew1) | exact HB.out)) hb); have n1_ := Aside0.mk (hbox); have n2_ := Aside0.mk ((by rw [hg]; exact (below_size (by repeat (first | (with_reducible first | exact HB.out | apply below_alloc | apply pw_below_drewN | apply below_drew1) | exact HB.out))) : w.heap.size ≤ gb407)); have n3_ := Aside0.mk ((by rw [hg]; exact (below_size (by repeat (first | (with_reducible first | exact HB.out | apply below_alloc | apply pw_below_drewN | apply below_drew1) | exact HB.out))) : w.heap.size ≤ gb407)); clear HB; have HB := n0_; have BK407 := n1_; have GW407 := n2_; have GE407 := n3_; clear n0_ n1_ n2_ n3_; clear hb hbox hg; have hcz24_0 : w23.cell? ⟨gb407, 0, none⟩ = some (.int .i64 0) := (blk_cell BK407.out 0).trans rfl; have hcz24_1 : w23.cell? ⟨gb407, 1, none⟩ = some (.int .i64 0) := (blk_cell BK407.out 1).trans rfl; have hfz24_0 := blk_frozen BK407.out 0; have hfz24_1 := blk_frozen BK407.out 1))
                        go_roundg k2
                        case measure => have := HJ5.out; have := HK2.out; omega
                        case rel => exact ⟨(false), (wrap64 (x46_2 + 1)), (by first | rfl | (simp; done) | (simp [*]; done)), (by first | rfl | (simp; done) | (simp [*]; done)), H', ⟨by have := HJ5.out; have := HK2.out; omega⟩, ⟨by repeat (first | (with_reducible first | exact HB.out | apply below_alloc | apply pw_below_drewN | apply below_drew1 | refine below_set ?_ GE407.out) | exact HB.out)⟩⟩
                  · rw [if_neg c16] at H
                    exact absurd H (by simp)
                · rw [if_neg c15] at H
                  exact absurd H (by simp)
              · rw [if_neg c14] at H
                have c14b0 : decide (x46_2 < (l0.length : Int)) = false := decide_eq_false c14
                clear c14
                replace H := Option.bind_eq_some_iff.mp H
                obtain ⟨⟨t408, t409⟩, A250, H⟩ := H
                replace H : ((some (([] : List Int) : List Int)).bind fun y410 => (if y410.length + l2.length < 17592186044416 then ((some (y410 ++ l2 : List Int)).bind fun y413 => (if 0 ≤ (Int.tmod (wrap64 (a3)) (l2.length : Int)) then (if (Int.tmod (wrap64 (a3)) (l2.length : Int)) < (y413.length : Int) then ((some (y413.set ((Int.tmod (wrap64 (a3)) (l2.length : Int)) : Int).toNat a4 : List Int)).bind fun y416 => (if x12_2 = true then (if (Int.tmod (wrap64 (a3)) (l2.length : Int)) < (l2.length : Int) then ((span_Wrap.f (rd l2 (Int.tmod (wrap64 (a3)) (l2.length : Int)))).bind fun t418 => ((term_Eval.f k2 l0 l1 (y416.set ((Int.tmod (wrap64 (a3)) (l2.length : Int)) : Int).toNat t418)).bind fun bt420 => (if t408 = bt420.1 then (if t409 = bt420.2 then ((handshakerlaw07_awake.f k2).bind fun t422 => (some t422)) else (some false)) else (some false)))) else (none)) else ((term_Eval.f k2 l0 l1 y416).bind fun bt423 => (if t408 = bt423.1 then (if t409 = bt423.2 then ((handshakerlaw07_awake.f k2).bind fun t425 => (some t425)) else (some false)) else (some false))))) else (none)) else (none))) else (none))) = some r := H
                have A25 := Aside0.mk A250
                clear A250
                obtain ⟨y410, hy410⟩ : ∃ y_ : List Int, y_ = (([] : List Int)) := ⟨_, rfl⟩
                replace H : (if y410.length + l2.length < 17592186044416 then ((some (y410 ++ l2 : List Int)).bind fun y413 => (if 0 ≤ (Int.tmod (wrap64 (a3)) (l2.length : Int)) then (if (Int.tmod (wrap64 (a3)) (l2.length : Int)) < (y413.length : Int) then ((some (y413.set ((Int.tmod (wrap64 (a3)) (l2.length : Int)) : Int).toNat a4 : List Int)).bind fun y416 => (if x12_2 = true then (if (Int.tmod (wrap64 (a3)) (l2.length : Int)) < (l2.length : Int) then ((span_Wrap.f (rd l2 (Int.tmod (wrap64 (a3)) (l2.length : Int)))).bind fun t418 => ((term_Eval.f k2 l0 l1 (y416.set ((Int.tmod (wrap64 (a3)) (l2.length : Int)) : Int).toNat t418)).bind fun bt420 => (if t408 = bt420.1 then (if t409 = bt420.2 then ((handshakerlaw07_awake.f k2).bind fun t422 => (some t422)) else (some false)) else (some false)))) else (none)) else ((term_Eval.f k2 l0 l1 y416).bind fun bt423 => (if t408 = bt423.1 then (if t409 = bt423.2 then ((handshakerlaw07_awake.f k2).bind fun t425 => (some t425)) else (some false)) else (some false))))) else (none)) else (none))) else (none)) = some r := by first | (rw [hy410]; with_reducible exact H) | (have H2_ := (Option.bind_some _ _).symm.trans H; rw [hy410]; with_reducible exact H2_) | (have H2_ := (Option.bind_some _ _).symm.trans H; with_reducible exact H2_) | with_reducible exact H | (rw [hy410]; exact H) | exact H
                have Ny410 := Aside0.mk hy410
                clear hy410
                by_cases c26 : y410.length + l2.length < 17592186044416
                · rw [if_pos c26] at H
                  have LMc26 := Aside0.mk c26
                  clear c26
                  obtain ⟨y413, hy413⟩ : ∃ y_ : List Int, y_ = (y410 ++ l2) := ⟨_, rfl⟩
                  replace H : (if 0 ≤ (Int.tmod (wrap64 (a3)) (l2.length : Int)) then (if (Int.tmod (wrap64 (a3)) (l2.length : Int)) < (y413.length : Int) then ((some (y413.set ((Int.tmod (wrap64 (a3)) (l2.length : Int)) : Int).toNat a4 : List Int)).bind fun y416 => (if x12_2 = true then (if (Int.tmod (wrap64 (a3)) (l2.length : Int)) < (l2.length : Int) then ((span_Wrap.f (rd l2 (Int.tmod (wrap64 (a3)) (l2.length : Int)))).bind fun t418 => ((term_Eval.f k2 l0 l1 (y416.set ((Int.tmod (wrap64 (a3)) (l2.length : Int)) : Int).toNat t418)).bind fun bt420 => (if t408 = bt420.1 then (if t409 = bt420.2 then ((handshakerlaw07_awake.f k2).bind fun t422 => (some t422)) else (some false)) else (some false)))) else (none)) else ((term_Eval.f k2 l0 l1 y416).bind fun bt423 => (if t408 = bt423.1 then (if t409 = bt423.2 then ((handshakerlaw07_awake.f k2).bind fun t425 => (some t425)) else (some false)) else (some false))))) else (none)) else (none)) = some r := by first | (rw [hy413]; with_reducible exact H) | (have H2_ := (Option.bind_some _ _).symm.trans H; rw [hy413]; with_reducible exact H2_) | (have H2_ := (Option.bind_some _ _).symm.trans H; with_reducible exact H2_) | with_reducible exact H | (rw [hy413]; exact H) | exact H
                  have Ny413 := Aside0.mk hy413
                  clear hy413
                  obtain ⟨ji27, hji27⟩ : ∃ j_ : Int, (Int.tmod (wrap64 (a3)) (l2.length : Int)) = j_ := ⟨_, rfl⟩
                  replace H : (if 0 ≤ (ji27) then (if (ji27) < (y413.length : Int) then ((some (y413.set ((ji27) : Int).toNat a4 : List Int)).bind fun y416 => (if x12_2 = true then (if (ji27) < (l2.length : Int) then ((span_Wrap.f (rd l2 (ji27))).bind fun t418 => ((term_Eval.f k2 l0 l1 (y416.set ((ji27) : Int).toNat t418)).bind fun bt420 => (if t408 = bt420.1 then (if t409 = bt420.2 then ((handshakerlaw07_awake.f k2).bind fun t422 => (some t422)) else (some false)) else (some false)))) else (none)) else ((term_Eval.f k2 l0 l1 y416).bind fun bt423 => (if t408 = bt423.1 then (if t409 = bt423.2 then ((handshakerlaw07_awake.f k2).bind fun t425 => (some t425)) else (some false)) else (some false))))) else (none)) else (none)) = some r := by first | (rw [hji27] at H; exact H) | (simp only [hji27] at H ⊢; exact H)
                  (try rw [hji27] at A25)
                  by_cases c28 : 0 ≤ (ji27)
                  · rw [if_pos c28] at H
                    have c28b0 : decide (0 ≤ (ji27)) = true := decide_eq_true c28
                    clear c28
                    by_cases c29 : (ji27) < (y413.length : Int)
                    · rw [if_pos c29] at H
                      have c29b0 : decide ((ji27) < (y413.length : Int)) = true := decide_eq_true c29
                      clear c29
                      obtain ⟨y416, hy416⟩ : ∃ y_ : List Int, y_ = (y413.set ((ji27) : Int).toNat a4) := ⟨_, rfl⟩
                      replace H : (if x12_2 = true then (if (ji27) < (l2.length : Int) then ((span_Wrap.f (rd l2 (ji27))).bind fun t418 => ((term_Eval.f k2 l0 l1 (y416.set ((ji27) : Int).toNat t418)).bind fun bt420 => (if t408 = bt420.1 then (if t409 = bt420.2 then ((handshakerlaw07_awake.f k2).bind fun t422 => (some t422)) else (some false)) else (some false)))) else (none)) else ((term_Eval.f k2 l0 l1 y416).bind fun bt423 => (if t408 = bt423.1 then (if t409 = bt423.2 then ((handshakerlaw07_awake.f k2).bind fun t425 => (some t425)) else (some false)) else (some false)))) = some r := by first | (rw [hy416]; with_reducible exact H) | (have H2_ := (Option.bind_some _ _).symm.trans H; rw [hy416]; with_reducible exact H2_) | (have H2_ := (Option.bind_some _ _).symm.trans H; with_reducible exact H2_) | with_reducible exact H | (rw [hy416]; exact H) | exact H
                      have Ny416 := Aside0.mk hy416
                      clear hy416
                      by_cases c31 : x12_2 = true
                      · subst c31
                        have H1 : (if (ji27) < (l2.length : Int) then ((span_Wrap.f (rd l2 (ji27))).bind fun t418 => ((term_Eval.f k2 l0 l1 (y416.set ((ji27) : Int).toNat t418)).bind fun bt420 => (if t408 = bt420.1 then (if t409 = bt420.2 then ((handshakerlaw07_awake.f k2).bind fun t422 => (some t422)) else (some false)) else (some false)))) else (none)) = some r := by rw [if_pos rfl] at H; exact H
                        clear H
                        have H := H1
                        clear H1
                        by_cases c32 : (ji27) < (l2.length : Int)
                        · rw [if_pos c32] at H
                          have c32b0 : decide ((ji27) < (l2.length : Int)) = true := decide_eq_true c32
                          clear c32
                          replace H := Option.bind_eq_some_iff.mp H
                          obtain ⟨t418, A330, H⟩ := H
                          replace H : ((term_Eval.f k2 l0 l1 (y416.set ((ji27) : Int).toNat t418)).bind fun bt420 => (if t408 = bt420.1 then (if t409 = bt420.2 then ((handshakerlaw07_awake.f k2).bind fun t422 => (some t422)) else (some false)) else (some false))) = some r := H
                          have A33 := Aside0.mk A330
                          clear A330
                          obtain ⟨y419, hy419⟩ : ∃ y_ : List Int, y_ = (y416.set ((ji27) : Int).toNat t418) := ⟨_, rfl⟩
                          replace H : ((term_Eval.f k2 l0 l1 y419).bind fun bt420 => (if t408 = bt420.1 then (if t409 = bt420.2 then ((handshakerlaw07_awake.f k2).bind fun t422 => (some t422)) else (some false)) else (some false))) = some r := by first | (rw [hy419]; with_reducible exact H) | (have H2_ := (Option.bind_some _ _).symm.trans H; rw [hy419]; with_reducible exact H2_) | (have H2_ := (Option.bind_some _ _).symm.trans H; with_reducible exact H2_) | with_reducible exact H | (rw [hy419]; exact H) | exact H
                          have Ny419 := Aside0.mk hy419
                          clear hy419
                          replace H := Option.bind_eq_some_iff.mp H
                          obtain ⟨⟨t420, t421⟩, A350, H⟩ := H
                          replace H : (if t408 = t420 then (if t409 = t421 then ((handshakerlaw07_awake.f k2).bind fun t422 => (some t422)) else (some false)) else (some false)) = some r := H
                          have A35 := Aside0.mk A350
                          clear A350
                          by_cases c36 : t408 = t420
                          · rw [if_pos c36] at H
                            have c36b0 : (t408 == t420) = true := beq_iff_eq.mpr c36
                            have c36b1 : (t408 != t420) = false := bne_eq_false_iff_eq.mpr c36
                            clear c36
                            by_cases c37 : t409 = t421
                            · rw [if_pos c37] at H
                              have c37b0 : (t409 == t421) = true := beq_iff_eq.mpr c37
                              have c37b1 : (t409 != t421) = false := bne_eq_false_iff_eq.mpr c37
                              clear c37
                              replace H := Option.bind_eq_some_iff.mp H
                              obtain ⟨t422, A380, H⟩ := H
                              replace H : (some t422) = some r := H
                              have A38 := Aside0.mk A380
                              clear A380
                              obtain rfl := Option.some.inj H
                              go_wp2_with (first | ((with_reducible refine gate_callee (f := 28) rfl ?_); refine goesL_ (some 67) rfl rfl Try.func28 (by kernel_rfl) rfl #[.slice A0 l0.length c0, .slice A1 l1.length c1, .slice A2 l2.length c2] rfl (by (try simp only [List.map_toArray, List.map_cons, List.map_nil]); first | done | rfl | (simp only [List.length_drop, List.length_take]; rfl)) ?_; (with_reducible refine (term_Eval.calls k2 _ _ l0 _ _ l1 _ _ l2 t408 t409 _ ?side1 ?side2 ?side3 ?side4 ?side5 ?side6 A25.out).mono ?_); (case side1 => repeat (first | exact (Kd.C_below HR0.out HB.out) | (with_reducible refine Kd.C_alloc ?_ _) | (with_reducible refine Kd.C_drewN ?_ _) | (with_reducible refine Kd.C_drew ?_))); (case side2 => exact HC0.out); (case side3 => repeat (first | exact (Kd.C_below HR1.out HB.out) | (with_reducible refine Kd.C_alloc ?_ _) | (with_reducible refine Kd.C_drewN ?_ _) | (with_reducible refine Kd.C_drew ?_))); (case side4 => exact HC1.out); (case side5 => repeat (first | exact (Kd.C_below HR2.out HB.out) | (with_reducible refine Kd.C_alloc ?_ _) | (with_reducible refine Kd.C_drewN ?_ _) | (with_reducible refine Kd.C_drew ?_))); (case side6 => exact HC2.out); rintro e w39 ⟨rfl, hb⟩; refine ⟨_, rfl, ?_⟩; have n0_ := Aside0.mk (below_step (by repeat (first | (with_reducible first | exact HB.out | apply below_alloc | apply pw_below_drewN | apply below_drew1) | exact HB.out)) hb); clear HB; have HB := n0_; clear n0_; (try clear hb); (try clear hb2); (try clear hk); (try clear hi)) | ((with_reducible refine gate_dst (N := 70) rfl ?_); (try (refine gate_guard (by rfl) ?_; dsimp only)); refine Kd.R_lit (Kd.int .i64) _ 3 ?hg (N := 70) ?hd (xs := ([] : List Int)) (inner := []) (ok := fun _ => True) (okp := fun _ => True) ?hr ?hp (fun _ hk => hk) trivial (Below.refl _ _) (Nat.le_refl _) (by simp) ?_; (case hd => rfl); (case hg => rfl); (case hr => first | (go_simp; done) | (go_simp; rfl)); (case hp => exact (Reps.none _ _)); intro v411 w40 ho41 hb hg_ hnew_; clear hg_ hnew_; (first | rw [← Ny410.out] at ho41 | (simp only [Int.reduceToNat] at ho41; rw [← Ny410.out] at ho41)); have n0_ := Aside0.mk (Kd.R_lower ho41 (below_size (by repeat (first | (with_reducible first | exact HB.out | apply below_alloc | apply pw_below_drewN | apply below_drew1) | exact HB.out)))); have n1_ := Aside0.mk (below_step (by repeat (first | (with_reducible first | exact HB.out | apply below_alloc | apply pw_below_drewN | apply below_drew1) | exact HB.out)) hb); clear HB; have HO412 := n0_; have HB := n1_; clear n0_ n1_; clear hb ho41) | ((with_reducible refine gate_builtin (b := .append) (xs := #[.tmp 70, .tmp 71]) rfl ?_); (try (refine gate_guard (by rfl) ?_; dsimp only)); at_builtin; refine Kd.R_append_rows (Kd.int .i64) (w0 := w) w.heap.size rfl (.tmp 70) (.tmp 71) 31 3 (.int .i64 0) 8 rfl Try.underlying31 info3 rfl (by decide) (by omega) v411 y410 l2 _ _ _ (fun _ => True) (fun _ => False) rfl rfl ?aO ?aR (fun _ _ h => h) (fun _ h => h.elim) ?aF ?aB ?aS ?aL ?_; (case aR => repeat (first | exact (Kd.C_below HR2.out HB.out) | (with_reducible refine Kd.C_alloc ?_ _) | (with_reducible refine Kd.C_drewN ?_ _) | (with_reducible refine Kd.C_drew ?_))); (case aB => exact (by repeat (first | (with_reducible first | exact HB.out | apply below_alloc | apply pw_below_drewN | apply below_drew1) | exact HB.out))); (case aF => exact (fun _ _ => trivial)); (case aO => exact (by (with_reducible repeat (first | apply Kd.R_alloc | apply Kd.R_drewN | apply Kd.R_drew)); exact HO412.out)); (case aS => exact (below_size (by repeat (first | (with_reducible first | exact HB.out | apply below_alloc | apply pw_below_drewN | apply below_drew1) | exact HB.out)))); (case aL => have := LMc26.out; omega); intro v414 w42 ho hb hg hat; rw [← Ny413.out] at ho; have n0_ := Aside0.mk (hb); have n1_ := Aside0.mk (ho); clear HB; clear HO412; have HB := n0_; have HO415 := n1_; clear n0_ n1_; clear ho hb hg hat; have p30 : 0 ≤ ((ji27) : Int) := of_decide_eq_true (by first | (with_reducible assumption) | assumption); have q30 : ((ji27) : Int) < ((y413.length : Int) : Int) := of_decide_eq_true (by first | (with_reducible assumption) | assumption); obtain ⟨go30, co30, eo30, gb30, gl30, cl30, HG30⟩ := Kd.R_form HO415.out (by omega); (first | cases eo30 | (injection eo30 with ea_ en_ ec_; (first | subst ea_ | (injection ea_ with ea_; subst ea_)); subst ec_; clear en_)); have GB30 := Aside0.mk gb30; have GG30 := Aside0.mk HG30; clear gb30 gl30 HG30; obtain ⟨hx30_0, hf30_0⟩ := Kd.R_celln 0 HO415.out ((ji27) : Int) p30 q30; replace p30 := eq_true p30; replace q30 := eq_true q30; obtain ⟨hy43_, hz43_⟩ := Kd.R_celln 0 HO415.out ((ji27) : Int) (of_decide_eq_true (by first | (with_reducible assumption) | assumption)) (of_decide_eq_true (by first | (with_reducible assumption) | assumption)); have HP43 := Kd.R_putg HO415.out ((ji27) : Int) a4) | ((with_reducible refine gate_store (t := 3) (p := 76) rfl ?_); refine store_event (t := 3) (p := 76) (v := ?vo_w44) (w1 := (w42.setCell ⟨go30, ((ji27) : Int).toNat, none⟩ (.int .i64 a4))) ?hg ?ho ?hn ?hr ?_; (case ho => rfl); (case hg => rfl); (case hn => rfl); (case hr => first | (go_simp; done) | (go_simp; rfl)); intro w44 hw; have hg : w42.grownBy w44 (some go30) := (by rw [hw]; exact HP43.2); have hp_ : Kd.R (Kd.int .i64) 3 w44 w.heap.size (fun _ => True) (.slice (some ⟨go30, 0, none⟩) y413.length co30) y416 := (by rw [hw, Ny416.out]; exact HP43.1); clear HP43; have n0_ := Aside0.mk (hp_); have n1_ := Aside0.mk ((by rw [hw]; exact below_set (HB.out) GB30.out : Below w.heap.size w w44)); clear HO415; clear HB; have HO415 := n0_; have HB := n1_; clear n0_ n1_; clear hg hw hp_; have p417 : 0 ≤ ((ji27) : Int) := of_decide_eq_true (by first | (with_reducible assumption) | assumption); have q417 : (ji27) < (l2.length : Int) := of_decide_eq_true (by first | (with_reducible assumption) | assumption); obtain ⟨ad417, e417, hx417_0⟩ := Kd.at_int HR2.out (ji27) p417 q417; cases e417; replace hx417_0 := (HB.out.cell (World.block_lt_of_cell? w _ hx417_0)).trans hx417_0; replace p417 := eq_true p417; replace q417 := eq_true q417) | ((with_reducible refine gate_callee (f := 35) rfl ?_); refine goesL_ (some 84) rfl rfl Try.func35 (by kernel_rfl) rfl #[.int .i64 (rd l2 (ji27))] rfl (by (try simp only [List.map_toArray, List.map_cons, List.map_nil]); first | done | (simp only [hji27]; rfl) | rfl | (simp only [List.length_drop, List.length_take]; rfl)) ?_; (with_reducible refine (span_Wrap.calls (rd l2 (ji27)) t418 _ A33.out).mono ?_); rintro e w' ⟨rfl, ⟨nd, rfl⟩⟩; refine ⟨_, rfl, ?_⟩; (try (rw [drewN_self w44]; generalize hq_ : World.drewN w44 _ = w44; have n0_ : Aside0 (Kd.R (Kd.int .i64) 3 w44 w.heap.size (fun _ => True) (.slice (some ⟨go30, 0, none⟩) y413.length co30) y416) := ⟨by rw [← hq_]; exact (by (with_reducible repeat (first | apply Kd.R_alloc | apply Kd.R_drewN | apply Kd.R_drew)); exact HO415.out)⟩; have n1_ : Aside0 (Below w.heap.size w w44) := ⟨by rw [← hq_]; exact (by repeat (first | (with_reducible first | exact HB.out | apply below_alloc | apply pw_below_drewN | apply below_drew1) | exact HB.out))⟩; clear HO415 HB hq_; have HO415 := n0_; have HB := n1_; clear n0_ n1_)); have p34 : 0 ≤ ((ji27) : Int) := of_decide_eq_true (by first | (with_reducible assumption) | assumption); have q34 : ((ji27) : Int) < ((y413.length : Int) : Int) := of_decide_eq_true (by first | (with_reducible assumption) | assumption); obtain ⟨hx34_0, hf34_0⟩ := Kd.R_celln 0 HO415.out ((ji27) : Int) p34 q34; replace p34 := eq_true p34; replace q34 := eq_true q34; obtain ⟨hy45_, hz45_⟩ := Kd.R_celln 0 HO415.out ((ji27) : Int) (of_decide_eq_true (by first | (with_reducible assumption) | assumption)) (of_decide_eq_true (by first | (with_reducible assumption) | assumption)); have HP45 := Kd.R_putg HO415.out ((ji27) : Int) t418) | ((with_reducible refine gate_store (t := 3) (p := 85) rfl ?_); refine store_event (t := 3) (p := 85) (v := ?vo_w46) (w1 := (w44.setCell ⟨go30, ((ji27) : Int).toNat, none⟩ (.int .i64 t418))) ?hg ?ho ?hn ?hr ?_; (case ho => rfl); (case hg => rfl); (case hn => rfl); (case hr => first | (go_simp; done) | (go_simp; rfl)); intro w46 hw; have hg : w44.grownBy w46 (some go30) := (by rw [hw]; exact HP45.2); have hp_ : Kd.R (Kd.int .i64) 3 w46 w.heap.size (fun _ => True) (.slice (some ⟨go30, 0, none⟩) y413.length co30) y419 := (by rw [hw, Ny419.out]; exact HP45.1); clear HP45; have n0_ := Aside0.mk (hp_); have n1_ := Aside0.mk ((by rw [hw]; exact below_set (HB.out) GB30.out : Below w.heap.size w w46)); clear HO415; clear HB; have HO415 := n0_; have HB := n1_; clear n0_ n1_; clear hg hw hp_) | ((with_reducible refine gate_callee (f := 28) rfl ?_); refine goesL_ (some 90) rfl rfl Try.func28 (by kernel_rfl) rfl #[.slice A0 l0.length c0, .slice A1 l1.length c1, .slice (some ⟨go30, 0, none⟩) y419.length co30] rfl (by (try simp only [List.map_toArray, List.map_cons, List.map_nil]); first | done | (rw [show y419.length = y413.length from (Kd.R_reads' HO415.out).1.symm] <;> rfl) | rfl | (simp only [List.length_drop, List.length_take]; rfl)) ?_; (with_reducible refine (term_Eval.calls k2 _ _ l0 _ _ l1 _ _ y419 t420 t421 _ ?side1 ?side2 ?side3 ?side4 ?side5 ?side6 A35.out).mono ?_); (case side1 => repeat (first | exact (Kd.C_below HR0.out HB.out) | (with_reducible refine Kd.C_alloc ?_ _) | (with_reducible refine Kd.C_drewN ?_ _) | (with_reducible refine Kd.C_drew ?_))); (case side2 => exact HC0.out); (case side3 => repeat (first | exact (Kd.C_below HR1.out HB.out) | (with_reducible refine Kd.C_alloc ?_ _) | (with_reducible refine Kd.C_drewN ?_ _) | (with_reducible refine Kd.C_drew ?_))); (case side4 => exact HC1.out); (case side5 => repeat (first | exact (Kd.R_reads' HO415.out).2.2 | (with_reducible refine Kd.C_alloc ?_ _) | (with_reducible refine Kd.C_drewN ?_ _) | (with_reducible refine Kd.C_drew ?_))); (case side6 => rw [show y419.length = y413.length from (Kd.R_reads' HO415.out).1.symm]; exact (Kd.R_reads' HO415.out).2.1); rintro e w47 ⟨rfl, hb⟩; refine ⟨_, rfl, ?_⟩; have n0_ := Aside0.mk (Kd.R_below (by (with_reducible repeat (first | apply Kd.R_alloc | apply Kd.R_drewN | apply Kd.R_drew)); exact HO415.out) hb); have n1_ := Aside0.mk (below_step (by repeat (first | (with_reducible first | exact HB.out | apply below_alloc | apply pw_below_drewN | apply below_drew1) | exact HB.out)) hb); clear HO415; clear HB; have HO415 := n0_; have HB := n1_; clear n0_ n1_; (try clear hb); (try clear hb2); (try clear hk); (try clear hi)) | (go_at_call 27; (with_reducible refine (handshakerlaw07_awake.calls k2  t422 _ A38.out).mono ?_); rintro e w48 ⟨rfl, hb⟩; have n0_ := Aside0.mk (Kd.R_below (by (with_reducible repeat (first | apply Kd.R_alloc | apply Kd.R_drewN | apply Kd.R_drew)); exact HO415.out) hb); have n1_ := Aside0.mk (below_step (by repeat (first | (with_reducible first | exact HB.out | apply below_alloc | apply pw_below_drewN | apply below_drew1) | exact HB.out)) hb); clear HO415; clear HB; have HO415 := n0_; have HB := n1_; clear n0_ n1_; (try clear hb); (try clear hb2); (try clear hk); (try clear hi)))
                              go_ret
                              exact ⟨by first | rfl | (simp [errW_none, errW_some] <;> rfl) | (simp only [← hji27]; first | rfl | (simp [errW_none, errW_some] <;> rfl)) | (simp [*, errW_none, errW_some] <;> rfl), by repeat (first | (with_reducible first | exact HB.out | apply below_alloc | apply pw_below_drewN | apply below_drew1) | exact HB.out)⟩
                            · rw [if_neg c37] at H
                              have c37b0 : (t409 == t421) = false := beq_eq_false_iff_ne.mpr c37
                              have c37b1 : (t409 != t421) = true := bne_iff_ne.mpr c37
                              exact absurd (Option.some.inj H) (by rw [HT.out]; decide)
                          · rw [if_neg c36] at H
                            have c36b0 : (t408 == t420) = false := beq_eq_false_iff_ne.mpr c36
                            have c36b1 : (t408 != t420) = true := bne_iff_ne.mpr c36
                            exact absurd (Option.some.inj H) (by rw [HT.out]; decide)
                        · rw [if_neg c32] at H
                          exact absurd H (by simp)
                      · replace c31 := Bool.eq_false_iff.mpr c31
                        subst c31
                        have H1 : ((term_Eval.f k2 l0 l1 y416).bind fun bt423 => (if t408 = bt423.1 then (if t409 = bt423.2 then ((handshakerlaw07_awake.f k2).bind fun t425 => (some t425)) else (some false)) else (some false))) = some r := by rw [if_neg (show ¬ (false = true) by decide)] at H; exact H
                        clear H
                        have H := H1
                        clear H1
                        replace H := Option.bind_eq_some_iff.mp H
                        obtain ⟨⟨t423, t424⟩, A490, H⟩ := H
                        replace H : (if t408 = t423 then (if t409 = t424 then ((handshakerlaw07_awake.f k2).bind fun t425 => (some t425)) else (some false)) else (some false)) = some r := H
                        have A49 := Aside0.mk A490
                        clear A490
                        by_cases c50 : t408 = t423
                        · rw [if_pos c50] at H
                          have c50b0 : (t408 == t423) = true := beq_iff_eq.mpr c50
                          have c50b1 : (t408 != t423) = false := bne_eq_false_iff_eq.mpr c50
                          clear c50
                          by_cases c51 : t409 = t424
                          · rw [if_pos c51] at H
                            have c51b0 : (t409 == t424) = true := beq_iff_eq.mpr c51
                            have c51b1 : (t409 != t424) = false := bne_eq_false_iff_eq.mpr c51
                            clear c51
                            replace H := Option.bind_eq_some_iff.mp H
                            obtain ⟨t425, A520, H⟩ := H
                            replace H : (some t425) = some r := H
                            have A52 := Aside0.mk A520
                            clear A520
                            obtain rfl := Option.some.inj H
                            go_wp2_with (first | ((with_reducible refine gate_callee (f := 28) rfl ?_); refine goesL_ (some 67) rfl rfl Try.func28 (by kernel_rfl) rfl #[.slice A0 l0.length c0, .slice A1 l1.length c1, .slice A2 l2.length c2] rfl (by (try simp only [List.map_toArray, List.map_cons, List.map_nil]); first | done | rfl | (simp only [List.length_drop, List.length_take]; rfl)) ?_; (with_reducible refine (term_Eval.calls k2 _ _ l0 _ _ l1 _ _ l2 t408 t409 _ ?side1 ?side2 ?side3 ?side4 ?side5 ?side6 A25.out).mono ?_); (case side1 => repeat (first | exact (Kd.C_below HR0.out HB.out) | (with_reducible refine Kd.C_alloc ?_ _) | (with_reducible refine Kd.C_drewN ?_ _) | (with_reducible refine Kd.C_drew ?_))); (case side2 => exact HC0.out); (case side3 => repeat (first | exact (Kd.C_below HR1.out HB.out) | (with_reducible refine Kd.C_alloc ?_ _) | (with_reducible refine Kd.C_drewN ?_ _) | (with_reducible refine Kd.C_drew ?_))); (case side4 => exact HC1.out); (case side5 => repeat (first | exact (Kd.C_below HR2.out HB.out) | (with_reducible refine Kd.C_alloc ?_ _) | (with_reducible refine Kd.C_drewN ?_ _) | (with_reducible refine Kd.C_drew ?_))); (case side6 => exact HC2.out); rintro e w53 ⟨rfl, hb⟩; refine ⟨_, rfl, ?_⟩; have n0_ := Aside0.mk (below_step (by repeat (first | (with_reducible first | exact HB.out | apply below_alloc | apply pw_below_drewN | apply below_drew1) | exact HB.out)) hb); clear HB; have HB := n0_; clear n0_; (try clear hb); (try clear hb2); (try clear hk); (try clear hi)) | ((with_reducible refine gate_dst (N := 70) rfl ?_); (try (refine gate_guard (by rfl) ?_; dsimp only)); refine Kd.R_lit (Kd.int .i64) _ 3 ?hg (N := 70) ?hd (xs := ([] : List Int)) (inner := []) (ok := fun _ => True) (okp := fun _ => True) ?hr ?hp (fun _ hk => hk) trivial (Below.refl _ _) (Nat.le_refl _) (by simp) ?_; (case hd => rfl); (case hg => rfl); (case hr => first | (go_simp; done) | (go_simp; rfl)); (case hp => exact (Reps.none _ _)); intro v411 w54 ho55 hb hg_ hnew_; clear hg_ hnew_; (first | rw [← Ny410.out] at ho55 | (simp only [Int.reduceToNat] at ho55; rw [← Ny410.out] at ho55)); have n0_ := Aside0.mk (Kd.R_lower ho55 (below_size (by repeat (first | (with_reducible first | exact HB.out | apply below_alloc | apply pw_below_drewN | apply below_drew1) | exact HB.out)))); have n1_ := Aside0.mk (below_step (by repeat (first | (with_reducible first | exact HB.out | apply below_alloc | apply pw_below_drewN | apply below_drew1) | exact HB.out)) hb); clear HB; have HO412 := n0_; have HB := n1_; clear n0_ n1_; clear hb ho55) | ((with_reducible refine gate_builtin (b := .append) (xs := #[.tmp 70, .tmp 71]) rfl ?_); (try (refine gate_guard (by rfl) ?_; dsimp only)); at_builtin; refine Kd.R_append_rows (Kd.int .i64) (w0 := w) w.heap.size rfl (.tmp 70) (.tmp 71) 31 3 (.int .i64 0) 8 rfl Try.underlying31 info3 rfl (by decide) (by omega) v411 y410 l2 _ _ _ (fun _ => True) (fun _ => False) rfl rfl ?aO ?aR (fun _ _ h => h) (fun _ h => h.elim) ?aF ?aB ?aS ?aL ?_; (case aR => repeat (first | exact (Kd.C_below HR2.out HB.out) | (with_reducible refine Kd.C_alloc ?_ _) | (with_reducible refine Kd.C_drewN ?_ _) | (with_reducible refine Kd.C_drew ?_))); (case aB => exact (by repeat (first | (with_reducible first | exact HB.out | apply below_alloc | apply pw_below_drewN | apply below_drew1) | exact HB.out))); (case aF => exact (fun _ _ => trivial)); (case aO => exact (by (with_reducible repeat (first | apply Kd.R_alloc | apply Kd.R_drewN | apply Kd.R_drew)); exact HO412.out)); (case aS => exact (below_size (by repeat (first | (with_reducible first | exact HB.out | apply below_alloc | apply pw_below_drewN | apply below_drew1) | exact HB.out)))); (case aL => have := LMc26.out; omega); intro v414 w56 ho hb hg hat; rw [← Ny413.out] at ho; have n0_ := Aside0.mk (hb); have n1_ := Aside0.mk (ho); clear HB; clear HO412; have HB := n0_; have HO415 := n1_; clear n0_ n1_; clear ho hb hg hat; have p30 : 0 ≤ ((ji27) : Int) := of_decide_eq_true (by first | (with_reducible assumption) | assumption); have q30 : ((ji27) : Int) < ((y413.length : Int) : Int) := of_decide_eq_true (by first | (with_reducible assumption) | assumption); obtain ⟨go30, co30, eo30, gb30, gl30, cl30, HG30⟩ := Kd.R_form HO415.out (by omega); (first | cases eo30 | (injection eo30 with ea_ en_ ec_; (first | subst ea_ | (injection ea_ with ea_; subst ea_)); subst ec_; clear en_)); have GB30 := Aside0.mk gb30; have GG30 := Aside0.mk HG30; clear gb30 gl30 HG30; obtain ⟨hx30_0, hf30_0⟩ := Kd.R_celln 0 HO415.out ((ji27) : Int) p30 q30; replace p30 := eq_true p30; replace q30 := eq_true q30; obtain ⟨hy57_, hz57_⟩ := Kd.R_celln 0 HO415.out ((ji27) : Int) (of_decide_eq_true (by first | (with_reducible assumption) | assumption)) (of_decide_eq_true (by first | (with_reducible assumption) | assumption)); have HP57 := Kd.R_putg HO415.out ((ji27) : Int) a4) | ((with_reducible refine gate_store (t := 3) (p := 76) rfl ?_); refine store_event (t := 3) (p := 76) (v := ?vo_w58) (w1 := (w56.setCell ⟨go30, ((ji27) : Int).toNat, none⟩ (.int .i64 a4))) ?hg ?ho ?hn ?hr ?_; (case ho => rfl); (case hg => rfl); (case hn => rfl); (case hr => first | (go_simp; done) | (go_simp; rfl)); intro w58 hw; have hg : w56.grownBy w58 (some go30) := (by rw [hw]; exact HP57.2); have hp_ : Kd.R (Kd.int .i64) 3 w58 w.heap.size (fun _ => True) (.slice (some ⟨go30, 0, none⟩) y413.length co30) y416 := (by rw [hw, Ny416.out]; exact HP57.1); clear HP57; have n0_ := Aside0.mk (hp_); have n1_ := Aside0.mk ((by rw [hw]; exact below_set (HB.out) GB30.out : Below w.heap.size w w58)); clear HO415; clear HB; have HO415 := n0_; have HB := n1_; clear n0_ n1_; clear hg hw hp_) | ((with_reducible refine gate_callee (f := 28) rfl ?_); refine goesL_ (some 90) rfl rfl Try.func28 (by kernel_rfl) rfl #[.slice A0 l0.length c0, .slice A1 l1.length c1, .slice (some ⟨go30, 0, none⟩) y416.length co30] rfl (by (try simp only [List.map_toArray, List.map_cons, List.map_nil]); first | done | (rw [show y416.length = y413.length from (Kd.R_reads' HO415.out).1.symm] <;> rfl) | rfl | (simp only [List.length_drop, List.length_take]; rfl)) ?_; (with_reducible refine (term_Eval.calls k2 _ _ l0 _ _ l1 _ _ y416 t423 t424 _ ?side1 ?side2 ?side3 ?side4 ?side5 ?side6 A49.out).mono ?_); (case side1 => repeat (first | exact (Kd.C_below HR0.out HB.out) | (with_reducible refine Kd.C_alloc ?_ _) | (with_reducible refine Kd.C_drewN ?_ _) | (with_reducible refine Kd.C_drew ?_))); (case side2 => exact HC0.out); (case side3 => repeat (first | exact (Kd.C_below HR1.out HB.out) | (with_reducible refine Kd.C_alloc ?_ _) | (with_reducible refine Kd.C_drewN ?_ _) | (with_reducible refine Kd.C_drew ?_))); (case side4 => exact HC1.out); (case side5 => repeat (first | exact (Kd.R_reads' HO415.out).2.2 | (with_reducible refine Kd.C_alloc ?_ _) | (with_reducible refine Kd.C_drewN ?_ _) | (with_reducible refine Kd.C_drew ?_))); (case side6 => rw [show y416.length = y413.length from (Kd.R_reads' HO415.out).1.symm]; exact (Kd.R_reads' HO415.out).2.1); rintro e w59 ⟨rfl, hb⟩; refine ⟨_, rfl, ?_⟩; have n0_ := Aside0.mk (Kd.R_below (by (with_reducible repeat (first | apply Kd.R_alloc | apply Kd.R_drewN | apply Kd.R_drew)); exact HO415.out) hb); have n1_ := Aside0.mk (below_step (by repeat (first | (with_reducible first | exact HB.out | apply below_alloc | apply pw_below_drewN | apply below_drew1) | exact HB.out)) hb); clear HO415; clear HB; have HO415 := n0_; have HB := n1_; clear n0_ n1_; (try clear hb); (try clear hb2); (try clear hk); (try clear hi)) | (go_at_call 27; (with_reducible refine (handshakerlaw07_awake.calls k2  t425 _ A52.out).mono ?_); rintro e w60 ⟨rfl, hb⟩; have n0_ := Aside0.mk (Kd.R_below (by (with_reducible repeat (first | apply Kd.R_alloc | apply Kd.R_drewN | apply Kd.R_drew)); exact HO415.out) hb); have n1_ := Aside0.mk (below_step (by repeat (first | (with_reducible first | exact HB.out | apply below_alloc | apply pw_below_drewN | apply below_drew1) | exact HB.out)) hb); clear HO415; clear HB; have HO415 := n0_; have HB := n1_; clear n0_ n1_; (try clear hb); (try clear hb2); (try clear hk); (try clear hi)))
                            go_ret
                            exact ⟨by first | rfl | (simp [errW_none, errW_some] <;> rfl) | (simp only [← hji27]; first | rfl | (simp [errW_none, errW_some] <;> rfl)) | (simp [*, errW_none, errW_some] <;> rfl), by repeat (first | (with_reducible first | exact HB.out | apply below_alloc | apply pw_below_drewN | apply below_drew1) | exact HB.out)⟩
                          · rw [if_neg c51] at H
                            have c51b0 : (t409 == t424) = false := beq_eq_false_iff_ne.mpr c51
                            have c51b1 : (t409 != t424) = true := bne_iff_ne.mpr c51
                            exact absurd (Option.some.inj H) (by rw [HT.out]; decide)
                        · rw [if_neg c50] at H
                          have c50b0 : (t408 == t423) = false := beq_eq_false_iff_ne.mpr c50
                          have c50b1 : (t408 != t423) = true := bne_iff_ne.mpr c50
                          exact absurd (Option.some.inj H) (by rw [HT.out]; decide)
                    · rw [if_neg c29] at H
                      exact absurd H (by simp)
                  · rw [if_neg c28] at H
                    exact absurd H (by simp)
                · rw [if_neg c26] at H
                  exact absurd H (by simp)

/-- THE ONE PURE STATEMENT of handshakerlaw07_TermRegs. -/
def handshakerlaw07_TermRegs.Pure : Prop := ∀ (l0 : List (S41)) (l1 : List (S58)) (l2 : List Int) (a3 : Int) (a4 : Int), l0.length ≤ maxLen → l0.length * 16 ≤ 140737488351232 → (∀ y ∈ l0, wfS41 y) → l1.length ≤ maxLen → l1.length * 16 ≤ 140737488351232 → (∀ y ∈ l1, wfS58 y) → l2.length ≤ maxLen → l2.length * 8 ≤ 140737488351232 → (∀ y ∈ l2, (Lit.int .i64 y).wf = true) → (Lit.int .u8 a3).wf = true → (Lit.int .i64 a4).wf = true → ∃ k, handshakerlaw07_TermRegs.f k l0 l1 l2 a3 a4 = some true

end Go.Proofs.Ytbcpnbmegaodbaa.Tc
