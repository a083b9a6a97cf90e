-- PRINTED by print.py (a twelfth state) out of the translation. Not trusted: Lean checks it.
import Derived.Test.YtlfeohglfjnnhaaHpx0
import Derived.Test.YtlfeohglfjnnhaaHpx2
import Derived.Test.YtlfeohglfjnnhaaHpx3
import Derived.Test.YtlfeohglfjnnhaaHpx5
namespace Go.Proofs.Ytlfeohglfjnnhaa.Hp
open Go.Proofs.Ytlfeohglfjnnhaa.Ho
open Go.RowKit Go.Proofs.YtlfeohglfjnnhaaW.PrintWords Go.Proofs.YtlfeohglfjnnhaaW.PrintLast Go.Proofs.YtlfeohglfjnnhaaW.PrintMore
attribute [local go_sem] max2_int min2_int max_two min_two max_three min_three max_four min_four   -- for this text's walks alone
set_option linter.unusedVariables false
set_option linter.unusedSimpArgs false

/-! ### handshakerlaw02_HeapFills: function 10 -/
mutual
def handshakerlaw02_HeapFills.j0 : Nat → Int → Int → List (S59) → Int → Bool → Option (Bool)
  | 0, _, _, _, _, _ => none
  | k + 1, x0, x1, x5, x6, x24 => if x24 = true then (if (x5.length : Int) = 0 then (if x6 = 1 then ((handshakerlaw02_awake.f k).bind fun t270 => (some t270)) else (some false)) else (some false)) else (handshakerlaw02_HeapFills.l0 k x0 x1 x5 x6 x0 0)
def handshakerlaw02_HeapFills.l0 : Nat → Int → Int → List (S59) → Int → Int → Int → Option (Bool)
  | 0, _, _, _, _, _, _ => none
  | k + 1, x0, x1, x5, x6, x35, x36 => if x36 < x35 then ((heap_Alloc.f k x5 (wrap64 (x1))).bind fun bt271 => (if bt271.2.2 = 0 then (if bt271.2.1 = x36 then (handshakerlaw02_HeapFills.l0 k x0 x1 bt271.1 x6 x35 (wrap64 (x36 + 1))) else (some false)) else (some false))) else ((heap_Alloc.f k x5 (wrap64 (x1))).bind fun bt276 => (if x6 = 0 then (if bt276.2.2 = 4 then (if bt276.2.1 = 0 then ((handshakerref02_Same.f k bt276.1 x5).bind fun t281 => (if t281 = true then ((heap_Live.f k x5).bind fun t282 => (if (t282.length : Int) = x0 then ((handshakerlaw02_awake.f k).bind fun t285 => (some t285)) else (some false))) else (some false))) else (some false)) else (some false)) else (some false)))
end
def handshakerlaw02_HeapFills.f (k : Nat) (a0 : Int) (a1 : Int) : Option (Bool) := (heap_New.f a0).bind fun bt266 => (if a0 < 1 then (handshakerlaw02_HeapFills.j0 k a0 a1 bt266.1 bt266.2 true) else (handshakerlaw02_HeapFills.j0 k a0 a1 bt266.1 bt266.2 (decide (a0 > 64))))
theorem handshakerlaw02_HeapFills.mono_l : ∀ k, (∀ y0 y1 y2 y3 y4, LeO (handshakerlaw02_HeapFills.j0 k y0 y1 y2 y3 y4) (handshakerlaw02_HeapFills.j0 (k + 1) y0 y1 y2 y3 y4)) ∧ (∀ y0 y1 y2 y3 y4 y5, LeO (handshakerlaw02_HeapFills.l0 k y0 y1 y2 y3 y4 y5) (handshakerlaw02_HeapFills.l0 (k + 1) y0 y1 y2 y3 y4 y5))
  | 0 => ⟨fun _ _ _ _ _ r h => by simp [handshakerlaw02_HeapFills.j0] at h, fun _ _ _ _ _ _ r h => by simp [handshakerlaw02_HeapFills.l0] at h⟩
  | k + 1 => by
    obtain ⟨ih0, ih1⟩ := handshakerlaw02_HeapFills.mono_l k
    refine ⟨?_, ?_⟩
    · intro y0 y1 y2 y3 y4
      unfold handshakerlaw02_HeapFills.j0
      repeat' first
      | (with_reducible exact ih0 _ _ _ _ _)
      | (with_reducible exact ih1 _ _ _ _ _ _)
      | (with_reducible exact handshakerlaw02_awake.mono _)
      | (with_reducible exact handshakerref02_Same.mono _ _ _)
      | (with_reducible exact heap_Alloc.mono _ _ _)
      | (with_reducible exact heap_Live.mono _ _)
      | (with_reducible exact LeO.refl _)
      | (with_reducible exact LeO.none _)
      | (with_reducible refine LeO.ite ?_ ?_)
      | (with_reducible refine LeO.bind ?_ (fun _ => ?_))
      | exact ih0 _ _ _ _ _
      | exact ih1 _ _ _ _ _ _
      | exact handshakerlaw02_awake.mono _
      | exact handshakerref02_Same.mono _ _ _
      | exact heap_Alloc.mono _ _ _
      | exact heap_Live.mono _ _
      | exact LeO.none _
      | refine LeO.ite ?_ ?_
      | refine LeO.bind ?_ (fun _ => ?_)
    · intro y0 y1 y2 y3 y4 y5
      unfold handshakerlaw02_HeapFills.l0
      repeat' first
      | (with_reducible exact ih0 _ _ _ _ _)
      | (with_reducible exact ih1 _ _ _ _ _ _)
      | (with_reducible exact handshakerlaw02_awake.mono _)
      | (with_reducible exact handshakerref02_Same.mono _ _ _)
      | (with_reducible exact heap_Alloc.mono _ _ _)
      | (with_reducible exact heap_Live.mono _ _)
      | (with_reducible exact LeO.refl _)
      | (with_reducible exact LeO.none _)
      | (with_reducible refine LeO.ite ?_ ?_)
      | (with_reducible refine LeO.bind ?_ (fun _ => ?_))
      | exact ih0 _ _ _ _ _
      | exact ih1 _ _ _ _ _ _
      | exact handshakerlaw02_awake.mono _
      | exact handshakerref02_Same.mono _ _ _
      | exact heap_Alloc.mono _ _ _
      | exact heap_Live.mono _ _
      | exact LeO.none _
      | refine LeO.ite ?_ ?_
      | refine LeO.bind ?_ (fun _ => ?_)
theorem handshakerlaw02_HeapFills.mono : ∀ a0 a1 k, LeO (handshakerlaw02_HeapFills.f k a0 a1) (handshakerlaw02_HeapFills.f (k + 1) a0 a1) := by
  intro a0 a1 k
  obtain ⟨ih0, ih1⟩ := handshakerlaw02_HeapFills.mono_l k
  unfold handshakerlaw02_HeapFills.f
  repeat' first
      | (with_reducible exact ih0 _ _ _ _ _)
      | (with_reducible exact ih1 _ _ _ _ _ _)
      | (with_reducible exact handshakerlaw02_awake.mono _)
      | (with_reducible exact handshakerref02_Same.mono _ _ _)
      | (with_reducible exact heap_Alloc.mono _ _ _)
      | (with_reducible exact heap_Live.mono _ _)
      | (with_reducible exact LeO.refl _)
      | (with_reducible exact LeO.none _)
      | (with_reducible refine LeO.ite ?_ ?_)
      | (with_reducible refine LeO.bind ?_ (fun _ => ?_))
      | exact ih0 _ _ _ _ _
      | exact ih1 _ _ _ _ _ _
      | exact handshakerlaw02_awake.mono _
      | exact handshakerref02_Same.mono _ _ _
      | exact heap_Alloc.mono _ _ _
      | exact heap_Live.mono _ _
      | exact LeO.none _
      | refine LeO.ite ?_ ?_
      | refine LeO.bind ?_ (fun _ => ?_)
set_option maxHeartbeats 8000000 in
set_option maxRecDepth 100000 in
theorem handshakerlaw02_HeapFills.calls (k : Nat) (a0 : Int) (a1 : Int) (r : Bool) (w : World) (HT : Aside0 (r = true)) (h : handshakerlaw02_HeapFills.f k a0 a1 = some r) :
    Calls Try.prog 10 #[.int .i64 a0, .int .i32 a1] w fun e w' => e = .returned (.bool r) ∧ Below w.heap.size w w' := by
  have HB := Aside0.mk (Below.refl w.heap.size w)
  have H : ((heap_New.f a0).bind fun bt266 => (if a0 < 1 then (handshakerlaw02_HeapFills.j0 k a0 a1 bt266.1 bt266.2 true) else (handshakerlaw02_HeapFills.j0 k a0 a1 bt266.1 bt266.2 (decide (a0 > 64))))) = some r := h
  clear h
  replace H := Option.bind_eq_some_iff.mp H
  obtain ⟨⟨t266, t267⟩, A30, H⟩ := H
  replace H : (if a0 < 1 then (handshakerlaw02_HeapFills.j0 k a0 a1 t266 t267 true) else (handshakerlaw02_HeapFills.j0 k a0 a1 t266 t267 (decide (a0 > 64)))) = some r := H
  have A3 := Aside0.mk A30
  clear A30
  have HC4 := Aside0.mk H
  clear H
  go_enter Try.func10, Try.ntmps10
  go_upto_region 2 with (first | ((with_reducible refine gate_callee (f := 37) rfl ?_); refine goesL_ (some 16) rfl rfl Try.func37 (by kernel_rfl) rfl #[.int .i64 a0] rfl (by (try simp only [List.map_toArray, List.map_cons, List.map_nil]); first | done | rfl | (simp only [List.length_drop, List.length_take]; rfl)) ?_; (with_reducible refine (heap_New.calls a0 t266 t267 _ A3.out).mono ?_); rintro e w5 ⟨v268, rfl, ho0, hb⟩; refine ⟨_, rfl, ?_⟩; have n0_ := Aside0.mk (Kd.R_lower ho0 (below_size (by repeat (first | (with_reducible first | exact HB.out | apply below_alloc | apply pw_below_drewN | apply below_drew1) | exact HB.out)))); have n1_ := Aside0.mk (below_step (by repeat (first | (with_reducible first | exact HB.out | apply below_alloc | apply pw_below_drewN | apply below_drew1) | exact HB.out)) hb); clear HB; have HO269 := n0_; have HB := n1_; clear n0_ n1_; (try clear hb); (try clear hb2); (try clear hk); (try clear hi); (try clear ho0)))
  (try simp only [Act.put, List.setIfInBounds_toArray, List.set_cons_zero, List.set_cons_succ])
  go_cut [24] (fun v24 wc => ∃ (kq : Nat) (x24_3 : Bool), v24 = .bool x24_3 ∧ Aside0 (handshakerlaw02_HeapFills.j0 kq a0 a1 t266 t267 x24_3 = some r) ∧ Aside0 (kq ≤ k) ∧ Aside0 (Kd.R k59 59 wc w.heap.size (fun _ => True) v268 t266) ∧ Aside0 (Below w.heap.size w wc))
  case first =>
    have H := HC4.out
    clear HC4
    by_cases c6 : a0 < 1
    · rw [if_pos c6] at H
      have c6b0 : decide (a0 < 1) = true := decide_eq_true c6
      clear c6
      (first | rw [c6b0] | (simp only [i64_w, i32_w]; rw [c6b0]) | skip)
      have H' := Aside0.mk H
      clear H
      go_wp2
      go_meet
      case rel => exact ⟨_, (true), (by first | rfl | (simp; done) | (simp [*]; done)), H', ⟨by first | omega | exact Nat.le_refl _⟩, ⟨by (with_reducible repeat (first | apply Kd.R_alloc | apply Kd.R_drewN | apply Kd.R_drew)); exact HO269.out⟩, ⟨by repeat (first | (with_reducible first | exact HB.out | apply below_alloc | apply pw_below_drewN | apply below_drew1) | exact HB.out)⟩⟩
    · rw [if_neg c6] at H
      have c6b0 : decide (a0 < 1) = false := decide_eq_false c6
      clear c6
      (first | rw [c6b0] | (simp only [i64_w, i32_w]; rw [c6b0]) | skip)
      have H' := Aside0.mk H
      clear H
      go_wp2
      go_meet
      case rel => exact ⟨_, (decide (a0 > 64)), (by first | rfl | (simp; done) | (simp [*]; done)), H', ⟨by first | omega | exact Nat.le_refl _⟩, ⟨by (with_reducible repeat (first | apply Kd.R_alloc | apply Kd.R_drewN | apply Kd.R_drew)); exact HO269.out⟩, ⟨by repeat (first | (with_reducible first | exact HB.out | apply below_alloc | apply pw_below_drewN | apply below_drew1) | exact HB.out)⟩⟩
  case rest =>
    clear HC4
    try clear c1
    try clear p2
    try clear c3
    try clear c6
    try clear c6b0
    obtain ⟨kq, x24_3, rfl, HA, HJ3, HO_5, HB⟩ := hcut
    cases kq with
    | zero => exact absurd HA.out (by simp [handshakerlaw02_HeapFills.j0])
    | succ kj3 =>
      have H := HA.out
      clear HA
      simp only [handshakerlaw02_HeapFills.j0] at H
      by_cases c7 : x24_3 = true
      · subst c7
        have H1 : (if (t266.length : Int) = 0 then (if t267 = 1 then ((handshakerlaw02_awake.f kj3).bind fun t270 => (some t270)) else (some false)) else (some false)) = some r := by rw [if_pos rfl] at H; exact H
        clear H
        have H := H1
        clear H1
        by_cases c8 : (t266.length : Int) = 0
        · rw [if_pos c8] at H
          have c8b0 : ((t266.length : Int) == 0) = true := beq_iff_eq.mpr c8
          have c8b1 : ((t266.length : Int) != 0) = false := bne_eq_false_iff_eq.mpr c8
          clear c8
          by_cases c9 : t267 = 1
          · rw [if_pos c9] at H
            have c9b0 : (t267 == 1) = true := beq_iff_eq.mpr c9
            have c9b1 : (t267 != 1) = false := bne_eq_false_iff_eq.mpr c9
            clear c9
            replace H := Option.bind_eq_some_iff.mp H
            obtain ⟨t270, A100, H⟩ := H
            replace H : (some t270) = some r := H
            have A10 := Aside0.mk A100
            clear A100
            obtain rfl := Option.some.inj H
            obtain ⟨Ao11, co11, eo11⟩ := Kd.R_slice HO_5.out
            subst eo11
            go_wp2_with (first | (go_at_call 25; (with_reducible refine (handshakerlaw02_awake.calls kj3  t270 _ A10.out).mono ?_); rintro e w12 ⟨rfl, hb⟩; have n0_ := Aside0.mk (Kd.R_below (by (with_reducible repeat (first | apply Kd.R_alloc | apply Kd.R_drewN | apply Kd.R_drew)); exact HO_5.out) hb); have n1_ := Aside0.mk (below_step (by repeat (first | (with_reducible first | exact HB.out | apply below_alloc | apply pw_below_drewN | apply below_drew1) | exact HB.out)) hb); clear HO_5; clear HB; have HO_5 := n0_; have HB := n1_; clear n0_ n1_; (try clear hb); (try clear hb2); (try clear hk); (try clear hi)))
            go_ret
            exact ⟨by first | rfl | (simp [errW_none, errW_some] <;> rfl) | (simp [*, errW_none, errW_some] <;> rfl), by repeat (first | (with_reducible first | exact HB.out | apply below_alloc | apply pw_below_drewN | apply below_drew1) | exact HB.out)⟩
          · rw [if_neg c9] at H
            have c9b0 : (t267 == 1) = false := beq_eq_false_iff_ne.mpr c9
            have c9b1 : (t267 != 1) = true := bne_iff_ne.mpr c9
            exact absurd (Option.some.inj H) (by rw [HT.out]; decide)
        · rw [if_neg c8] at H
          have c8b0 : ((t266.length : Int) == 0) = false := beq_eq_false_iff_ne.mpr c8
          have c8b1 : ((t266.length : Int) != 0) = true := bne_iff_ne.mpr c8
          have c8b2 : ¬ (t266 = []) := fun h_ => c8 (by rw [h_]; rfl)
          exact absurd (Option.some.inj H) (by rw [HT.out]; decide)
      · replace c7 := Bool.eq_false_iff.mpr c7
        subst c7
        have H1 : (handshakerlaw02_HeapFills.l0 kj3 a0 a1 t266 t267 a0 0) = some r := by rw [if_neg (show ¬ (false = true) by decide)] at H; exact H
        clear H
        have H := H1
        clear H1
        have H' := Aside0.mk H
        clear H
        go_wp2
        go_loopg [5, 36] kj3 (fun kq v5 v36 w' => ∃ (x5_2 : List (S59)) (x36_2 : Int), v36 = .int .i64 x36_2 ∧ Aside0 (handshakerlaw02_HeapFills.l0 kq a0 a1 x5_2 t267 a0 x36_2 = some r) ∧ Aside0 (kq ≤ kj3) ∧ Aside0 (Kd.V k59 59 w' w.heap.size (fun _ => True) v5 x5_2) ∧ Aside0 (Below w.heap.size w w'))
        case atStart => exact ⟨(t266), (0), (by first | rfl | (simp; done) | (simp [*]; done)), H', ⟨Nat.le_refl _⟩, ⟨Kd.R_V (by (with_reducible repeat (first | apply Kd.R_alloc | apply Kd.R_drewN | apply Kd.R_drew)); exact HO_5.out)⟩, ⟨by repeat (first | (with_reducible first | exact HB.out | apply below_alloc | apply pw_below_drewN | apply below_drew1) | exact HB.out)⟩⟩
        case round =>
          clear H'
          try clear c1
          try clear p2
          try clear c3
          try clear c6
          try clear c6b0
          try clear c7
          try clear c8
          try clear c8b0
          try clear c8b1
          try clear c8b2
          try clear c9
          try clear c9b0
          try clear c9b1
          try clear c10
          try clear p2
          obtain ⟨x5_2, x36_2, rfl, HA, HK2, HO_5, HB⟩ := hrel
          cases gk with
          | zero => exact absurd HA.out (by simp [handshakerlaw02_HeapFills.l0])
          | succ k2 =>
            have H := HA.out
            clear HA
            simp only [handshakerlaw02_HeapFills.l0] at H
            by_cases c13 : x36_2 < a0
            · rw [if_pos c13] at H
              have c13b0 : decide (x36_2 < a0) = true := decide_eq_true c13
              clear c13
              replace H := Option.bind_eq_some_iff.mp H
              obtain ⟨⟨t271, t274, t275⟩, A140, H⟩ := H
              replace H : (if t275 = 0 then (if t274 = x36_2 then (handshakerlaw02_HeapFills.l0 k2 a0 a1 t271 t267 a0 (wrap64 (x36_2 + 1))) else (some false)) else (some false)) = some r := H
              have A14 := Aside0.mk A140
              clear A140
              by_cases c15 : t275 = 0
              · rw [if_pos c15] at H
                have c15b0 : (t275 == 0) = true := beq_iff_eq.mpr c15
                have c15b1 : (t275 != 0) = false := bne_eq_false_iff_eq.mpr c15
                clear c15
                by_cases c16 : t274 = x36_2
                · rw [if_pos c16] at H
                  have c16b0 : (t274 == x36_2) = true := beq_iff_eq.mpr c16
                  have c16b1 : (t274 != x36_2) = false := bne_eq_false_iff_eq.mpr c16
                  clear c16
                  have H' := Aside0.mk H
                  clear H
                  obtain ⟨Ao17, co17, eo17⟩ := Kd.V_slice HO_5.out
                  subst eo17
                  go_wp2_with (first | ((with_reducible refine gate_callee (f := 26) rfl ?_); refine goesL_ (some 43) rfl rfl Try.func26 (by kernel_rfl) rfl #[.slice Ao17 x5_2.length co17, .int .i64 (wrap64 (a1))] rfl (by (try simp only [List.map_toArray, List.map_cons, List.map_nil]); first | done | rfl | (simp only [List.length_drop, List.length_take]; rfl)) ?_; (with_reducible refine (heap_Alloc.calls k2 (fun k_ => True) _ _ x5_2 (wrap64 (a1)) t271 t274 t275 _ ?side1 A14.out).mono ?_); (case side1 => exact HO_5.out); rintro e w18 ⟨v272, rfl, ho0, hb⟩; refine ⟨_, rfl, ?_⟩; have n0_ := Aside0.mk (Kd.V_below (by (with_reducible repeat (first | apply Kd.V_alloc | apply Kd.V_drewN | apply Kd.V_drew)); exact HO_5.out) hb); have n1_ := Aside0.mk (Kd.V_lower (Kd.V_mono (ok' := fun k_ => True) ho0 (fun k_ hk_ => trivial)) (below_size (by repeat (first | (with_reducible first | exact HB.out | apply below_alloc | apply pw_below_drewN | apply below_drew1) | exact HB.out)))); have n2_ := Aside0.mk (below_step (by repeat (first | (with_reducible first | exact HB.out | apply below_alloc | apply pw_below_drewN | apply below_drew1) | exact HB.out)) hb); clear HO_5; clear HB; have HO_5 := n0_; have HO273 := n1_; have HB := n2_; clear n0_ n1_ n2_; (try clear hb); (try clear hb2); (try clear hk); (try clear hi); (try clear ho0)))
                  go_roundg k2
                  case measure => have := HJ3.out; have := HK2.out; omega
                  case rel => exact ⟨(t271), (wrap64 (x36_2 + 1)), (by first | rfl | (simp; done) | (simp [*]; done)), H', ⟨by have := HJ3.out; have := HK2.out; omega⟩, ⟨by (with_reducible repeat (first | apply Kd.V_alloc | apply Kd.V_drewN | apply Kd.V_drew)); exact HO273.out⟩, ⟨by repeat (first | (with_reducible first | exact HB.out | apply below_alloc | apply pw_below_drewN | apply below_drew1) | exact HB.out)⟩⟩
                · rw [if_neg c16] at H
                  have c16b0 : (t274 == x36_2) = false := beq_eq_false_iff_ne.mpr c16
                  have c16b1 : (t274 != x36_2) = true := bne_iff_ne.mpr c16
                  exact absurd (Option.some.inj H) (by rw [HT.out]; decide)
              · rw [if_neg c15] at H
                have c15b0 : (t275 == 0) = false := beq_eq_false_iff_ne.mpr c15
                have c15b1 : (t275 != 0) = true := bne_iff_ne.mpr c15
                exact absurd (Option.some.inj H) (by rw [HT.out]; decide)
            · rw [if_neg c13] at H
              have c13b0 : decide (x36_2 < a0) = false := decide_eq_false c13
              clear c13
              replace H := Option.bind_eq_some_iff.mp H
              obtain ⟨⟨t276, t279, t280⟩, A190, H⟩ := H
              replace H : (if t267 = 0 then (if t280 = 4 then (if t279 = 0 then ((handshakerref02_Same.f k2 t276 x5_2).bind fun t281 => (if t281 = true then ((heap_Live.f k2 x5_2).bind fun t282 => (if (t282.length : Int) = a0 then ((handshakerlaw02_awake.f k2).bind fun t285 => (some t285)) else (some false))) else (some false))) else (some false)) else (some false)) else (some false)) = some r := H
              have A19 := Aside0.mk A190
              clear A190
              by_cases c20 : t267 = 0
              · rw [if_pos c20] at H
                have c20b0 : (t267 == 0) = true := beq_iff_eq.mpr c20
                have c20b1 : (t267 != 0) = false := bne_eq_false_iff_eq.mpr c20
                clear c20
                by_cases c21 : t280 = 4
                · rw [if_pos c21] at H
                  have c21b0 : (t280 == 4) = true := beq_iff_eq.mpr c21
                  have c21b1 : (t280 != 4) = false := bne_eq_false_iff_eq.mpr c21
                  clear c21
                  by_cases c22 : t279 = 0
                  · rw [if_pos c22] at H
                    have c22b0 : (t279 == 0) = true := beq_iff_eq.mpr c22
                    have c22b1 : (t279 != 0) = false := bne_eq_false_iff_eq.mpr c22
                    clear c22
                    replace H := Option.bind_eq_some_iff.mp H
                    obtain ⟨t281, A230, H⟩ := H
                    replace H : (if t281 = true then ((heap_Live.f k2 x5_2).bind fun t282 => (if (t282.length : Int) = a0 then ((handshakerlaw02_awake.f k2).bind fun t285 => (some t285)) else (some false))) else (some false)) = some r := H
                    have A23 := Aside0.mk A230
                    clear A230
                    by_cases c24 : t281 = true
                    · subst c24
                      have H1 : ((heap_Live.f k2 x5_2).bind fun t282 => (if (t282.length : Int) = a0 then ((handshakerlaw02_awake.f k2).bind fun t285 => (some t285)) else (some false))) = some r := by rw [if_pos rfl] at H; exact H
                      clear H
                      have H := H1
                      clear H1
                      replace H := Option.bind_eq_some_iff.mp H
                      obtain ⟨t282, A250, H⟩ := H
                      replace H : (if (t282.length : Int) = a0 then ((handshakerlaw02_awake.f k2).bind fun t285 => (some t285)) else (some false)) = some r := H
                      have A25 := Aside0.mk A250
                      clear A250
                      by_cases c26 : (t282.length : Int) = a0
                      · rw [if_pos c26] at H
                        have c26b0 : ((t282.length : Int) == a0) = true := beq_iff_eq.mpr c26
                        have c26b1 : ((t282.length : Int) != a0) = false := bne_eq_false_iff_eq.mpr c26
                        clear c26
                        replace H := Option.bind_eq_some_iff.mp H
                        obtain ⟨t285, A270, H⟩ := H
                        replace H : (some t285) = some r := H
                        have A27 := Aside0.mk A270
                        clear A270
                        obtain rfl := Option.some.inj H
                        obtain ⟨Ao28, co28, eo28⟩ := Kd.V_slice HO_5.out
                        subst eo28
                        go_wp2_with (first | ((with_reducible refine gate_callee (f := 26) rfl ?_); refine goesL_ (some 60) rfl rfl Try.func26 (by kernel_rfl) rfl #[.slice Ao28 x5_2.length co28, .int .i64 (wrap64 (a1))] rfl (by (try simp only [List.map_toArray, List.map_cons, List.map_nil]); first | done | rfl | (simp only [List.length_drop, List.length_take]; rfl)) ?_; (with_reducible refine (heap_Alloc.calls k2 (fun k_ => True) _ _ x5_2 (wrap64 (a1)) t276 t279 t280 _ ?side1 A19.out).mono ?_); (case side1 => exact HO_5.out); rintro e w29 ⟨v277, rfl, ho0, hb⟩; refine ⟨_, rfl, ?_⟩; have n0_ := Aside0.mk (Kd.V_below (by (with_reducible repeat (first | apply Kd.V_alloc | apply Kd.V_drewN | apply Kd.V_drew)); exact HO_5.out) hb); have n1_ := Aside0.mk (Kd.V_lower (Kd.V_mono (ok' := fun k_ => True) ho0 (fun k_ hk_ => trivial)) (below_size (by repeat (first | (with_reducible first | exact HB.out | apply below_alloc | apply pw_below_drewN | apply below_drew1) | exact HB.out)))); have n2_ := Aside0.mk (below_step (by repeat (first | (with_reducible first | exact HB.out | apply below_alloc | apply pw_below_drewN | apply below_drew1) | exact HB.out)) hb); clear HO_5; clear HB; have HO_5 := n0_; have HO278 := n1_; have HB := n2_; clear n0_ n1_ n2_; (try clear hb); (try clear hb2); (try clear hk); (try clear hi); (try clear ho0); obtain ⟨Ao30, co30, eo30⟩ := Kd.V_slice HO278.out; subst eo30) | (go_at_call 36; (with_reducible refine (handshakerref02_Same.calls k2 _ _ t276 _ _ x5_2 true _ ?side1 ?side2 ?side3 ?side4 A23.out).mono ?_); (case side1 => repeat (first | exact (Kd.V_reads' HO278.out).2.2 | (with_reducible refine Kd.C_alloc ?_ _) | (with_reducible refine Kd.C_drewN ?_ _) | (with_reducible refine Kd.C_drew ?_))); (case side2 => exact (Kd.V_reads' HO278.out).2.1); (case side3 => repeat (first | exact (Kd.V_reads' HO_5.out).2.2 | (with_reducible refine Kd.C_alloc ?_ _) | (with_reducible refine Kd.C_drewN ?_ _) | (with_reducible refine Kd.C_drew ?_))); (case side4 => exact (Kd.V_reads' HO_5.out).2.1); rintro e w' ⟨rfl, ⟨nd, rfl⟩⟩) | (go_at_call 38; (with_reducible refine (heap_Live.calls k2 _ _ x5_2 t282 _ ?side1 ?side2 A25.out).mono ?_); (case side1 => repeat (first | exact (Kd.V_reads' HO_5.out).2.2 | (with_reducible refine Kd.C_alloc ?_ _) | (with_reducible refine Kd.C_drewN ?_ _) | (with_reducible refine Kd.C_drew ?_))); (case side2 => exact (Kd.V_reads' HO_5.out).2.1); rintro e w31 ⟨v283, rfl, ho0, hb⟩; have n0_ := Aside0.mk (Kd.V_elder' (by (with_reducible repeat (first | apply Kd.V_alloc | apply Kd.V_drewN | apply Kd.V_drew)); exact HO_5.out) (Kd.R_base ho0) hb); have n1_ := Aside0.mk (Kd.V_elder' (by (with_reducible repeat (first | apply Kd.V_alloc | apply Kd.V_drewN | apply Kd.V_drew)); exact HO278.out) (Kd.R_base ho0) hb); have n2_ := Aside0.mk (Kd.R_lower ho0 (below_size (by repeat (first | (with_reducible first | exact HB.out | apply below_alloc | apply pw_below_drewN | apply below_drew1) | exact HB.out)))); have n3_ := Aside0.mk (below_step (by repeat (first | (with_reducible first | exact HB.out | apply below_alloc | apply pw_below_drewN | apply below_drew1) | exact HB.out)) hb); clear HO_5; clear HO278; clear HB; have HO_5 := n0_; have HO278 := n1_; have HO284 := n2_; have HB := n3_; clear n0_ n1_ n2_ n3_; (try clear hb); (try clear hb2); (try clear hk); (try clear hi); (try clear ho0); obtain ⟨Ao32, co32, eo32⟩ := Kd.R_slice HO284.out; subst eo32) | (go_at_call 25; (with_reducible refine (handshakerlaw02_awake.calls k2  t285 _ A27.out).mono ?_); rintro e w33 ⟨rfl, hb⟩; have n0_ := Aside0.mk (Kd.V_below (by (with_reducible repeat (first | apply Kd.V_alloc | apply Kd.V_drewN | apply Kd.V_drew)); exact HO_5.out) hb); have n1_ := Aside0.mk (Kd.V_below (by (with_reducible repeat (first | apply Kd.V_alloc | apply Kd.V_drewN | apply Kd.V_drew)); exact HO278.out) hb); have n2_ := Aside0.mk (Kd.R_below (by (with_reducible repeat (first | apply Kd.R_alloc | apply Kd.R_drewN | apply Kd.R_drew)); exact HO284.out) hb); have n3_ := Aside0.mk (below_step (by repeat (first | (with_reducible first | exact HB.out | apply below_alloc | apply pw_below_drewN | apply below_drew1) | exact HB.out)) hb); clear HO_5; clear HO278; clear HO284; clear HB; have HO_5 := n0_; have HO278 := n1_; have HO284 := n2_; have HB := n3_; clear n0_ n1_ n2_ n3_; (try clear hb); (try clear hb2); (try clear hk); (try clear hi)))
                        go_ret
                        exact ⟨by first | rfl | (simp [errW_none, errW_some] <;> rfl) | (simp [*, errW_none, errW_some] <;> rfl), by repeat (first | (with_reducible first | exact HB.out | apply below_alloc | apply pw_below_drewN | apply below_drew1) | exact HB.out)⟩
                      · rw [if_neg c26] at H
                        have c26b0 : ((t282.length : Int) == a0) = false := beq_eq_false_iff_ne.mpr c26
                        have c26b1 : ((t282.length : Int) != a0) = true := bne_iff_ne.mpr c26
                        exact absurd (Option.some.inj H) (by rw [HT.out]; decide)
                    · replace c24 := Bool.eq_false_iff.mpr c24
                      subst c24
                      have H1 : (some false) = some r := by rw [if_neg (show ¬ (false = true) by decide)] at H; exact H
                      clear H
                      have H := H1
                      clear H1
                      exact absurd (Option.some.inj H) (by rw [HT.out]; decide)
                  · rw [if_neg c22] at H
                    have c22b0 : (t279 == 0) = false := beq_eq_false_iff_ne.mpr c22
                    have c22b1 : (t279 != 0) = true := bne_iff_ne.mpr c22
                    exact absurd (Option.some.inj H) (by rw [HT.out]; decide)
                · rw [if_neg c21] at H
                  have c21b0 : (t280 == 4) = false := beq_eq_false_iff_ne.mpr c21
                  have c21b1 : (t280 != 4) = true := bne_iff_ne.mpr c21
                  exact absurd (Option.some.inj H) (by rw [HT.out]; decide)
              · rw [if_neg c20] at H
                have c20b0 : (t267 == 0) = false := beq_eq_false_iff_ne.mpr c20
                have c20b1 : (t267 != 0) = true := bne_iff_ne.mpr c20
                exact absurd (Option.some.inj H) (by rw [HT.out]; decide)

/-- THE ONE PURE STATEMENT of handshakerlaw02_HeapFills. -/
def handshakerlaw02_HeapFills.Pure : Prop := ∀ (a0 : Int) (a1 : Int), (Lit.int .i64 a0).wf = true → (Lit.int .i32 a1).wf = true → ∃ k, handshakerlaw02_HeapFills.f k a0 a1 = some true

end Go.Proofs.Ytlfeohglfjnnhaa.Hp
