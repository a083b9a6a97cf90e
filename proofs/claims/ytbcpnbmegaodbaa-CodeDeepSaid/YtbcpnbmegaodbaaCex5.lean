-- PRINTED by print.py (a twelfth state) out of the translation. Not trusted: Lean checks it.
import Derived.Test.YtbcpnbmegaodbaaCex0
import Derived.Test.YtbcpnbmegaodbaaCex4
namespace Go.Proofs.Ytbcpnbmegaodbaa.Ce
open Go.Proofs.Ytbcpnbmegaodbaa.Ho
open Go.RowKit Go.Proofs.YtbcpnbmegaodbaaW.PrintWords Go.Proofs.YtbcpnbmegaodbaaW.PrintLast Go.Proofs.YtbcpnbmegaodbaaW.PrintMore
attribute [local go_sem] max2_int min2_int max_two min_two max_three min_three max_four min_four   -- for this text's walks alone
set_option linter.unusedVariables false
set_option linter.unusedSimpArgs false

/-! ### handshakerlaw08_CodeDeep: function 6 -/
def handshakerlaw08_CodeDeep.l0 : Nat → Int → List (S37) → Int → Int → Option (Bool)
  | 0, _, _, _, _ => none
  | k + 1, x3, x4, x10, x11 => if x11 < x10 then ((some (([(⟨7, (x4.length : Int), 1, ([] : List (S41))⟩ : S37)] : List (S37)) : List (S37))).bind fun y210 => (if y210.length + x4.length < 2932031007402 then ((some (y210 ++ x4 : List (S37))).bind fun y213 => (if y213.length < 2932031007402 then (handshakerlaw08_CodeDeep.l0 k x3 (y213 ++ [(⟨5, 0, 0, ([] : List (S41))⟩ : S37)]) x10 (wrap64 (x11 + 1))) else (none))) else (none))) else (if x3 > 6 then ((code_Check.f k x4).bind fun t219 => (if t219 = 5 then ((code_Deep.f k x4).bind fun t220 => (if t220 = 0 then ((code_Cells.f k x4).bind fun t221 => (if (t221.length : Int) = 0 then ((handshakerlaw08_awake.f k).bind fun t224 => (some t224)) else (some false))) else (some false))) else (some false))) else ((code_Check.f k x4).bind fun t225 => (if t225 = 0 then ((code_Deep.f k x4).bind fun t226 => (if t226 = x3 then ((handshakerlaw08_awake.f k).bind fun t227 => (some t227)) else (some false))) else (some false))))
def handshakerlaw08_CodeDeep.f (k : Nat) (a0 : Int) : Option (Bool) := handshakerlaw08_CodeDeep.l0 k (wrap64 (Int.tmod a0 9)) (([(⟨5, 0, 0, ([] : List (S41))⟩ : S37)] : List (S37))) (wrap64 (Int.tmod a0 9)) 0
theorem handshakerlaw08_CodeDeep.mono_l : ∀ k, (∀ y0 y1 y2 y3, LeO (handshakerlaw08_CodeDeep.l0 k y0 y1 y2 y3) (handshakerlaw08_CodeDeep.l0 (k + 1) y0 y1 y2 y3))
  | 0 => fun _ _ _ _ r h => by simp [handshakerlaw08_CodeDeep.l0] at h
  | k + 1 => by
    have ih0 := handshakerlaw08_CodeDeep.mono_l k
    · intro y0 y1 y2 y3
      unfold handshakerlaw08_CodeDeep.l0
      repeat' first
      | (with_reducible exact ih0 _ _ _ _)
      | (with_reducible exact code_Cells.mono _ _)
      | (with_reducible exact code_Check.mono _ _)
      | (with_reducible exact code_Deep.mono _ _)
      | (with_reducible exact handshakerlaw08_awake.mono _)
      | (with_reducible exact LeO.refl _)
      | (with_reducible exact LeO.none _)
      | (with_reducible refine LeO.ite ?_ ?_)
      | (with_reducible refine LeO.bind ?_ (fun _ => ?_))
      | exact ih0 _ _ _ _
      | exact code_Cells.mono _ _
      | exact code_Check.mono _ _
      | exact code_Deep.mono _ _
      | exact handshakerlaw08_awake.mono _
      | exact LeO.none _
      | refine LeO.ite ?_ ?_
      | refine LeO.bind ?_ (fun _ => ?_)
theorem handshakerlaw08_CodeDeep.mono : ∀ a0 k, LeO (handshakerlaw08_CodeDeep.f k a0) (handshakerlaw08_CodeDeep.f (k + 1) a0) := by
  intro a0 k
  have ih0 := handshakerlaw08_CodeDeep.mono_l k
  unfold handshakerlaw08_CodeDeep.f
  repeat' first
      | (with_reducible exact ih0 _ _ _ _)
      | (with_reducible exact code_Cells.mono _ _)
      | (with_reducible exact code_Check.mono _ _)
      | (with_reducible exact code_Deep.mono _ _)
      | (with_reducible exact handshakerlaw08_awake.mono _)
      | (with_reducible exact LeO.refl _)
      | (with_reducible exact LeO.none _)
      | (with_reducible refine LeO.ite ?_ ?_)
      | (with_reducible refine LeO.bind ?_ (fun _ => ?_))
      | exact ih0 _ _ _ _
      | exact code_Cells.mono _ _
      | exact code_Check.mono _ _
      | exact code_Deep.mono _ _
      | exact handshakerlaw08_awake.mono _
      | exact LeO.none _
      | refine LeO.ite ?_ ?_
      | refine LeO.bind ?_ (fun _ => ?_)
set_option maxHeartbeats 8000000 in
set_option maxRecDepth 100000 in
theorem handshakerlaw08_CodeDeep.calls (k : Nat) (a0 : Int) (r : Bool) (w : World) (HT : Aside0 (r = true)) (h : handshakerlaw08_CodeDeep.f k a0 = some r) :
    Calls Try.prog 6 #[.int .u8 a0] w fun e w' => e = .returned (.bool r) ∧ Below w.heap.size w w' := by
  have hu37 := Try.underlying37
  have HB := Aside0.mk (Below.refl w.heap.size w)
  have H : (handshakerlaw08_CodeDeep.l0 k (wrap64 (Int.tmod a0 9)) (([(⟨5, 0, 0, ([] : List (S41))⟩ : S37)] : List (S37))) (wrap64 (Int.tmod a0 9)) 0) = some r := h
  clear h
  obtain ⟨y207, hy207⟩ : ∃ y_ : List (S37), y_ = (([(⟨5, 0, 0, ([] : List (S41))⟩ : S37)] : List (S37))) := ⟨_, rfl⟩
  replace H : (handshakerlaw08_CodeDeep.l0 k (wrap64 (Int.tmod a0 9)) y207 (wrap64 (Int.tmod a0 9)) 0) = some r := by first | (rw [hy207]; with_reducible exact H) | (have H2_ := (Option.bind_some _ _).symm.trans H; rw [hy207]; with_reducible exact H2_) | (have H2_ := (Option.bind_some _ _).symm.trans H; with_reducible exact H2_) | with_reducible exact H | (rw [hy207]; exact H) | exact H
  have Ny207 := Aside0.mk hy207
  clear hy207
  have H' := Aside0.mk H
  clear H
  go_enter Try.func6, Try.ntmps6
  go_wp2_with (first | ((with_reducible refine gate_dst (N := 9) rfl ?_); (try (refine gate_guard (by rfl) ?_; dsimp only)); refine Kd.N_lit k37 _ 37 ?hg (N' := 9) ?hd (xs := ([(⟨5, 0, 0, ([] : List (S41))⟩ : S37)] : List (S37))) (inner := [.int .i64 5, .int .i64 0, .int .i64 0, .slice none 0 0]) (ok := (fun _ => True)) (okp := (fun _ => True)) ?hr ?hp (fun _ hk => hk) ((show ∀ k_, w.heap.size ≤ k_ → (fun _ => True) k_ from fun k_ hk => trivial) _ (Nat.le_refl _)) (Below.refl _ _) (Nat.le_refl _) (by simp) ?_; (case hd => rfl); (case hg => rfl); (case hr => first | (go_simp; done) | (go_simp; rfl)); (case hp => exact (Reps.c4 (show Kd.FK k37 _ _ (⟨5, 0, 0, ([] : List (S41))⟩ : S37) [.int .i64 5, .int .i64 0, .int .i64 0, .slice none 0 0] from (k37_mkF _ _ (⟨5, 0, 0, ([] : List (S41))⟩ : S37) (Nat.le_refl _) (Kd.F_nil _ _ _))) (Reps.none _ _))); intro v208 w2 ho3 hb hg_ hnew_; clear hg_ hnew_; (first | rw [← Ny207.out] at ho3 | (simp only [Int.reduceToNat] at ho3; rw [← Ny207.out] at ho3)); have n0_ := Aside0.mk (Kd.N_lower ho3 (below_size (by repeat (first | (with_reducible first | exact HB.out | apply below_alloc | apply pw_below_drewN | apply below_drew1) | exact HB.out)))); have n1_ := Aside0.mk (below_step (by repeat (first | (with_reducible first | exact HB.out | apply below_alloc | apply pw_below_drewN | apply below_drew1) | exact HB.out)) hb); clear HB; have HO209 := n0_; have HB := n1_; clear n0_ n1_; clear hb ho3))
  go_loopg [4, 11] k (fun kq v4 v11 w' => ∃ (x4_1 : List (S37)) (x11_1 : Int), v11 = .int .i64 x11_1 ∧ Aside0 (handshakerlaw08_CodeDeep.l0 kq (wrap64 (Int.tmod a0 9)) x4_1 (wrap64 (Int.tmod a0 9)) x11_1 = some r) ∧ Aside0 (kq ≤ k) ∧ Aside0 (Kd.N k37 37 w' w.heap.size (fun _ => True) v4 x4_1) ∧ Aside0 (Below w.heap.size w w'))
  case atStart => exact ⟨(y207), (0), (by first | rfl | (simp; done) | (simp [*]; done)), H', ⟨Nat.le_refl _⟩, ⟨by (with_reducible repeat (first | apply Kd.N_alloc | apply Kd.N_drewN | apply Kd.N_drew)); exact HO209.out⟩, ⟨by repeat (first | (with_reducible first | exact HB.out | apply below_alloc | apply pw_below_drewN | apply below_drew1) | exact HB.out)⟩⟩
  case round =>
    clear H'
    try clear p2
    obtain ⟨x4_1, x11_1, rfl, HA, HK1, HO_4, HB⟩ := hrel
    cases gk with
    | zero => exact absurd HA.out (by simp [handshakerlaw08_CodeDeep.l0])
    | succ k1 =>
      have H := HA.out
      clear HA
      simp only [handshakerlaw08_CodeDeep.l0] at H
      by_cases c4 : x11_1 < (wrap64 (Int.tmod a0 9))
      · rw [if_pos c4] at H
        have c4b0 : decide (x11_1 < (wrap64 (Int.tmod a0 9))) = true := decide_eq_true c4
        clear c4
        obtain ⟨y210, hy210⟩ : ∃ y_ : List (S37), y_ = (([(⟨7, (x4_1.length : Int), 1, ([] : List (S41))⟩ : S37)] : List (S37))) := ⟨_, rfl⟩
        replace H : (if y210.length + x4_1.length < 2932031007402 then ((some (y210 ++ x4_1 : List (S37))).bind fun y213 => (if y213.length < 2932031007402 then (handshakerlaw08_CodeDeep.l0 k1 (wrap64 (Int.tmod a0 9)) (y213 ++ [(⟨5, 0, 0, ([] : List (S41))⟩ : S37)]) (wrap64 (Int.tmod a0 9)) (wrap64 (x11_1 + 1))) else (none))) else (none)) = some r := by first | (rw [hy210]; with_reducible exact H) | (have H2_ := (Option.bind_some _ _).symm.trans H; rw [hy210]; with_reducible exact H2_) | (have H2_ := (Option.bind_some _ _).symm.trans H; with_reducible exact H2_) | with_reducible exact H | (rw [hy210]; exact H) | exact H
        have Ny210 := Aside0.mk hy210
        clear hy210
        by_cases c5 : y210.length + x4_1.length < 2932031007402
        · rw [if_pos c5] at H
          have LMc5 := Aside0.mk c5
          clear c5
          obtain ⟨y213, hy213⟩ : ∃ y_ : List (S37), y_ = (y210 ++ x4_1) := ⟨_, rfl⟩
          replace H : (if y213.length < 2932031007402 then (handshakerlaw08_CodeDeep.l0 k1 (wrap64 (Int.tmod a0 9)) (y213 ++ [(⟨5, 0, 0, ([] : List (S41))⟩ : S37)]) (wrap64 (Int.tmod a0 9)) (wrap64 (x11_1 + 1))) else (none)) = some r := by first | (rw [hy213]; with_reducible exact H) | (have H2_ := (Option.bind_some _ _).symm.trans H; rw [hy213]; with_reducible exact H2_) | (have H2_ := (Option.bind_some _ _).symm.trans H; with_reducible exact H2_) | with_reducible exact H | (rw [hy213]; exact H) | exact H
          have Ny213 := Aside0.mk hy213
          clear hy213
          by_cases c6 : y213.length < 2932031007402
          · rw [if_pos c6] at H
            have LMc6 := Aside0.mk c6
            clear c6
            obtain ⟨y216, hy216⟩ : ∃ y_ : List (S37), y_ = (y213 ++ [(⟨5, 0, 0, ([] : List (S41))⟩ : S37)]) := ⟨_, rfl⟩
            replace H : (handshakerlaw08_CodeDeep.l0 k1 (wrap64 (Int.tmod a0 9)) y216 (wrap64 (Int.tmod a0 9)) (wrap64 (x11_1 + 1))) = some r := by first | (rw [hy216]; with_reducible exact H) | (have H2_ := (Option.bind_some _ _).symm.trans H; rw [hy216]; with_reducible exact H2_) | (have H2_ := (Option.bind_some _ _).symm.trans H; with_reducible exact H2_) | with_reducible exact H | (rw [hy216]; exact H) | exact H
            have Ny216 := Aside0.mk hy216
            clear hy216
            have H' := Aside0.mk H
            clear H
            obtain ⟨Ao7, co7, eo7⟩ := Kd.N_slice HO_4.out
            subst eo7
            go_wp2_with (first | ((with_reducible refine gate_dst (N := 16) rfl ?_); (try (refine gate_guard (by rfl) ?_; dsimp only)); refine Kd.N_lit k37 _ 37 ?hg (N' := 16) ?hd (xs := ([(⟨7, (x4_1.length : Int), 1, ([] : List (S41))⟩ : S37)] : List (S37))) (inner := [.int .i64 7, .int .i64 (x4_1.length : Int), .int .i64 1, .slice none 0 0]) (ok := (fun k_ => some k_ ≠ (.slice Ao7 x4_1.length co7 : Value).ownBlock)) (okp := (fun k_ => some k_ ≠ (.slice Ao7 x4_1.length co7 : Value).ownBlock)) ?hr ?hp (fun _ hk => hk) ((show ∀ k_, wr.heap.size ≤ k_ → (fun k_ => some k_ ≠ (.slice Ao7 x4_1.length co7 : Value).ownBlock) k_ from fun k_ hk => Kd.fresh' (Kd.N_lt (by (with_reducible repeat (first | apply Kd.N_alloc | apply Kd.N_drewN | apply Kd.N_drew)); exact HO_4.out)) k_ hk) _ (Nat.le_refl _)) (Below.refl _ _) (Nat.le_refl _) (by simp) ?_; (case hd => rfl); (case hg => rfl); (case hr => first | (go_simp; done) | (go_simp; rfl)); (case hp => exact (Reps.c4 (show Kd.FK k37 _ _ (⟨7, (x4_1.length : Int), 1, ([] : List (S41))⟩ : S37) [.int .i64 7, .int .i64 (x4_1.length : Int), .int .i64 1, .slice none 0 0] from (k37_mkF _ _ (⟨7, (x4_1.length : Int), 1, ([] : List (S41))⟩ : S37) (Nat.le_refl _) (Kd.F_nil _ _ _))) (Reps.none _ _))); intro v211 w8 ho9 hb hg_ hnew_; clear hg_ hnew_; (first | rw [← Ny210.out] at ho9 | (simp only [Int.reduceToNat] at ho9; rw [← Ny210.out] at ho9)); have n0_ := Aside0.mk (Kd.N_elder' (by (with_reducible repeat (first | apply Kd.N_alloc | apply Kd.N_drewN | apply Kd.N_drew)); exact HO_4.out) (Kd.N_base ho9) hb); have n1_ := Aside0.mk (Kd.N_lower ho9 (below_size (by repeat (first | (with_reducible first | exact HB.out | apply below_alloc | apply pw_below_drewN | apply below_drew1) | exact HB.out)))); have n2_ := Aside0.mk (below_step (by repeat (first | (with_reducible first | exact HB.out | apply below_alloc | apply pw_below_drewN | apply below_drew1) | exact HB.out)) hb); clear HO_4; clear HB; have HO_4 := n0_; have HO212 := n1_; have HB := n2_; clear n0_ n1_ n2_; clear hb ho9) | ((with_reducible refine gate_builtin (b := .append) (xs := #[.tmp 16, .tmp 17]) rfl ?_); (try (refine gate_guard (by rfl) ?_; dsimp only)); at_builtin; refine Kd.N_append_rows k37 (w0 := w) w.heap.size rfl (.tmp 16) (.tmp 17) 22 37 (.agg #[(.int .i64 0), (.int .i64 0), (.int .i64 0), (.slice none 0 0)]) 48 rfl Try.underlying22 info37 rfl (by decide) (by omega) v211 y210 x4_1 _ _ _ (fun _ => True) (fun k_ => ((fun _ => True)) k_ ∧ some k_ ≠ (v211 : Value).ownBlock) rfl rfl ?aO ?aR (fun _ hk => hk) ?aF ?aB ?aS ?aL ?_; (case aR => exact (by skip; exact Kd.N_F (Kd.N_mono (ok' := (fun k_ => ((fun _ => True)) k_ ∧ some k_ ≠ (v211 : Value).ownBlock)) (HO_4.out) (fun k_ hk => ⟨trivial, hk.2⟩)))); (case aB => exact (by repeat (first | (with_reducible first | exact HB.out | apply below_alloc | apply pw_below_drewN | apply below_drew1) | exact HB.out))); (case aF => exact (fun _ _ => trivial)); (case aO => exact (by (with_reducible repeat (first | apply Kd.N_alloc | apply Kd.N_drewN | apply Kd.N_drew)); exact Kd.N_mono HO212.out (fun _ hk => trivial))); (case aS => exact (below_size (by repeat (first | (with_reducible first | exact HB.out | apply below_alloc | apply pw_below_drewN | apply below_drew1) | exact HB.out)))); (case aL => have := LMc5.out; omega); intro v214 w10 ho hb hg hat; rw [← Ny213.out] at ho; have n0_ := Aside0.mk (Kd.N_afterv (ok := (fun _ => True)) (by (with_reducible repeat (first | apply Kd.N_alloc | apply Kd.N_drewN | apply Kd.N_drew)); exact HO_4.out) hg hat); have n1_ := Aside0.mk (hb); have n2_ := Aside0.mk (ho); clear HO_4; clear HB; clear HO212; have HO_4 := n0_; have HB := n1_; have HO215 := n2_; clear n0_ n1_ n2_; clear ho hb hg hat) | ((with_reducible refine gate_builtin (b := .append) (xs := #[.tmp 18, .tmp 20]) rfl ?_); (try (refine gate_guard (by rfl) ?_; dsimp only)); at_builtin; refine Kd.N_append k37 (w0 := w) w.heap.size rfl (.tmp 18) (.tmp 20) 22 37 (.agg #[(.int .i64 0), (.int .i64 0), (.int .i64 0), (.slice none 0 0)]) 48 rfl Try.underlying22 info37 rfl (by decide) (by omega) v214 y213 (⟨5, 0, 0, ([] : List (S41))⟩ : S37) [.int .i64 5, .int .i64 0, .int .i64 0, .slice none 0 0] (fun _ => True) (fun k_ => ((fun _ => True)) k_ ∧ some k_ ≠ (v214 : Value).ownBlock) rfl rfl ?aP (fun _ hk => hk) ?aF ?aO ?aB ?aS ?aL ?_; (case aP => exact (k37_mkF _ _ (⟨5, 0, 0, ([] : List (S41))⟩ : S37) (Nat.le_refl _) (Kd.F_nil _ _ _))); (case aB => exact (by repeat (first | (with_reducible first | exact HB.out | apply below_alloc | apply pw_below_drewN | apply below_drew1) | exact HB.out))); (case aF => exact (fun _ _ => trivial)); (case aO => exact (by (with_reducible repeat (first | apply Kd.N_alloc | apply Kd.N_drewN | apply Kd.N_drew)); exact HO215.out)); (case aS => exact (below_size (by repeat (first | (with_reducible first | exact HB.out | apply below_alloc | apply pw_below_drewN | apply below_drew1) | exact HB.out)))); (case aL => have := LMc6.out; omega); intro v217 w11 ho hb hg hat; rw [← Ny216.out] at ho; have n0_ := Aside0.mk (Kd.N_afterv (ok := (fun _ => True)) (by (with_reducible repeat (first | apply Kd.N_alloc | apply Kd.N_drewN | apply Kd.N_drew)); exact HO_4.out) hg hat); have n1_ := Aside0.mk (hb); have n2_ := Aside0.mk (ho); clear HO_4; clear HB; clear HO215; have HO_4 := n0_; have HB := n1_; have HO218 := n2_; clear n0_ n1_ n2_; clear ho hb hg hat))
            go_roundg k1
            case measure => have := HK1.out; omega
            case rel => exact ⟨(y216), (wrap64 (x11_1 + 1)), (by first | rfl | (simp; done) | (simp [*]; done)), H', ⟨by have := HK1.out; omega⟩, ⟨by (with_reducible repeat (first | apply Kd.N_alloc | apply Kd.N_drewN | apply Kd.N_drew)); exact HO218.out⟩, ⟨by repeat (first | (with_reducible first | exact HB.out | apply below_alloc | apply pw_below_drewN | apply below_drew1) | exact HB.out)⟩⟩
          · rw [if_neg c6] at H
            exact absurd H (by simp)
        · rw [if_neg c5] at H
          exact absurd H (by simp)
      · rw [if_neg c4] at H
        have c4b0 : decide (x11_1 < (wrap64 (Int.tmod a0 9))) = false := decide_eq_false c4
        clear c4
        by_cases c12 : (wrap64 (Int.tmod a0 9)) > 6
        · rw [if_pos c12] at H
          have c12b0 : decide (6 < (wrap64 (Int.tmod a0 9))) = true := decide_eq_true c12
          clear c12
          replace H := Option.bind_eq_some_iff.mp H
          obtain ⟨t219, A130, H⟩ := H
          replace H : (if t219 = 5 then ((code_Deep.f k1 x4_1).bind fun t220 => (if t220 = 0 then ((code_Cells.f k1 x4_1).bind fun t221 => (if (t221.length : Int) = 0 then ((handshakerlaw08_awake.f k1).bind fun t224 => (some t224)) else (some false))) else (some false))) else (some false)) = some r := H
          have A13 := Aside0.mk A130
          clear A130
          by_cases c14 : t219 = 5
          · rw [if_pos c14] at H
            have c14b0 : (t219 == 5) = true := beq_iff_eq.mpr c14
            have c14b1 : (t219 != 5) = false := bne_eq_false_iff_eq.mpr c14
            clear c14
            replace H := Option.bind_eq_some_iff.mp H
            obtain ⟨t220, A150, H⟩ := H
            replace H : (if t220 = 0 then ((code_Cells.f k1 x4_1).bind fun t221 => (if (t221.length : Int) = 0 then ((handshakerlaw08_awake.f k1).bind fun t224 => (some t224)) else (some false))) else (some false)) = some r := H
            have A15 := Aside0.mk A150
            clear A150
            by_cases c16 : t220 = 0
            · rw [if_pos c16] at H
              have c16b0 : (t220 == 0) = true := beq_iff_eq.mpr c16
              have c16b1 : (t220 != 0) = false := bne_eq_false_iff_eq.mpr c16
              clear c16
              replace H := Option.bind_eq_some_iff.mp H
              obtain ⟨t221, A170, H⟩ := H
              replace H : (if (t221.length : Int) = 0 then ((handshakerlaw08_awake.f k1).bind fun t224 => (some t224)) else (some false)) = some r := H
              have A17 := Aside0.mk A170
              clear A170
              by_cases c18 : (t221.length : Int) = 0
              · rw [if_pos c18] at H
                have c18b0 : ((t221.length : Int) == 0) = true := beq_iff_eq.mpr c18
                have c18b1 : ((t221.length : Int) != 0) = false := bne_eq_false_iff_eq.mpr c18
                clear c18
                replace H := Option.bind_eq_some_iff.mp H
                obtain ⟨t224, A190, H⟩ := H
                replace H : (some t224) = some r := H
                have A19 := Aside0.mk A190
                clear A190
                obtain rfl := Option.some.inj H
                obtain ⟨Ao20, co20, eo20⟩ := Kd.N_slice HO_4.out
                subst eo20
                go_wp2_with (first | ((with_reducible refine gate_callee (f := 18) rfl ?_); refine goesL_ (some 26) rfl rfl Try.func18 (by kernel_rfl) rfl #[.slice Ao20 x4_1.length co20] rfl (by (try simp only [List.map_toArray, List.map_cons, List.map_nil]); first | done | rfl | (simp only [List.length_drop, List.length_take]; rfl)) ?_; (with_reducible refine (code_Check.calls k1 _ _ x4_1 t219 _ ?side1 ?side2 A13.out).mono ?_); (case side1 => repeat (first | exact (Kd.N_reads' HO_4.out).2.2 | (with_reducible refine Kd.C_alloc ?_ _) | (with_reducible refine Kd.C_drewN ?_ _) | (with_reducible refine Kd.C_drew ?_))); (case side2 => exact (Kd.N_reads' HO_4.out).2.1); rintro e w21 ⟨rfl, hb⟩; refine ⟨_, rfl, ?_⟩; have n0_ := Aside0.mk (Kd.N_below (by (with_reducible repeat (first | apply Kd.N_alloc | apply Kd.N_drewN | apply Kd.N_drew)); exact HO_4.out) hb); have n1_ := Aside0.mk (below_step (by repeat (first | (with_reducible first | exact HB.out | apply below_alloc | apply pw_below_drewN | apply below_drew1) | exact HB.out)) hb); clear HO_4; clear HB; have HO_4 := n0_; have HB := n1_; clear n0_ n1_; (try clear hb); (try clear hb2); (try clear hk); (try clear hi)) | (go_at_call 20; (with_reducible refine (code_Deep.calls k1 _ _ x4_1 t220 _ ?side1 ?side2 A15.out).mono ?_); (case side1 => repeat (first | exact (Kd.N_reads' HO_4.out).2.2 | (with_reducible refine Kd.C_alloc ?_ _) | (with_reducible refine Kd.C_drewN ?_ _) | (with_reducible refine Kd.C_drew ?_))); (case side2 => exact (Kd.N_reads' HO_4.out).2.1); rintro e w22 ⟨rfl, hb⟩; have n0_ := Aside0.mk (Kd.N_below (by (with_reducible repeat (first | apply Kd.N_alloc | apply Kd.N_drewN | apply Kd.N_drew)); exact HO_4.out) hb); have n1_ := Aside0.mk (below_step (by repeat (first | (with_reducible first | exact HB.out | apply below_alloc | apply pw_below_drewN | apply below_drew1) | exact HB.out)) hb); clear HO_4; clear HB; have HO_4 := n0_; have HB := n1_; clear n0_ n1_; (try clear hb); (try clear hb2); (try clear hk); (try clear hi)) | (go_at_call 23; (with_reducible refine (code_Cells.calls k1 _ _ x4_1 t221 _ ?side1 ?side2 A17.out).mono ?_); (case side1 => repeat (first | exact (Kd.N_reads' HO_4.out).2.2 | (with_reducible refine Kd.C_alloc ?_ _) | (with_reducible refine Kd.C_drewN ?_ _) | (with_reducible refine Kd.C_drew ?_))); (case side2 => exact (Kd.N_reads' HO_4.out).2.1); rintro e w23 ⟨v222, rfl, ho0, hb⟩; have n0_ := Aside0.mk (Kd.N_elder' (by (with_reducible repeat (first | apply Kd.N_alloc | apply Kd.N_drewN | apply Kd.N_drew)); exact HO_4.out) (Kd.R_base ho0) hb); have n1_ := Aside0.mk (Kd.R_lower ho0 (below_size (by repeat (first | (with_reducible first | exact HB.out | apply below_alloc | apply pw_below_drewN | apply below_drew1) | exact HB.out)))); have n2_ := Aside0.mk (below_step (by repeat (first | (with_reducible first | exact HB.out | apply below_alloc | apply pw_below_drewN | apply below_drew1) | exact HB.out)) hb); clear HO_4; clear HB; have HO_4 := n0_; have HO223 := n1_; have HB := n2_; clear n0_ n1_ n2_; (try clear hb); (try clear hb2); (try clear hk); (try clear hi); (try clear ho0); obtain ⟨Ao24, co24, eo24⟩ := Kd.R_slice HO223.out; subst eo24) | (go_at_call 16; (with_reducible refine (handshakerlaw08_awake.calls k1  t224 _ A19.out).mono ?_); rintro e w25 ⟨rfl, hb⟩; have n0_ := Aside0.mk (Kd.N_below (by (with_reducible repeat (first | apply Kd.N_alloc | apply Kd.N_drewN | apply Kd.N_drew)); exact HO_4.out) hb); have n1_ := Aside0.mk (Kd.R_below (by (with_reducible repeat (first | apply Kd.R_alloc | apply Kd.R_drewN | apply Kd.R_drew)); exact HO223.out) hb); have n2_ := Aside0.mk (below_step (by repeat (first | (with_reducible first | exact HB.out | apply below_alloc | apply pw_below_drewN | apply below_drew1) | exact HB.out)) hb); clear HO_4; clear HO223; clear HB; have HO_4 := n0_; have HO223 := n1_; have HB := n2_; clear n0_ n1_ n2_; (try clear hb); (try clear hb2); (try clear hk); (try clear hi)))
                go_ret
                exact ⟨by first | rfl | (simp [errW_none, errW_some] <;> rfl) | (simp [*, errW_none, errW_some] <;> rfl), by repeat (first | (with_reducible first | exact HB.out | apply below_alloc | apply pw_below_drewN | apply below_drew1) | exact HB.out)⟩
              · rw [if_neg c18] at H
                have c18b0 : ((t221.length : Int) == 0) = false := beq_eq_false_iff_ne.mpr c18
                have c18b1 : ((t221.length : Int) != 0) = true := bne_iff_ne.mpr c18
                have c18b2 : ¬ (t221 = []) := fun h_ => c18 (by rw [h_]; rfl)
                exact absurd (Option.some.inj H) (by rw [HT.out]; decide)
            · rw [if_neg c16] at H
              have c16b0 : (t220 == 0) = false := beq_eq_false_iff_ne.mpr c16
              have c16b1 : (t220 != 0) = true := bne_iff_ne.mpr c16
              exact absurd (Option.some.inj H) (by rw [HT.out]; decide)
          · rw [if_neg c14] at H
            have c14b0 : (t219 == 5) = false := beq_eq_false_iff_ne.mpr c14
            have c14b1 : (t219 != 5) = true := bne_iff_ne.mpr c14
            exact absurd (Option.some.inj H) (by rw [HT.out]; decide)
        · rw [if_neg c12] at H
          have c12b0 : decide (6 < (wrap64 (Int.tmod a0 9))) = false := decide_eq_false c12
          clear c12
          replace H := Option.bind_eq_some_iff.mp H
          obtain ⟨t225, A260, H⟩ := H
          replace H : (if t225 = 0 then ((code_Deep.f k1 x4_1).bind fun t226 => (if t226 = (wrap64 (Int.tmod a0 9)) then ((handshakerlaw08_awake.f k1).bind fun t227 => (some t227)) else (some false))) else (some false)) = some r := H
          have A26 := Aside0.mk A260
          clear A260
          by_cases c27 : t225 = 0
          · rw [if_pos c27] at H
            have c27b0 : (t225 == 0) = true := beq_iff_eq.mpr c27
            have c27b1 : (t225 != 0) = false := bne_eq_false_iff_eq.mpr c27
            clear c27
            replace H := Option.bind_eq_some_iff.mp H
            obtain ⟨t226, A280, H⟩ := H
            replace H : (if t226 = (wrap64 (Int.tmod a0 9)) then ((handshakerlaw08_awake.f k1).bind fun t227 => (some t227)) else (some false)) = some r := H
            have A28 := Aside0.mk A280
            clear A280
            by_cases c29 : t226 = (wrap64 (Int.tmod a0 9))
            · rw [if_pos c29] at H
              have c29b0 : (t226 == (wrap64 (Int.tmod a0 9))) = true := beq_iff_eq.mpr c29
              have c29b1 : (t226 != (wrap64 (Int.tmod a0 9))) = false := bne_eq_false_iff_eq.mpr c29
              clear c29
              replace H := Option.bind_eq_some_iff.mp H
              obtain ⟨t227, A300, H⟩ := H
              replace H : (some t227) = some r := H
              have A30 := Aside0.mk A300
              clear A300
              obtain rfl := Option.some.inj H
              obtain ⟨Ao31, co31, eo31⟩ := Kd.N_slice HO_4.out
              subst eo31
              go_wp2_with (first | ((with_reducible refine gate_callee (f := 18) rfl ?_); refine goesL_ (some 43) rfl rfl Try.func18 (by kernel_rfl) rfl #[.slice Ao31 x4_1.length co31] rfl (by (try simp only [List.map_toArray, List.map_cons, List.map_nil]); first | done | rfl | (simp only [List.length_drop, List.length_take]; rfl)) ?_; (with_reducible refine (code_Check.calls k1 _ _ x4_1 t225 _ ?side1 ?side2 A26.out).mono ?_); (case side1 => repeat (first | exact (Kd.N_reads' HO_4.out).2.2 | (with_reducible refine Kd.C_alloc ?_ _) | (with_reducible refine Kd.C_drewN ?_ _) | (with_reducible refine Kd.C_drew ?_))); (case side2 => exact (Kd.N_reads' HO_4.out).2.1); rintro e w32 ⟨rfl, hb⟩; refine ⟨_, rfl, ?_⟩; have n0_ := Aside0.mk (Kd.N_below (by (with_reducible repeat (first | apply Kd.N_alloc | apply Kd.N_drewN | apply Kd.N_drew)); exact HO_4.out) hb); have n1_ := Aside0.mk (below_step (by repeat (first | (with_reducible first | exact HB.out | apply below_alloc | apply pw_below_drewN | apply below_drew1) | exact HB.out)) hb); clear HO_4; clear HB; have HO_4 := n0_; have HB := n1_; clear n0_ n1_; (try clear hb); (try clear hb2); (try clear hk); (try clear hi)) | (go_at_call 20; (with_reducible refine (code_Deep.calls k1 _ _ x4_1 t226 _ ?side1 ?side2 A28.out).mono ?_); (case side1 => repeat (first | exact (Kd.N_reads' HO_4.out).2.2 | (with_reducible refine Kd.C_alloc ?_ _) | (with_reducible refine Kd.C_drewN ?_ _) | (with_reducible refine Kd.C_drew ?_))); (case side2 => exact (Kd.N_reads' HO_4.out).2.1); rintro e w33 ⟨rfl, hb⟩; have n0_ := Aside0.mk (Kd.N_below (by (with_reducible repeat (first | apply Kd.N_alloc | apply Kd.N_drewN | apply Kd.N_drew)); exact HO_4.out) hb); have n1_ := Aside0.mk (below_step (by repeat (first | (with_reducible first | exact HB.out | apply below_alloc | apply pw_below_drewN | apply below_drew1) | exact HB.out)) hb); clear HO_4; clear HB; have HO_4 := n0_; have HB := n1_; clear n0_ n1_; (try clear hb); (try clear hb2); (try clear hk); (try clear hi)) | (go_at_call 16; (with_reducible refine (handshakerlaw08_awake.calls k1  t227 _ A30.out).mono ?_); rintro e w34 ⟨rfl, hb⟩; have n0_ := Aside0.mk (Kd.N_below (by (with_reducible repeat (first | apply Kd.N_alloc | apply Kd.N_drewN | apply Kd.N_drew)); exact HO_4.out) hb); have n1_ := Aside0.mk (below_step (by repeat (first | (with_reducible first | exact HB.out | apply below_alloc | apply pw_below_drewN | apply below_drew1) | exact HB.out)) hb); clear HO_4; clear HB; have HO_4 := n0_; have HB := n1_; clear n0_ n1_; (try clear hb); (try clear hb2); (try clear hk); (try clear hi)))
              go_ret
              exact ⟨by first | rfl | (simp [errW_none, errW_some] <;> rfl) | (simp [*, errW_none, errW_some] <;> rfl), by repeat (first | (with_reducible first | exact HB.out | apply below_alloc | apply pw_below_drewN | apply below_drew1) | exact HB.out)⟩
            · rw [if_neg c29] at H
              have c29b0 : (t226 == (wrap64 (Int.tmod a0 9))) = false := beq_eq_false_iff_ne.mpr c29
              have c29b1 : (t226 != (wrap64 (Int.tmod a0 9))) = true := bne_iff_ne.mpr c29
              exact absurd (Option.some.inj H) (by rw [HT.out]; decide)
          · rw [if_neg c27] at H
            have c27b0 : (t225 == 0) = false := beq_eq_false_iff_ne.mpr c27
            have c27b1 : (t225 != 0) = true := bne_iff_ne.mpr c27
            exact absurd (Option.some.inj H) (by rw [HT.out]; decide)

/-- THE ONE PURE STATEMENT of handshakerlaw08_CodeDeep. -/
def handshakerlaw08_CodeDeep.Pure : Prop := ∀ (a0 : Int), (Lit.int .u8 a0).wf = true → ∃ k, handshakerlaw08_CodeDeep.f k a0 = some true

end Go.Proofs.Ytbcpnbmegaodbaa.Ce
