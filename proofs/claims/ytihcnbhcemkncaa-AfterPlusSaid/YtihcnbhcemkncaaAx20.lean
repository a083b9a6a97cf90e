-- PRINTED by print.py (a twelfth state) out of the translation. Not trusted: Lean checks it.
import Derived.Test.YtihcnbhcemkncaaAx0
import Derived.Test.YtihcnbhcemkncaaAx5
import Derived.Test.YtihcnbhcemkncaaAx7
namespace Go.Proofs.Ytihcnbhcemkncaa.A
open Go.Proofs.Ytihcnbhcemkncaa.Ho
open Go.RowKit Go.Proofs.YtihcnbhcemkncaaW.PrintWords Go.Proofs.YtihcnbhcemkncaaW.PrintLast Go.Proofs.YtihcnbhcemkncaaW.PrintMore
attribute [local go_sem] max2_int min2_int max_two min_two max_three min_three max_four min_four   -- for this text's walks alone
set_option linter.unusedVariables false
set_option linter.unusedSimpArgs false

/-! ### handshakerlaw22_AfterPlus: function 8 -/
def handshakerlaw22_AfterPlus.l0 : Nat → Int → List (S66) → List (S25) → List Int → Int → List Int → Int → Int → Option (Bool)
 | 0, _, _, _, _, _, _, _, _ => none
 | k + 1, x2, x7, x8, x9, x10, x28, x29, x30 => if x30 < x29 then (if 0 ≤ x30 then (if x30 < (x28.length : Int) then ((after_Defer.f k x8 (wrap64 (1 + (wrap64 (Int.tmod x2 8)))) (([(⟨0, 2, wrap64 (rd x28 x30)⟩ : S61)] : List (S61)))).bind fun bt640 => (if bt640.2 = 0 then (if x9.length < 17592186044416 then ((span_Add.f x10 (wrap64 (rd x28 x30))).bind fun t647 => (handshakerlaw22_AfterPlus.l0 k x2 x7 bt640.1 (x9 ++ [wrap64 (1 + (wrap64 (Int.tmod x2 8)))]) t647 x28 x29 (wrap64 (x30 + 1)))) else (none)) else (some false))) else (none)) else (none)) else ((after_All.f k x8 x7 x9).bind fun bt627 => (if bt627.2.2 = 0 then (if (bt627.1.length : Int) = 0 then (if (bt627.2.1.length : Int) = 1 then (if 0 < (bt627.2.1.length : Int) then (if ((rd_T66 bt627.2.1 0).f1) = x10 then ((handshakerlaw22_awake.f k).bind fun t635 => (some t635)) else (some false)) else (none)) else (some false)) else (some false)) else (some false)))
def handshakerlaw22_AfterPlus.f (k : Nat) (a0 : Int) (l1 : List Int) (a2 : Int) : Option (Bool) := if (l1.length : Int) > 16 then ((handshakerlaw22_awake.f k).bind fun t623 => (some t623)) else (handshakerlaw22_AfterPlus.l0 k a2 (([(⟨true, wrap64 (a0)⟩ : S66)] : List (S66))) ([] : List (S25)) ([] : List Int) (wrap64 (a0)) l1 (l1.length : Int) 0)
theorem handshakerlaw22_AfterPlus.mono_l : ∀ k, (∀ y0 y1 y2 y3 y4 y5 y6 y7, LeO (handshakerlaw22_AfterPlus.l0 k y0 y1 y2 y3 y4 y5 y6 y7) (handshakerlaw22_AfterPlus.l0 (k + 1) y0 y1 y2 y3 y4 y5 y6 y7))
 | 0 => fun _ _ _ _ _ _ _ _ r h => by simp [handshakerlaw22_AfterPlus.l0] at h
 | k + 1 => by
  have ih0 := handshakerlaw22_AfterPlus.mono_l k
  · intro y0 y1 y2 y3 y4 y5 y6 y7
    unfold handshakerlaw22_AfterPlus.l0
    repeat' first
    | (with_reducible exact ih0 _ _ _ _ _ _ _ _)
    | (with_reducible exact after_All.mono _ _ _ _)
    | (with_reducible exact after_Defer.mono _ _ _ _)
    | (with_reducible exact handshakerlaw22_awake.mono _)
    | (with_reducible exact LeO.refl _)
    | (with_reducible exact LeO.none _)
    | (with_reducible refine LeO.ite ?_ ?_)
    | (with_reducible refine LeO.bind ?_ (fun _ => ?_))
    | exact ih0 _ _ _ _ _ _ _ _
    | exact after_All.mono _ _ _ _
    | exact after_Defer.mono _ _ _ _
    | exact handshakerlaw22_awake.mono _
    | exact LeO.none _
    | refine LeO.ite ?_ ?_
    | refine LeO.bind ?_ (fun _ => ?_)
theorem handshakerlaw22_AfterPlus.mono : ∀ a0 a1 a2 k, LeO (handshakerlaw22_AfterPlus.f k a0 a1 a2) (handshakerlaw22_AfterPlus.f (k + 1) a0 a1 a2) := by
 intro a0 a1 a2 k
 have ih0 := handshakerlaw22_AfterPlus.mono_l k
 unfold handshakerlaw22_AfterPlus.f
 repeat' first
  | (with_reducible exact ih0 _ _ _ _ _ _ _ _)
  | (with_reducible exact after_All.mono _ _ _ _)
  | (with_reducible exact after_Defer.mono _ _ _ _)
  | (with_reducible exact handshakerlaw22_awake.mono _)
  | (with_reducible exact LeO.refl _)
  | (with_reducible exact LeO.none _)
  | (with_reducible refine LeO.ite ?_ ?_)
  | (with_reducible refine LeO.bind ?_ (fun _ => ?_))
  | exact ih0 _ _ _ _ _ _ _ _
  | exact after_All.mono _ _ _ _
  | exact after_Defer.mono _ _ _ _
  | exact handshakerlaw22_awake.mono _
  | exact LeO.none _
  | refine LeO.ite ?_ ?_
  | refine LeO.bind ?_ (fun _ => ?_)
set_option maxHeartbeats 8000000 in
set_option maxRecDepth 100000 in
theorem handshakerlaw22_AfterPlus.calls (k : Nat) (a0 : Int) (A1 : Option Addr) (c1 : Nat) (l1 : List Int) (a2 : Int) (r : Bool) (w : World) (HT : Aside0 (r = true)) (hr1 : Kd.C (Kd.int .i32) w A1 l1.length l1) (hc1 : l1.length ≤ c1) (h : handshakerlaw22_AfterPlus.f k a0 l1 a2 = some r) :
 Calls Try.prog 8 #[.int .i32 a0, .slice A1 l1.length c1, .int .u8 a2] w fun e w' => e = .returned (.bool r) ∧ Below w.heap.size w w' := by
 have hu66 := Try.underlying66
 have hu61 := Try.underlying61
 have hu25 := Try.underlying25
 have HR1 := Aside0.mk hr1
 have HC1 := Aside0.mk hc1
 clear hr1 hc1
 have HB := Aside0.mk (Below.refl w.heap.size w)
 have H : (if (l1.length : Int) > 16 then ((handshakerlaw22_awake.f k).bind fun t623 => (some t623)) else (handshakerlaw22_AfterPlus.l0 k a2 (([(⟨true, wrap64 (a0)⟩ : S66)] : List (S66))) ([] : List (S25)) ([] : List Int) (wrap64 (a0)) l1 (l1.length : Int) 0)) = some r := h
 clear h
 by_cases c4 : (l1.length : Int) > 16
 · rw [if_pos c4] at H
   have c4b0 : decide (16 < (l1.length : Int)) = true := decide_eq_true c4
   have c4b1 : decide (16 < l1.length) = true := decide_eq_true (by omega)
   clear c4
   replace H := Option.bind_eq_some_iff.mp H
   obtain ⟨t623, A50, H⟩ := H
   replace H : (some t623) = some r := H
   have A5 := Aside0.mk A50
   clear A50
   obtain rfl := Option.some.inj H
   go_enter Try.func8, Try.ntmps8
   go_wp2_with (first | ((with_reducible refine gate_callee (f := 12) rfl ?_); refine goesL_ (some 21) rfl rfl Try.func12 (by kernel_rfl) rfl #[] rfl (by (try simp only [List.map_toArray, List.map_cons, List.map_nil]); first | done | rfl) ?_; (with_reducible refine (handshakerlaw22_awake.calls k  t623 _ A5.out).mono ?_); rintro e w6 ⟨rfl, hb⟩; refine ⟨_, rfl, ?_⟩; have n0_ := Aside0.mk (bst_ hb); clear HB; have HB := n0_; clear n0_; (try clear hb); (try clear hb2); (try clear hk); (try clear hi)))
   go_ret
   exact ⟨by first | rfl | (simp [errW_none, errW_some] <;> rfl) | (simp [*, errW_none, errW_some] <;> rfl), by repeat (with_reducible first | exact HB.out | apply below_alloc | apply pw_below_drewN | apply below_drew1)⟩
 · rw [if_neg c4] at H
   have c4b0 : decide (16 < (l1.length : Int)) = false := decide_eq_false c4
   have c4b1 : decide (16 < l1.length) = false := decide_eq_false (by omega)
   clear c4
   obtain ⟨y624, hy624⟩ : ∃ y_ : List (S66), y_ = (([(⟨true, wrap64 (a0)⟩ : S66)] : List (S66))) := ⟨_, rfl⟩
   replace H : (handshakerlaw22_AfterPlus.l0 k a2 y624 ([] : List (S25)) ([] : List Int) (wrap64 (a0)) l1 (l1.length : Int) 0) = some r := by first | (rw [hy624]; with_reducible exact H) | (have H2_ := (Option.bind_some _ _).symm.trans H; rw [hy624]; with_reducible exact H2_) | (have H2_ := (Option.bind_some _ _).symm.trans H; with_reducible exact H2_) | with_reducible exact H | (rw [hy624]; exact H) | exact H
   have Ny624 := Aside0.mk hy624
   clear hy624
   have H' := Aside0.mk H
   clear H
   go_enter Try.func8, Try.ntmps8
   go_wp2_with (first | ((with_reducible refine gate_dst (N := 25) rfl ?_); (try (refine gate_guard (by rfl) ?_; dsimp only)); refine Kd.R_lit k66 _ 66 ?hg (N := 25) ?hd (xs := ([(⟨true, wrap64 (a0)⟩ : S66)] : List (S66))) (inner := [.bool true, .int .i64 (wrap64 (a0))]) (ok := fun _ => True) (okp := fun _ => True) ?hr ?hp (fun _ hk => hk) trivial (Below.refl _ _) (Nat.le_refl _) (by simp) ?_; (case hd => rfl); (case hg => rfl); (case hr => first | (go_simp; done) | (go_simp; rfl)); (case hp => exact (Reps.c2 (show Kd.M k66 _ _ _ (⟨true, wrap64 (a0)⟩ : S66) [.bool true, .int .i64 (wrap64 (a0))] from (k66_mkM _ _ _ (⟨true, wrap64 (a0)⟩ : S66) )) (Reps.none _ _))); intro v625 w7 ho8 hb hg_ hnew_; clear hg_ hnew_; (first | rw [← Ny624.out] at ho8 | (simp only [Int.reduceToNat] at ho8; rw [← Ny624.out] at ho8)); have n0_ := Aside0.mk (Kd.R_lower ho8 bsz_); have n1_ := Aside0.mk (bst_ hb); clear HB; have HO626 := n0_; have HB := n1_; clear n0_ n1_; clear hb ho8))
   go_loopg [8, 9, 10, 30] k (fun kq v8 v9 v10 v30 w' => ∃ (x8_1 : List (S25)) (x9_1 : List Int) (x10_1 : Int) (x30_1 : Int), v10 = .int .i64 x10_1 ∧ v30 = .int .i64 x30_1 ∧ Aside0 (handshakerlaw22_AfterPlus.l0 kq a2 y624 x8_1 x9_1 x10_1 l1 (l1.length : Int) x30_1 = some r) ∧ Aside0 (kq ≤ k) ∧ Aside0 (Kd.R k66 66 w' w.heap.size (fun _ => True) v625 y624) ∧ Aside0 (Kd.V k25 25 w' w.heap.size (fun k_ => some k_ ≠ (v625 : Value).ownBlock ∧ some k_ ≠ (v9 : Value).ownBlock) v8 x8_1) ∧ Aside0 (Kd.R (Kd.int .i64) 3 w' w.heap.size (fun _ => True) v9 x9_1) ∧ Aside0 (Below w.heap.size w w'))
   case atStart => exact ⟨(([] : List (S25))), (([] : List Int)), (wrap64 (a0)), (0), (by first | rfl | (simp; done) | (simp [*]; done)), (by first | rfl | (simp; done) | (simp [*]; done)), H', ⟨Nat.le_refl _⟩, ⟨by (with_reducible repeat (first | apply Kd.R_alloc | apply Kd.R_drewN | apply Kd.R_drew)); exact HO626.out⟩, ⟨Kd.V_nil _ _ _ _ _⟩, ⟨by first | exact Kd.R_nil _ _ _ _ _ | exact Kd.N_nil _ _ _ _ _ | exact Kd.V_nil _ _ _ _ _ | exact Kd.Q_nil _ _ _ _ _ | exact Kd.S_nil _ _ _ _ _⟩, ⟨by repeat (with_reducible first | exact HB.out | apply below_alloc | apply pw_below_drewN | apply below_drew1)⟩⟩
   case round =>
    clear H'
    try clear c1
    try clear c2
    try clear p2
    try clear c4
    try clear c4b0
    try clear c4b1
    try clear p6
    try clear c8
    obtain ⟨x8_1, x9_1, x10_1, x30_1, rfl, rfl, HA, HK1, HO_7, HO_8, HO_9, HB⟩ := hrel
    cases gk with
    | zero => exact absurd HA.out (by simp [handshakerlaw22_AfterPlus.l0])
    | succ k1 =>
     have H := HA.out
     clear HA
     simp only [handshakerlaw22_AfterPlus.l0] at H
     by_cases c9 : x30_1 < (l1.length : Int)
     · rw [if_pos c9] at H
       have c9b0 : decide (x30_1 < (l1.length : Int)) = true := decide_eq_true c9
       clear c9
       by_cases c10 : 0 ≤ x30_1
       · rw [if_pos c10] at H
         have c10b0 : decide (0 ≤ x30_1) = true := decide_eq_true c10
         clear c10
         by_cases c11 : x30_1 < (l1.length : Int)
         · rw [if_pos c11] at H
           have c11b0 : decide (x30_1 < (l1.length : Int)) = true := decide_eq_true c11
           clear c11
           obtain ⟨y637, hy637⟩ : ∃ y_ : List (S61), y_ = (([(⟨0, 2, wrap64 (rd l1 x30_1)⟩ : S61)] : List (S61))) := ⟨_, rfl⟩
           replace H : ((after_Defer.f k1 x8_1 (wrap64 (1 + (wrap64 (Int.tmod a2 8)))) y637).bind fun bt640 => (if bt640.2 = 0 then (if x9_1.length < 17592186044416 then ((span_Add.f x10_1 (wrap64 (rd l1 x30_1))).bind fun t647 => (handshakerlaw22_AfterPlus.l0 k1 a2 y624 bt640.1 (x9_1 ++ [wrap64 (1 + (wrap64 (Int.tmod a2 8)))]) t647 l1 (l1.length : Int) (wrap64 (x30_1 + 1)))) else (none)) else (some false))) = some r := by first | (rw [hy637]; with_reducible exact H) | (have H2_ := (Option.bind_some _ _).symm.trans H; rw [hy637]; with_reducible exact H2_) | (have H2_ := (Option.bind_some _ _).symm.trans H; with_reducible exact H2_) | with_reducible exact H | (rw [hy637]; exact H) | exact H
           have Ny637 := Aside0.mk hy637
           clear hy637
           replace H := Option.bind_eq_some_iff.mp H
           obtain ⟨⟨t640, t643⟩, A120, H⟩ := H
           replace H : (if t643 = 0 then (if x9_1.length < 17592186044416 then ((span_Add.f x10_1 (wrap64 (rd l1 x30_1))).bind fun t647 => (handshakerlaw22_AfterPlus.l0 k1 a2 y624 t640 (x9_1 ++ [wrap64 (1 + (wrap64 (Int.tmod a2 8)))]) t647 l1 (l1.length : Int) (wrap64 (x30_1 + 1)))) else (none)) else (some false)) = some r := H
           have A12 := Aside0.mk A120
           clear A120
           by_cases c13 : t643 = 0
           · rw [if_pos c13] at H
             have c13b0 : (t643 == 0) = true := beq_iff_eq.mpr c13
             have c13b1 : (t643 != 0) = false := bne_eq_false_iff_eq.mpr c13
             clear c13
             by_cases c14 : x9_1.length < 17592186044416
             · rw [if_pos c14] at H
               have LMc14 := Aside0.mk c14
               clear c14
               obtain ⟨y644, hy644⟩ : ∃ y_ : List Int, y_ = (x9_1 ++ [wrap64 (1 + (wrap64 (Int.tmod a2 8)))]) := ⟨_, rfl⟩
               replace H : ((span_Add.f x10_1 (wrap64 (rd l1 x30_1))).bind fun t647 => (handshakerlaw22_AfterPlus.l0 k1 a2 y624 t640 y644 t647 l1 (l1.length : Int) (wrap64 (x30_1 + 1)))) = some r := by first | (rw [hy644]; with_reducible exact H) | (have H2_ := (Option.bind_some _ _).symm.trans H; rw [hy644]; with_reducible exact H2_) | (have H2_ := (Option.bind_some _ _).symm.trans H; with_reducible exact H2_) | with_reducible exact H | (rw [hy644]; exact H) | exact H
               have Ny644 := Aside0.mk hy644
               clear hy644
               replace H := Option.bind_eq_some_iff.mp H
               obtain ⟨t647, A150, H⟩ := H
               replace H : (handshakerlaw22_AfterPlus.l0 k1 a2 y624 t640 y644 t647 l1 (l1.length : Int) (wrap64 (x30_1 + 1))) = some r := H
               have A15 := Aside0.mk A150
               clear A150
               have H' := Aside0.mk H
               clear H
               have p636 : 0 ≤ (x30_1 : Int) := of_decide_eq_true (by first | (with_reducible assumption) | assumption)
               have q636 : x30_1 < (l1.length : Int) := of_decide_eq_true (by first | (with_reducible assumption) | assumption)
               obtain ⟨ad636, e636, hx636_0⟩ := Kd.at_int HR1.out x30_1 p636 q636
               cases e636
               replace hx636_0 := (HB.out.cell (World.block_lt_of_cell? w _ hx636_0)).trans hx636_0
               replace p636 := eq_true p636
               replace q636 := eq_true q636
               go_wp2_with (first | ((with_reducible refine gate_dst (N := 43) rfl ?_); (try (refine gate_guard (by rfl) ?_; dsimp only)); refine Kd.R_lit k61 _ 61 ?hg (N := 43) ?hd (xs := ([(⟨0, 2, wrap64 (rd l1 x30_1)⟩ : S61)] : List (S61))) (inner := [.int .i64 0, .int .i64 2, .int .i64 (wrap64 (rd l1 x30_1))]) (ok := fun _ => True) (okp := fun _ => True) ?hr ?hp (fun _ hk => hk) trivial (Below.refl _ _) (Nat.le_refl _) (by simp) ?_; (case hd => rfl); (case hg => rfl); (case hr => first | (go_simp; done) | (go_simp; rfl)); (case hp => exact (Reps.c3 (show Kd.M k61 _ _ _ (⟨0, 2, wrap64 (rd l1 x30_1)⟩ : S61) [.int .i64 0, .int .i64 2, .int .i64 (wrap64 (rd l1 x30_1))] from (k61_mkM _ _ _ (⟨0, 2, wrap64 (rd l1 x30_1)⟩ : S61) )) (Reps.none _ _))); intro v638 w16 ho17 hb hg_ hnew_; clear hg_ hnew_; (first | rw [← Ny637.out] at ho17 | (simp only [Int.reduceToNat] at ho17; rw [← Ny637.out] at ho17)); have n0_ := Aside0.mk (Kd.R_below (by (with_reducible repeat (first | apply Kd.R_alloc | apply Kd.R_drewN | apply Kd.R_drew)); exact HO_7.out) hb); have n1_ := Aside0.mk (Kd.V_elder' (by (with_reducible repeat (first | apply Kd.V_alloc | apply Kd.V_drewN | apply Kd.V_drew)); exact HO_8.out) (Kd.R_base ho17) hb); have n2_ := Aside0.mk (Kd.R_below (by (with_reducible repeat (first | apply Kd.R_alloc | apply Kd.R_drewN | apply Kd.R_drew)); exact HO_9.out) hb); have n3_ := Aside0.mk (Kd.R_lower ho17 bsz_); have n4_ := Aside0.mk (bst_ hb); clear HO_7; clear HO_8; clear HO_9; clear HB; have HO_7 := n0_; have HO_8 := n1_; have HO_9 := n2_; have HO639 := n3_; have HB := n4_; clear n0_ n1_ n2_ n3_ n4_; clear hb ho17; obtain ⟨Ao18, co18, eo18⟩ := Kd.R_slice HO639.out; subst eo18; obtain ⟨Ao19, co19, eo19⟩ := Kd.V_slice HO_8.out; subst eo19) | ((with_reducible refine gate_callee (f := 14) rfl ?_); refine goesL_ (some 45) rfl rfl Try.func14 (by kernel_rfl) rfl #[.slice Ao19 x8_1.length co19, .agg #[.int .i64 (wrap64 (1 + (wrap64 (Int.tmod a2 8)))), .slice Ao18 y637.length co18]] rfl (by (try simp only [List.map_toArray, List.map_cons, List.map_nil]); first | done | rfl) ?_; (with_reducible refine (after_Defer.calls k1 (fun k_ => ((some k_ ≠ (v625 : Value).ownBlock ∧ some k_ ≠ (u9 : Value).ownBlock) ∧ some k_ ≠ (.slice Ao18 y637.length co18 : Value).ownBlock)) _ _ x8_1 (wrap64 (1 + (wrap64 (Int.tmod a2 8)))) (fun k_ => some k_ = (.slice Ao18 y637.length co18 : Value).ownBlock) _ _ y637 t640 t643 _ ?side1 ?side2 A12.out).mono ?_); (case side1 => exact HO_8.out); (case side2 => exact Kd.R_V (Kd.R_tight rfl (Kd.R_apart' (Kd.R_apart' (HO639.out) (Kd.R_typed HO_7.out) (by decide)) (Kd.R_typed HO_9.out) (by decide)))); rintro e w20 ⟨v641, rfl, ho0, hb⟩; refine ⟨_, rfl, ?_⟩; have n0_ := Aside0.mk (Kd.R_below (by (with_reducible repeat (first | apply Kd.R_alloc | apply Kd.R_drewN | apply Kd.R_drew)); exact HO_7.out) hb); have n1_ := Aside0.mk (Kd.V_below (by (with_reducible repeat (first | apply Kd.V_alloc | apply Kd.V_drewN | apply Kd.V_drew)); exact HO_8.out) hb); have n2_ := Aside0.mk (Kd.R_below (by (with_reducible repeat (first | apply Kd.R_alloc | apply Kd.R_drewN | apply Kd.R_drew)); exact HO_9.out) hb); have n3_ := Aside0.mk (Kd.R_below (by (with_reducible repeat (first | apply Kd.R_alloc | apply Kd.R_drewN | apply Kd.R_drew)); exact HO639.out) hb); have n4_ := Aside0.mk (Kd.V_lower (Kd.V_mono (ok' := fun k_ => some k_ ≠ (v625 : Value).ownBlock ∧ some k_ ≠ (u9 : Value).ownBlock) ho0 (fun k_ hk_ => ⟨Or.elim hk_ (fun hs_ => Or.elim hs_ (fun hs_ => hs_.1.1) (fun hs_ => ((Kd.R_apart' (Kd.R_apart' (HO639.out) (Kd.R_typed HO_7.out) (by decide)) (Kd.R_typed HO_9.out) (by decide)).1 k_ hs_.symm).1.2)) (fun hn_ => (Kd.fresh' (Kd.R_lt (by (with_reducible repeat (first | apply Kd.R_alloc | apply Kd.R_drewN | apply Kd.R_drew)); exact HO_7.out)) k_ hn_)), Or.elim hk_ (fun hs_ => Or.elim hs_ (fun hs_ => hs_.1.2) (fun hs_ => ((Kd.R_apart' (Kd.R_apart' (HO639.out) (Kd.R_typed HO_7.out) (by decide)) (Kd.R_typed HO_9.out) (by decide)).1 k_ hs_.symm).2)) (fun hn_ => (Kd.fresh' (Kd.R_lt (by (with_reducible repeat (first | apply Kd.R_alloc | apply Kd.R_drewN | apply Kd.R_drew)); exact HO_9.out)) k_ hn_))⟩)) bsz_); have n5_ := Aside0.mk (bst_ hb); clear HO_7; clear HO_8; clear HO_9; clear HO639; clear HB; have HO_7 := n0_; have HO_8 := n1_; have HO_9 := n2_; have HO639 := n3_; have HO642 := n4_; have HB := n5_; clear n0_ n1_ n2_ n3_ n4_ n5_; (try clear hb); (try clear hb2); (try clear hk); (try clear hi); (try clear ho0)) | ((with_reducible refine gate_builtin (b := .append) (xs := #[.tmp 51, .tmp 56]) rfl ?_); (try (refine gate_guard (by rfl) ?_; dsimp only)); at_builtin; refine Kd.R_append (Kd.int .i64) (w0 := w) w.heap.size rfl (.tmp 51) (.tmp 56) 27 3 (.int .i64 0) 8 rfl Try.underlying27 info3 rfl (by decide) (by omega) u9 x9_1 (wrap64 (1 + (wrap64 (Int.tmod a2 8)))) [.int .i64 (wrap64 (1 + (wrap64 (Int.tmod a2 8))))] (fun _ => True) (fun _ => False) rfl rfl ?aP (fun _ hk => hk.elim) ?aF ?aO ?aB ?aS ?aL ?_; (case aP => exact rfl); (case aB => exact (by repeat (with_reducible first | exact HB.out | apply below_alloc | apply pw_below_drewN | apply below_drew1))); (case aF => exact (fun _ _ => trivial)); (case aO => exact (by (with_reducible repeat (first | apply Kd.R_alloc | apply Kd.R_drewN | apply Kd.R_drew)); exact HO_9.out)); (case aS => exact bsz_); (case aL => have := LMc14.out; omega); intro v645 w21 ho hb hg hat; rw [← Ny644.out] at ho; have n0_ := Aside0.mk (Kd.R_over' (by (with_reducible repeat (first | apply Kd.R_alloc | apply Kd.R_drewN | apply Kd.R_drew)); exact HO_7.out) (Kd.R_typed (by (with_reducible repeat (first | apply Kd.R_alloc | apply Kd.R_drewN | apply Kd.R_drew)); exact HO_9.out)) (by decide) hg); have n1_ := Aside0.mk (Kd.V_afterv (ok := (fun k_ => some k_ ≠ (v625 : Value).ownBlock ∧ some k_ ≠ (.slice Ao18 y637.length co18 : Value).ownBlock)) (by (with_reducible repeat (first | apply Kd.V_alloc | apply Kd.V_drewN | apply Kd.V_drew)); exact Kd.V_mono HO_8.out (fun _ hk => ⟨⟨hk.1.1, hk.2⟩, hk.1.2⟩)) hg hat); have n2_ := Aside0.mk (Kd.R_over' (by (with_reducible repeat (first | apply Kd.R_alloc | apply Kd.R_drewN | apply Kd.R_drew)); exact HO639.out) (Kd.R_typed (by (with_reducible repeat (first | apply Kd.R_alloc | apply Kd.R_drewN | apply Kd.R_drew)); exact HO_9.out)) (by decide) hg); have n3_ := Aside0.mk (Kd.V_afterv (ok := (fun k_ => some k_ ≠ (v625 : Value).ownBlock)) (by (with_reducible repeat (first | apply Kd.V_alloc | apply Kd.V_drewN | apply Kd.V_drew)); exact HO642.out) hg hat); have n4_ := Aside0.mk (hb); have n5_ := Aside0.mk (ho); clear HO_7; clear HO_8; clear HO639; clear HO642; clear HB; clear HO_9; have HO_7 := n0_; have HO_8 := n1_; have HO639 := n2_; have HO642 := n3_; have HB := n4_; have HO646 := n5_; clear n0_ n1_ n2_ n3_ n4_ n5_; clear ho hb hg hat) | ((with_reducible refine gate_callee (f := 29) rfl ?_); refine goesL_ (some 61) rfl rfl Try.func29 (by kernel_rfl) rfl #[.int .i64 x10_1, .int .i64 (wrap64 (rd l1 x30_1))] rfl (by (try simp only [List.map_toArray, List.map_cons, List.map_nil]); first | done | rfl) ?_; (with_reducible refine (span_Add.calls x10_1 (wrap64 (rd l1 x30_1)) t647 _ A15.out).mono ?_); rintro e w' ⟨rfl, ⟨nd, rfl⟩⟩; refine ⟨_, rfl, ?_⟩))
               go_roundg k1
               case measure => have := HK1.out; omega
               case rel => exact ⟨(t640), (y644), (t647), (wrap64 (x30_1 + 1)), (by first | rfl | (simp; done) | (simp [*]; done)), (by first | rfl | (simp; done) | (simp [*]; done)), H', ⟨by have := HK1.out; omega⟩, ⟨by (with_reducible repeat (first | apply Kd.R_alloc | apply Kd.R_drewN | apply Kd.R_drew)); exact HO_7.out⟩, ⟨by (with_reducible repeat (first | apply Kd.V_alloc | apply Kd.V_drewN | apply Kd.V_drew)); exact HO642.out⟩, ⟨by (with_reducible repeat (first | apply Kd.R_alloc | apply Kd.R_drewN | apply Kd.R_drew)); exact HO646.out⟩, ⟨by repeat (with_reducible first | exact HB.out | apply below_alloc | apply pw_below_drewN | apply below_drew1)⟩⟩
             · rw [if_neg c14] at H
               exact absurd H (by simp)
           · rw [if_neg c13] at H
             have c13b0 : (t643 == 0) = false := beq_eq_false_iff_ne.mpr c13
             have c13b1 : (t643 != 0) = true := bne_iff_ne.mpr c13
             exact absurd (Option.some.inj H) (by rw [HT.out]; decide)
         · rw [if_neg c11] at H
           exact absurd H (by simp)
       · rw [if_neg c10] at H
         exact absurd H (by simp)
     · rw [if_neg c9] at H
       have c9b0 : decide (x30_1 < (l1.length : Int)) = false := decide_eq_false c9
       clear c9
       replace H := Option.bind_eq_some_iff.mp H
       obtain ⟨⟨t627, t630, t633⟩, A220, H⟩ := H
       replace H : (if t633 = 0 then (if (t627.length : Int) = 0 then (if (t630.length : Int) = 1 then (if 0 < (t630.length : Int) then (if ((rd_T66 t630 0).f1) = x10_1 then ((handshakerlaw22_awake.f k1).bind fun t635 => (some t635)) else (some false)) else (none)) else (some false)) else (some false)) else (some false)) = some r := H
       have A22 := Aside0.mk A220
       clear A220
       by_cases c23 : t633 = 0
       · rw [if_pos c23] at H
         have c23b0 : (t633 == 0) = true := beq_iff_eq.mpr c23
         have c23b1 : (t633 != 0) = false := bne_eq_false_iff_eq.mpr c23
         clear c23
         by_cases c24 : (t627.length : Int) = 0
         · rw [if_pos c24] at H
           have c24b0 : ((t627.length : Int) == 0) = true := beq_iff_eq.mpr c24
           have c24b1 : ((t627.length : Int) != 0) = false := bne_eq_false_iff_eq.mpr c24
           clear c24
           by_cases c25 : (t630.length : Int) = 1
           · rw [if_pos c25] at H
             have c25b0 : ((t630.length : Int) == 1) = true := beq_iff_eq.mpr c25
             have c25b1 : ((t630.length : Int) != 1) = false := bne_eq_false_iff_eq.mpr c25
             clear c25
             by_cases c26 : 0 < (t630.length : Int)
             · rw [if_pos c26] at H
               have c26b0 : decide (0 < (t630.length : Int)) = true := decide_eq_true c26
               have c26b1 : decide (0 < t630.length) = true := decide_eq_true (by omega)
               clear c26
               by_cases c27 : ((rd_T66 t630 0).f1) = x10_1
               · rw [if_pos c27] at H
                 have c27b0 : (((rd_T66 t630 0).f1) == x10_1) = true := beq_iff_eq.mpr c27
                 have c27b1 : (((rd_T66 t630 0).f1) != x10_1) = false := bne_eq_false_iff_eq.mpr c27
                 clear c27
                 replace H := Option.bind_eq_some_iff.mp H
                 obtain ⟨t635, A280, H⟩ := H
                 replace H : (some t635) = some r := H
                 have A28 := Aside0.mk A280
                 clear A280
                 obtain rfl := Option.some.inj H
                 obtain ⟨Ao29, co29, eo29⟩ := Kd.V_slice HO_8.out
                 subst eo29
                 obtain ⟨Ao30, co30, eo30⟩ := Kd.R_slice HO_7.out
                 subst eo30
                 obtain ⟨Ao31, co31, eo31⟩ := Kd.R_slice HO_9.out
                 subst eo31
                 go_wp2_with (first | ((with_reducible refine gate_callee (f := 18) rfl ?_); refine goesL_ (some 67) rfl rfl Try.func18 (by kernel_rfl) rfl #[.slice Ao29 x8_1.length co29, .slice Ao30 y624.length co30, .slice Ao31 x9_1.length co31] rfl (by (try simp only [List.map_toArray, List.map_cons, List.map_nil]); first | done | rfl) ?_; (with_reducible refine (after_All.calls k1 (fun k_ => (some k_ ≠ (.slice Ao30 y624.length co30 : Value).ownBlock ∧ some k_ ≠ (.slice Ao31 x9_1.length co31 : Value).ownBlock)) _ _ x8_1 (fun k_ => some k_ = (.slice Ao30 y624.length co30 : Value).ownBlock) _ _ y624 _ _ x9_1 t627 t630 t633 _ ?side1 ?side2 ?side3 ?side4 A22.out).mono ?_); (case side1 => exact HO_8.out); (case side2 => exact Kd.R_V (Kd.R_tight rfl (Kd.R_apart' (HO_7.out) (Kd.R_typed HO_9.out) (by decide)))); (case side3 => repeat (first | exact (Kd.R_reads' HO_9.out).2.2 | with_reducible first | refine Kd.C_alloc ?_ _ | refine Kd.C_drewN ?_ _ | refine Kd.C_drew ?_)); (case side4 => exact (Kd.R_reads' HO_9.out).2.1); rintro e w32 ⟨v628, v631, rfl, ho0, ho1, hb⟩; refine ⟨_, rfl, ?_⟩; have n0_ := Aside0.mk (Kd.R_below (by (with_reducible repeat (first | apply Kd.R_alloc | apply Kd.R_drewN | apply Kd.R_drew)); exact HO_7.out) hb); have n1_ := Aside0.mk (Kd.V_below (by (with_reducible repeat (first | apply Kd.V_alloc | apply Kd.V_drewN | apply Kd.V_drew)); exact HO_8.out) hb); have n2_ := Aside0.mk (Kd.R_below (by (with_reducible repeat (first | apply Kd.R_alloc | apply Kd.R_drewN | apply Kd.R_drew)); exact HO_9.out) hb); have n3_ := Aside0.mk (Kd.V_lower (Kd.V_mono (ok' := fun k_ => some k_ ≠ (.slice Ao31 x9_1.length co31 : Value).ownBlock) ho0 (fun k_ hk_ => Or.elim hk_ (fun hs_ => Or.elim hs_ (fun hs_ => hs_.2) (fun hs_ => ((Kd.R_apart' (HO_7.out) (Kd.R_typed HO_9.out) (by decide)).1 k_ hs_.symm).2)) (fun hn_ => (Kd.fresh' (Kd.R_lt (by (with_reducible repeat (first | apply Kd.R_alloc | apply Kd.R_drewN | apply Kd.R_drew)); exact HO_9.out)) k_ hn_)))) bsz_); have n4_ := Aside0.mk (Kd.V_lower (Kd.V_mono (ok' := fun k_ => some k_ ≠ (.slice Ao31 x9_1.length co31 : Value).ownBlock) ho1 (fun k_ hk_ => Or.elim hk_ (fun hs_ => Or.elim hs_ (fun hs_ => hs_.2) (fun hs_ => ((Kd.R_apart' (HO_7.out) (Kd.R_typed HO_9.out) (by decide)).1 k_ hs_.symm).2)) (fun hn_ => (Kd.fresh' (Kd.R_lt (by (with_reducible repeat (first | apply Kd.R_alloc | apply Kd.R_drewN | apply Kd.R_drew)); exact HO_9.out)) k_ hn_)))) bsz_); have n5_ := Aside0.mk (bst_ hb); clear HO_7; clear HO_8; clear HO_9; clear HB; have HO_7 := n0_; have HO_8 := n1_; have HO_9 := n2_; have HO629 := n3_; have HO632 := n4_; have HB := n5_; clear n0_ n1_ n2_ n3_ n4_ n5_; (try clear hb); (try clear hb2); (try clear hk); (try clear hi); (try clear ho0); (try clear ho1); obtain ⟨Ao33, co33, eo33⟩ := Kd.V_slice HO629.out; subst eo33; obtain ⟨Ao34, co34, eo34⟩ := Kd.V_slice HO632.out; subst eo34; have p634 : 0 ≤ (0 : Int) := (by omega); have q634 : 0 < (t630.length : Int) := of_decide_eq_true (by first | (with_reducible assumption) | assumption); obtain ⟨ad634, e634, hx634_0, hx634_1⟩ := at_T66 (Kd.V_reads' HO632.out).2.2 0 p634 q634; cases e634; have qi634 : (0 < t630.length) = True := eq_true (by omega); (try rw [show ((0 : Int)).toNat = 0 from rfl] at hx634_0); (try rw [show 0 * 2 = 0 from rfl] at hx634_0); (try rw [Addr.add_zero'] at hx634_0); (try rw [show ((0 : Int)).toNat = 0 from rfl] at hx634_1); (try rw [show 0 * 2 = 0 from rfl] at hx634_1); (try rw [Addr.add_zero'] at hx634_1); replace p634 := eq_true p634; replace q634 := eq_true q634) | (go_at_call 12; (with_reducible refine (handshakerlaw22_awake.calls k1  t635 _ A28.out).mono ?_); rintro e w35 ⟨rfl, hb⟩; have n0_ := Aside0.mk (Kd.R_below (by (with_reducible repeat (first | apply Kd.R_alloc | apply Kd.R_drewN | apply Kd.R_drew)); exact HO_7.out) hb); have n1_ := Aside0.mk (Kd.V_below (by (with_reducible repeat (first | apply Kd.V_alloc | apply Kd.V_drewN | apply Kd.V_drew)); exact HO_8.out) hb); have n2_ := Aside0.mk (Kd.R_below (by (with_reducible repeat (first | apply Kd.R_alloc | apply Kd.R_drewN | apply Kd.R_drew)); exact HO_9.out) hb); have n3_ := Aside0.mk (Kd.V_below (by (with_reducible repeat (first | apply Kd.V_alloc | apply Kd.V_drewN | apply Kd.V_drew)); exact HO629.out) hb); have n4_ := Aside0.mk (Kd.V_below (by (with_reducible repeat (first | apply Kd.V_alloc | apply Kd.V_drewN | apply Kd.V_drew)); exact HO632.out) hb); have n5_ := Aside0.mk (bst_ hb); clear HO_7; clear HO_8; clear HO_9; clear HO629; clear HO632; clear HB; have HO_7 := n0_; have HO_8 := n1_; have HO_9 := n2_; have HO629 := n3_; have HO632 := n4_; have HB := n5_; clear n0_ n1_ n2_ n3_ n4_ n5_; (try clear hb); (try clear hb2); (try clear hk); (try clear hi)))
                 go_ret
                 exact ⟨by first | rfl | (simp [errW_none, errW_some] <;> rfl) | (simp [*, errW_none, errW_some] <;> rfl), by repeat (with_reducible first | exact HB.out | apply below_alloc | apply pw_below_drewN | apply below_drew1)⟩
               · rw [if_neg c27] at H
                 have c27b0 : (((rd_T66 t630 0).f1) == x10_1) = false := beq_eq_false_iff_ne.mpr c27
                 have c27b1 : (((rd_T66 t630 0).f1) != x10_1) = true := bne_iff_ne.mpr c27
                 exact absurd (Option.some.inj H) (by rw [HT.out]; decide)
             · rw [if_neg c26] at H
               exact absurd H (by simp)
           · rw [if_neg c25] at H
             have c25b0 : ((t630.length : Int) == 1) = false := beq_eq_false_iff_ne.mpr c25
             have c25b1 : ((t630.length : Int) != 1) = true := bne_iff_ne.mpr c25
             exact absurd (Option.some.inj H) (by rw [HT.out]; decide)
         · rw [if_neg c24] at H
           have c24b0 : ((t627.length : Int) == 0) = false := beq_eq_false_iff_ne.mpr c24
           have c24b1 : ((t627.length : Int) != 0) = true := bne_iff_ne.mpr c24
           have c24b2 : ¬ (t627 = []) := fun h_ => c24 (by rw [h_]; rfl)
           exact absurd (Option.some.inj H) (by rw [HT.out]; decide)
       · rw [if_neg c23] at H
         have c23b0 : (t633 == 0) = false := beq_eq_false_iff_ne.mpr c23
         have c23b1 : (t633 != 0) = true := bne_iff_ne.mpr c23
         exact absurd (Option.some.inj H) (by rw [HT.out]; decide)

/-- THE ONE PURE STATEMENT of handshakerlaw22_AfterPlus. -/
def handshakerlaw22_AfterPlus.Pure : Prop := ∀ (a0 : Int) (l1 : List Int) (a2 : Int), (Lit.int .i32 a0).wf = true → l1.length ≤ maxLen → l1.length * 4 ≤ 140737488351232 → (∀ y ∈ l1, (Lit.int .i32 y).wf = true) → (Lit.int .u8 a2).wf = true → ∃ k, handshakerlaw22_AfterPlus.f k a0 l1 a2 = some true

end Go.Proofs.Ytihcnbhcemkncaa.A
