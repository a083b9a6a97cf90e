-- PRINTED by print.py (a twelfth state) out of the translation. Not trusted: Lean checks it.
import Derived.Test.YtihcnbhcemkncaaBx0
import Derived.Test.YtihcnbhcemkncaaBx3
namespace Go.Proofs.Ytihcnbhcemkncaa.B
open Go.Proofs.Ytihcnbhcemkncaa.Ho
open Go.RowKit Go.Proofs.YtihcnbhcemkncaaW.PrintWords Go.Proofs.YtihcnbhcemkncaaW.PrintLast Go.Proofs.YtihcnbhcemkncaaW.PrintMore
attribute [local go_sem] max2_int min2_int max_two min_two max_three min_three max_four min_four   -- for this text's walks alone
set_option linter.unusedVariables false
set_option linter.unusedSimpArgs false

/-! ### after_Right: function 22 -/
def after_Right.l0 : Nat → List (S25) → List (S25) → Int → Int → Option (Bool)
 | 0, _, _, _, _ => none
 | k + 1, x0, x5, x6, x7 => if x7 < x6 then (if 0 ≤ x7 then (if x7 < (x5.length : Int) then ((after_Job_may.f ((rd_T25 x5 x7).f0) ((rd_T25 x5 x7).f1)).bind fun t119 => (if t119 = true then (if x7 ≤ (x0.length : Int) then ((any_at_after_Job_against.f (x0.take (x7 : Int).toNat) ((rd_T25 x5 x7).f0) ((rd_T25 x5 x7).f1)).bind fun t124 => (if t124 = true then (some false) else (after_Right.l0 k x0 x5 x6 (wrap64 (x7 + 1))))) else (none)) else (some false))) else (none)) else (none)) else (some (decide ((x0.length : Int) ≤ 16)))
def after_Right.f (k : Nat) (l0 : List (S25)) : Option (Bool) := after_Right.l0 k l0 l0 (l0.length : Int) 0
theorem after_Right.mono_l : ∀ k, (∀ y0 y1 y2 y3, LeO (after_Right.l0 k y0 y1 y2 y3) (after_Right.l0 (k + 1) y0 y1 y2 y3))
 | 0 => fun _ _ _ _ r h => by simp [after_Right.l0] at h
 | k + 1 => by
  have ih0 := after_Right.mono_l k
  · intro y0 y1 y2 y3
    unfold after_Right.l0
    repeat' first
    | (with_reducible exact ih0 _ _ _ _)
    | (with_reducible exact LeO.refl _)
    | (with_reducible exact LeO.none _)
    | (with_reducible refine LeO.ite ?_ ?_)
    | (with_reducible refine LeO.bind ?_ (fun _ => ?_))
    | exact ih0 _ _ _ _
    | exact LeO.none _
    | refine LeO.ite ?_ ?_
    | refine LeO.bind ?_ (fun _ => ?_)
theorem after_Right.mono : ∀ a0 k, LeO (after_Right.f k a0) (after_Right.f (k + 1) a0) := by
 intro a0 k
 have ih0 := after_Right.mono_l k
 unfold after_Right.f
 repeat' first
  | (with_reducible exact ih0 _ _ _ _)
  | (with_reducible exact LeO.refl _)
  | (with_reducible exact LeO.none _)
  | (with_reducible refine LeO.ite ?_ ?_)
  | (with_reducible refine LeO.bind ?_ (fun _ => ?_))
  | exact ih0 _ _ _ _
  | exact LeO.none _
  | refine LeO.ite ?_ ?_
  | refine LeO.bind ?_ (fun _ => ?_)
def after_Right.T4 : Bool × List (List Nat × List Nat) := (true, [([], []), ([0], [0]), ([1], [1]), ([2, 1], [2]), ([3], [3]), ([3], [3]), ([4, 5, 3], [3, 4, 5]), ([3], [3]), ([7, 3], [3, 7]), ([6, 8, 3, 3], [3, 6, 8]), ([3, 9], [3, 9])])
def after_Right.B4 : List Nat := [0, 1, 3, 7, 15, 15, 63, 15, 143, 511, 1023]
theorem after_Right.tab4 : rtab .any (opsOf Try.f22 4) = after_Right.T4 := by kernel_rfl
theorem after_Right.bits4 : waitsOk after_Right.T4.2 after_Right.B4 = true := by kernel_rfl
set_option maxHeartbeats 8000000 in
set_option maxRecDepth 100000 in
theorem after_Right.calls (k : Nat) (A0 : Option Addr) (c0 : Nat) (l0 : List (S25)) (r : Bool) (w : World) (hr0 : Kd.C k25 w A0 l0.length l0) (hc0 : l0.length ≤ c0) (h : after_Right.f k l0 = some r) :
 Calls Try.prog 22 #[.slice A0 l0.length c0] w fun e w' => e = .returned (.bool r) ∧ Below w.heap.size w w' := by
 have hu25 := Try.underlying25
 have HR0 := Aside0.mk hr0
 have HC0 := Aside0.mk hc0
 clear hr0 hc0
 have HB := Aside0.mk (Below.refl w.heap.size w)
 have H : (after_Right.l0 k l0 l0 (l0.length : Int) 0) = some r := h
 clear h
 have H' := Aside0.mk H
 clear H
 go_enter Try.func22, Try.ntmps22
 go_wp2
 go_loopg [7] k (fun kq v7 w' => ∃ (x7_1 : Int), v7 = .int .i64 x7_1 ∧ Aside0 (after_Right.l0 kq l0 l0 (l0.length : Int) x7_1 = some r) ∧ Aside0 (kq ≤ k) ∧ Aside0 (Below w.heap.size w w'))
 case atStart => exact ⟨(0), (by first | rfl | (simp; done) | (simp [*]; done)), H', ⟨Nat.le_refl _⟩, ⟨bsv_⟩⟩
 case round =>
  clear H'
  obtain ⟨x7_1, rfl, HA, HK1, HB⟩ := hrel
  cases gk with
  | zero => exact absurd HA.out (by simp [after_Right.l0])
  | succ k1 =>
   have H := HA.out
   clear HA
   simp only [after_Right.l0] at H
   by_cases c2 : x7_1 < (l0.length : Int)
   · rw [if_pos c2] at H
     have c2b0 : decide (x7_1 < (l0.length : Int)) = true := decide_eq_true c2
     clear c2
     by_cases c3 : 0 ≤ x7_1
     · rw [if_pos c3] at H
       have c3b0 : decide (0 ≤ x7_1) = true := decide_eq_true c3
       clear c3
       by_cases c4 : x7_1 < (l0.length : Int)
       · rw [if_pos c4] at H
         have c4b0 : decide (x7_1 < (l0.length : Int)) = true := decide_eq_true c4
         clear c4
         replace H := Option.bind_eq_some_iff.mp H
         obtain ⟨t119, A50, H⟩ := H
         have A5 := Aside0.mk A50
         clear A50
         by_cases c6 : t119 = true
         · subst c6
           rw [if_pos rfl] at H
           have c7b0 := eq_true (oda_ : 0 ≤ x7_1)
           by_cases c8 : x7_1 ≤ (l0.length : Int)
           · rw [if_pos c8] at H
             have c8b0 := eq_true c8
             have c8b1 : decide (x7_1 ≤ (l0.length : Int)) = true := decide_eq_true c8
             clear c8
             obtain ⟨y120, hy120⟩ : ∃ y_ : List (S25), y_ = (l0.take (x7_1 : Int).toNat) := ⟨_, rfl⟩
             replace H : ((any_at_after_Job_against.f y120 ((rd_T25 l0 x7_1).f0) ((rd_T25 l0 x7_1).f1)).bind fun t124 => (if t124 = true then (some false) else (after_Right.l0 k1 l0 l0 (l0.length : Int) (wrap64 (x7_1 + 1))))) = some r := by first | (rw [hy120]; with_reducible exact H) | (have H2_ := (Option.bind_some _ _).symm.trans H; rw [hy120]; with_reducible exact H2_) | (have H2_ := (Option.bind_some _ _).symm.trans H; with_reducible exact H2_) | with_reducible exact H | (rw [hy120]; exact H) | exact H
             have Ny120 := Aside0.mk hy120
             clear hy120
             replace H := Option.bind_eq_some_iff.mp H
             obtain ⟨t124, A90, H⟩ := H
             have A9 := Aside0.mk A90
             clear A90
             by_cases c10 : t124 = true
             · subst c10
               rw [if_pos rfl] at H
               obtain rfl := Option.some.inj H
               have p117 : 0 ≤ (x7_1 : Int) := oda_
               have q117 : x7_1 < (l0.length : Int) := oda_
               obtain ⟨ad117, A117_1, c117_1, e117, hx117_0, hx117_1, hl117_1, hi117_1⟩ := at_T25 HR0.out x7_1 p117 q117
               cases e117
               replace hx117_0 := (HB.out.cell (World.block_lt_of_cell? w _ hx117_0)).trans hx117_0
               replace hx117_1 := (HB.out.cell (World.block_lt_of_cell? w _ hx117_1)).trans hx117_1
               have HR117_1 := Aside0.mk hi117_1
               have HC117_1 := Aside0.mk hl117_1
               clear hi117_1 hl117_1
               replace p117 := eq_true p117
               replace q117 := eq_true q117
               try go_wp2_with (first | ((with_reducible refine gate_dst (N := 4) rfl ?_); refine box_event ?hg (N := 4) ?hd (cs := #[.int .i64 0, .slice none 0 0]) (t := 25) ?hr ?_; (case hd => rfl); (case hg => rfl); (case hr => first | (go_simp; done) | (go_simp; rfl)); intro gb118 hg w11 hbox hb; replace BK118 := Aside0.mk (hbox); replace GW118 := Aside0.mk ((by rw [hg]; exact bsz_ : w.heap.size ≤ gb118)); replace HB := Aside0.mk (bst_ hb); replace GE118 := GW118; clear hb hbox hg; have hcz12_0 : w11.cell? ⟨gb118, 0, none⟩ = some (.int .i64 0) := (blk_cell BK118.out 0).trans rfl; have hcz12_1 : w11.cell? ⟨gb118, 1, none⟩ = some (.slice none 0 0) := (blk_cell BK118.out 1).trans rfl; have hfz12_0 := blk_frozen BK118.out 0; have hfz12_1 := blk_frozen BK118.out 1))
               have n0_ : Aside0 (((w11.setCell ⟨gb118, 0, none⟩ (.int .i64 ((rd_T25 l0 x7_1).f0))).setCell ⟨gb118, 1, none⟩ (.slice A117_1 ((rd_T25 l0 x7_1).f1).length c117_1)).heap[gb118]? = some (.cells #[.int .i64 ((rd_T25 l0 x7_1).f0), .slice A117_1 ((rd_T25 l0 x7_1).f1).length c117_1] 25 (0, 0))) := ⟨by (with_reducible repeat (first | refine blk_drewN ?_ _ | refine blk_drew ?_ | refine blk_alloc ?_ _)); refine blk_put (cs := #[.int .i64 ((rd_T25 l0 x7_1).f0), .slice none 0 0]) ?_ 1 _ rfl; (with_reducible repeat (first | refine blk_drewN ?_ _ | refine blk_drew ?_ | refine blk_alloc ?_ _)); refine blk_put (cs := #[.int .i64 0, .slice none 0 0]) ?_ 0 _ rfl; (with_reducible repeat (first | refine blk_drewN ?_ _ | refine blk_drew ?_ | refine blk_alloc ?_ _)); exact BK118.out⟩
               have n1_ : Aside0 (Below w.heap.size w ((w11.setCell ⟨gb118, 0, none⟩ (.int .i64 ((rd_T25 l0 x7_1).f0))).setCell ⟨gb118, 1, none⟩ (.slice A117_1 ((rd_T25 l0 x7_1).f1).length c117_1))) := ⟨bsw_⟩
               (try clear BK118)
               (try clear HB)
               generalize ((w11.setCell ⟨gb118, 0, none⟩ (.int .i64 ((rd_T25 l0 x7_1).f0))).setCell ⟨gb118, 1, none⟩ (.slice A117_1 ((rd_T25 l0 x7_1).f1).length c117_1)) = w13 at n0_ n1_ ⊢
               have BK118 := n0_
               have HB := n1_
               clear n0_ n1_
               have n0_ := Aside0.mk (blk_drew BK118.out)
               have n1_ := Aside0.mk (below_drew1 HB.out)
               clear BK118
               clear HB
               have BK118 := n0_
               have HB := n1_
               clear n0_ n1_
               refine start_ (n := 11) (S := fun w' => w'.cell? ⟨gb118, 0, none⟩ = some (.int .i64 ((rd_T25 l0 x7_1).f0)) ∧ w'.cell? ⟨gb118, 1, none⟩ = some (.slice A117_1 ((rd_T25 l0 x7_1).f1).length c117_1)) (ds := []) #[false, false, false, false, false, false, false, false, false, false, false] (by kernel_rfl) rfl rfl ⟨(blk_cell BK118.out 0).trans rfl, (blk_cell BK118.out 1).trans rfl⟩ (fun hHeld => ?_); refine with_tabW after_Right.tab4 after_Right.bits4 (fun HT_ HW_ => ?_)
               generalize w13.drew = w14 at BK118 HB hHeld ⊢
               refine take_ (i := 0) (N := some 12) (v := ?_) (a' := ?_) #[true, false, false, false, false, false, false, false, false, false, false] rfl rfl (take_ofW HT_.out HW_.out (by kernel_rfl)) (fun _ _ _ h => h) (Or.inl ⟨by rfl, ?_⟩) hHeld ?_ ?_
               rotate_left
               · rintro w' ⟨s0, s1⟩
                 go_simp
                 with_reducible rfl
               rotate_left
               · simp only [Act.put, List.setIfInBounds_toArray, List.set_cons_zero, List.set_cons_succ, i64_w, i32_w]
                 rfl
               refine one_ (i := 1) (N := some 13) #[true, true, false, false, false, false, false, false, false, false, false] rfl rfl (one_of HT_.out (by kernel_rfl)) (by decide) (fun K hK => ?_)
               refine goes_ Try.func37 (by kernel_rfl) rfl #[.agg #[.int .i64 ((rd_T25 l0 x7_1).f0), .slice A117_1 ((rd_T25 l0 x7_1).f1).length c117_1]] (by rfl) rfl rfl (by (try simp only [List.map_toArray, List.map_cons, List.map_nil]); first | done | rfl | (simp only [List.length_drop, List.length_take]; rfl)) ?_
               with_reducible refine (after_Job_may.calls ((rd_T25 l0 x7_1).f0) _ _ ((rd_T25 l0 x7_1).f1) true _ ?side1 ?side2 A5.out).mono ?_
               (case side1 => repeat (first | exact (Kd.C_below HR117_1.out HB.out) | with_reducible first | refine Kd.C_alloc ?_ _ | refine Kd.C_drewN ?_ _ | refine Kd.C_drew ?_))
               (case side2 => exact HC117_1.out)
               rintro e w15 ⟨rfl, hb⟩
               refine ⟨_, rfl, ?_⟩
               have n0_ := bb_ BK118 hb
               have n1_ := Aside0.mk (below_step bsw_ hb)
               clear BK118
               clear HB
               have BK118 := n0_
               have HB := n1_
               clear n0_ n1_
               (try clear hb)
               (try clear hb2)
               (try clear hk)
               (try clear hi)
               have q16 : (x7_1 : Int) ≤ ((l0.length : Int) : Int) := oda_
               obtain ⟨i016, hi016, _, hsz16, _⟩ := info_parts info25
               have hroom16 : l0.length ≤ c0 := HC0.out
               have hC16 : Kd.C k25 _ (some ad117) l0.length l0 := HR0.out
               have hcut16 := cut_to (P := Try.prog) 22 25 .i64 Try.underlying22 hi016 (some ad117) l0.length c0 x7_1 (oda_) q16 hroom16
               have hr16 := Kd.C_take (m := (x7_1 : Int).toNat) hC16 (by omega)
               have hy16 : y120.length = (x7_1 : Int).toNat := (by rw [Ny120.out, List.length_take]; omega)
               rw [← Ny120.out] at hr16
               rw [← hy16] at hcut16
               have HR123 := Aside0.mk hr16
               have HC123 := Aside0.mk (show y120.length ≤ c0 from by omega)
               clear hr16 hC16 hroom16 hi016 hsz16
               have KY16 := Aside0.mk hy16
               clear hy16
               replace q16 := eq_true q16
               refine hK.out _ _ ⟨(blk_cell BK118.out 0).trans rfl, (blk_cell BK118.out 1).trans rfl⟩ (fun hHeld => ?_)
               clear hK K
               refine norm_ (a' := ?_) ?_ ?_
               rotate_left
               · show Act.put _ (some 13) _ = _
                 simp only [Act.put, List.setIfInBounds_toArray, List.set_cons_zero, List.set_cons_succ, i64_w, i32_w]
                 rfl
               refine pure_ (i := 2) (N := some 14) (v := ?_) (a' := ?_) #[true, true, true, false, false, false, false, false, false, false, false] rfl rfl (any_of HT_.out (by kernel_rfl)) (fun _ _ _ h => h) (Or.inl ⟨by rfl, ?_⟩) ?_ ?_
               rotate_left
               · intro w'
                 go_simp
                 with_reducible rfl
               rotate_left
               · simp only [Act.put, List.setIfInBounds_toArray, List.set_cons_zero, List.set_cons_succ, i64_w, i32_w]
                 rfl
               refine pure_ (i := 3) (N := some 15) (v := ?_) (a' := ?_) #[true, true, true, true, false, false, false, false, false, false, false] rfl rfl (any_of HT_.out (by kernel_rfl)) (fun _ _ _ h => h) (Or.inl ⟨by rfl, ?_⟩) ?_ ?_
               rotate_left
               · intro w'
                 go_simp
                 with_reducible rfl
               rotate_left
               · simp only [Act.put, List.setIfInBounds_toArray, List.set_cons_zero, List.set_cons_succ, i64_w, i32_w]
                 rfl
               refine pure_ (i := 4) (N := some 16) (v := ?_) (a' := ?_) #[true, true, true, true, true, false, false, false, false, false, false] rfl rfl (any_of HT_.out (by kernel_rfl)) (fun _ _ _ h => h) (Or.inl ⟨by rfl, ?_⟩) ?_ ?_
               rotate_left
               · intro w'
                 go_simp
                 with_reducible rfl
               rotate_left
               · simp only [Act.put, List.setIfInBounds_toArray, List.set_cons_zero, List.set_cons_succ, i64_w, i32_w]
                 rfl
               refine pure_ (i := 5) (N := some 17) (v := ?_) (a' := ?_) #[true, true, true, true, true, true, false, false, false, false, false] rfl rfl (any_of HT_.out (by kernel_rfl)) (fun _ _ _ h => h) (Or.inl ⟨by rfl, ?_⟩) ?_ ?_
               rotate_left
               · intro w'
                 go_simp
                 with_reducible rfl
               rotate_left
               · simp only [Act.put, List.setIfInBounds_toArray, List.set_cons_zero, List.set_cons_succ, i64_w, i32_w]
                 rfl
               refine pure_ (i := 6) (N := some 18) (v := ?_) (a' := ?_) #[true, true, true, true, true, true, true, false, false, false, false] rfl rfl (any_of HT_.out (by kernel_rfl)) (fun _ _ _ h => h) (Or.inl ⟨by rfl, ?_⟩) ?_ ?_
               rotate_left
               · intro w'
                 go_simp
                 with_reducible rfl
               rotate_left
               · simp only [Act.put, List.setIfInBounds_toArray, List.set_cons_zero, List.set_cons_succ, i64_w, i32_w]
                 rfl
               refine take_ (i := 7) (N := some 19) (v := ?_) (a' := ?_) #[true, true, true, true, true, true, true, true, false, false, false] rfl rfl (take_ofW HT_.out HW_.out (by kernel_rfl)) (fun _ _ _ h => h) (Or.inl ⟨by rfl, ?_⟩) hHeld ?_ ?_
               rotate_left
               · rintro w' ⟨s0, s1⟩
                 go_simp
                 with_reducible rfl
               rotate_left
               · simp only [Act.put, List.setIfInBounds_toArray, List.set_cons_zero, List.set_cons_succ, i64_w, i32_w]
                 rfl
               refine pure_ (i := 8) (N := some 20) (v := ?_) (a' := ?_) #[true, true, true, true, true, true, true, true, true, false, false] rfl rfl (any_of HT_.out (by kernel_rfl)) (fun _ _ _ h => h) (Or.inl ⟨by rfl, ?_⟩) ?_ ?_
               rotate_left
               · intro w'
                 go_simp
                 with_reducible rfl
               rotate_left
               · simp only [Act.put, List.setIfInBounds_toArray, List.set_cons_zero, List.set_cons_succ, i64_w, i32_w]
                 rfl
               refine one_ (i := 9) (N := some 21) #[true, true, true, true, true, true, true, true, true, true, false] rfl rfl (one_of HT_.out (by kernel_rfl)) (by decide) (fun K hK => ?_)
               refine goes_ Try.func38 (by kernel_rfl) rfl #[.slice (some ad117) y120.length c0, .func (.func 39) #[.agg #[.int .i64 ((rd_T25 l0 x7_1).f0), .slice A117_1 ((rd_T25 l0 x7_1).f1).length c117_1]] #[]] (by rfl) rfl rfl (by (try simp only [List.map_toArray, List.map_cons, List.map_nil]); first | done | rfl | (simp only [List.length_drop, List.length_take]; rfl)) ?_
               with_reducible refine (any_at_after_Job_against.calls _ _ y120 ((rd_T25 l0 x7_1).f0) _ _ ((rd_T25 l0 x7_1).f1) true _ ?side1 ?side2 ?side3 ?side4 A9.out).mono ?_
               (case side1 => repeat (first | exact (Kd.C_below HR123.out HB.out) | with_reducible first | refine Kd.C_alloc ?_ _ | refine Kd.C_drewN ?_ _ | refine Kd.C_drew ?_))
               (case side2 => exact HC123.out)
               (case side3 => repeat (first | exact (Kd.C_below HR117_1.out HB.out) | with_reducible first | refine Kd.C_alloc ?_ _ | refine Kd.C_drewN ?_ _ | refine Kd.C_drew ?_))
               (case side4 => exact HC117_1.out)
               rintro e w17 ⟨rfl, hb⟩
               refine ⟨_, rfl, ?_⟩
               have n0_ := bb_ BK118 hb
               have n1_ := Aside0.mk (below_step bsw_ hb)
               clear BK118
               clear HB
               have BK118 := n0_
               have HB := n1_
               clear n0_ n1_
               (try clear hb)
               (try clear hb2)
               (try clear hk)
               (try clear hi)
               refine hK.out _ _ ⟨(blk_cell BK118.out 0).trans rfl, (blk_cell BK118.out 1).trans rfl⟩ (fun hHeld => ?_)
               clear hK K
               refine norm_ (a' := ?_) ?_ ?_
               rotate_left
               · show Act.put _ (some 21) _ = _
                 simp only [Act.put, List.setIfInBounds_toArray, List.set_cons_zero, List.set_cons_succ, i64_w, i32_w]
                 rfl
               refine pure_ (i := 10) (N := some 22) (v := ?_) (a' := ?_) #[true, true, true, true, true, true, true, true, true, true, true] rfl rfl (any_of HT_.out (by kernel_rfl)) (fun _ _ _ h => h) (Or.inl ⟨by rfl, ?_⟩) ?_ ?_
               rotate_left
               · intro w'
                 go_simp
                 with_reducible rfl
               rotate_left
               · simp only [Act.put, List.setIfInBounds_toArray, List.set_cons_zero, List.set_cons_succ, i64_w, i32_w]
                 rfl
               refine done_ (done_of HT_.out (by kernel_rfl)) ?_
               try go_wp2
               go_ret
               exact ⟨by first | rfl | (simp [errW_none, errW_some] <;> rfl) | (simp [*, errW_none, errW_some] <;> rfl), bsw_⟩
             · replace c10 := Bool.eq_false_iff.mpr c10
               subst c10
               rw [if_neg (show ¬ (false = true) by decide)] at H
               have H' := Aside0.mk H
               clear H
               have p117 : 0 ≤ (x7_1 : Int) := oda_
               have q117 : x7_1 < (l0.length : Int) := oda_
               obtain ⟨ad117, A117_1, c117_1, e117, hx117_0, hx117_1, hl117_1, hi117_1⟩ := at_T25 HR0.out x7_1 p117 q117
               cases e117
               replace hx117_0 := (HB.out.cell (World.block_lt_of_cell? w _ hx117_0)).trans hx117_0
               replace hx117_1 := (HB.out.cell (World.block_lt_of_cell? w _ hx117_1)).trans hx117_1
               have HR117_1 := Aside0.mk hi117_1
               have HC117_1 := Aside0.mk hl117_1
               clear hi117_1 hl117_1
               replace p117 := eq_true p117
               replace q117 := eq_true q117
               try go_wp2_with (first | ((with_reducible refine gate_dst (N := 4) rfl ?_); refine box_event ?hg (N := 4) ?hd (cs := #[.int .i64 0, .slice none 0 0]) (t := 25) ?hr ?_; (case hd => rfl); (case hg => rfl); (case hr => first | (go_simp; done) | (go_simp; rfl)); intro gb118 hg w18 hbox hb; replace BK118 := Aside0.mk (hbox); replace GW118 := Aside0.mk ((by rw [hg]; exact bsz_ : w.heap.size ≤ gb118)); replace HB := Aside0.mk (bst_ hb); replace GE118 := GW118; clear hb hbox hg; have hcz19_0 : w18.cell? ⟨gb118, 0, none⟩ = some (.int .i64 0) := (blk_cell BK118.out 0).trans rfl; have hcz19_1 : w18.cell? ⟨gb118, 1, none⟩ = some (.slice none 0 0) := (blk_cell BK118.out 1).trans rfl; have hfz19_0 := blk_frozen BK118.out 0; have hfz19_1 := blk_frozen BK118.out 1))
               have n0_ : Aside0 (((w18.setCell ⟨gb118, 0, none⟩ (.int .i64 ((rd_T25 l0 x7_1).f0))).setCell ⟨gb118, 1, none⟩ (.slice A117_1 ((rd_T25 l0 x7_1).f1).length c117_1)).heap[gb118]? = some (.cells #[.int .i64 ((rd_T25 l0 x7_1).f0), .slice A117_1 ((rd_T25 l0 x7_1).f1).length c117_1] 25 (0, 0))) := ⟨by (with_reducible repeat (first | refine blk_drewN ?_ _ | refine blk_drew ?_ | refine blk_alloc ?_ _)); refine blk_put (cs := #[.int .i64 ((rd_T25 l0 x7_1).f0), .slice none 0 0]) ?_ 1 _ rfl; (with_reducible repeat (first | refine blk_drewN ?_ _ | refine blk_drew ?_ | refine blk_alloc ?_ _)); refine blk_put (cs := #[.int .i64 0, .slice none 0 0]) ?_ 0 _ rfl; (with_reducible repeat (first | refine blk_drewN ?_ _ | refine blk_drew ?_ | refine blk_alloc ?_ _)); exact BK118.out⟩
               have n1_ : Aside0 (Below w.heap.size w ((w18.setCell ⟨gb118, 0, none⟩ (.int .i64 ((rd_T25 l0 x7_1).f0))).setCell ⟨gb118, 1, none⟩ (.slice A117_1 ((rd_T25 l0 x7_1).f1).length c117_1))) := ⟨bsw_⟩
               (try clear BK118)
               (try clear HB)
               generalize ((w18.setCell ⟨gb118, 0, none⟩ (.int .i64 ((rd_T25 l0 x7_1).f0))).setCell ⟨gb118, 1, none⟩ (.slice A117_1 ((rd_T25 l0 x7_1).f1).length c117_1)) = w20 at n0_ n1_ ⊢
               have BK118 := n0_
               have HB := n1_
               clear n0_ n1_
               have n0_ := Aside0.mk (blk_drew BK118.out)
               have n1_ := Aside0.mk (below_drew1 HB.out)
               clear BK118
               clear HB
               have BK118 := n0_
               have HB := n1_
               clear n0_ n1_
               refine start_ (n := 11) (S := fun w' => w'.cell? ⟨gb118, 0, none⟩ = some (.int .i64 ((rd_T25 l0 x7_1).f0)) ∧ w'.cell? ⟨gb118, 1, none⟩ = some (.slice A117_1 ((rd_T25 l0 x7_1).f1).length c117_1)) (ds := []) #[false, false, false, false, false, false, false, false, false, false, false] (by kernel_rfl) rfl rfl ⟨(blk_cell BK118.out 0).trans rfl, (blk_cell BK118.out 1).trans rfl⟩ (fun hHeld => ?_); refine with_tabW after_Right.tab4 after_Right.bits4 (fun HT_ HW_ => ?_)
               generalize w20.drew = w21 at BK118 HB hHeld ⊢
               refine take_ (i := 0) (N := some 12) (v := ?_) (a' := ?_) #[true, false, false, false, false, false, false, false, false, false, false] rfl rfl (take_ofW HT_.out HW_.out (by kernel_rfl)) (fun _ _ _ h => h) (Or.inl ⟨by rfl, ?_⟩) hHeld ?_ ?_
               rotate_left
               · rintro w' ⟨s0, s1⟩
                 go_simp
                 with_reducible rfl
               rotate_left
               · simp only [Act.put, List.setIfInBounds_toArray, List.set_cons_zero, List.set_cons_succ, i64_w, i32_w]
                 rfl
               refine one_ (i := 1) (N := some 13) #[true, true, false, false, false, false, false, false, false, false, false] rfl rfl (one_of HT_.out (by kernel_rfl)) (by decide) (fun K hK => ?_)
               refine goes_ Try.func37 (by kernel_rfl) rfl #[.agg #[.int .i64 ((rd_T25 l0 x7_1).f0), .slice A117_1 ((rd_T25 l0 x7_1).f1).length c117_1]] (by rfl) rfl rfl (by (try simp only [List.map_toArray, List.map_cons, List.map_nil]); first | done | rfl | (simp only [List.length_drop, List.length_take]; rfl)) ?_
               with_reducible refine (after_Job_may.calls ((rd_T25 l0 x7_1).f0) _ _ ((rd_T25 l0 x7_1).f1) true _ ?side1 ?side2 A5.out).mono ?_
               (case side1 => repeat (first | exact (Kd.C_below HR117_1.out HB.out) | with_reducible first | refine Kd.C_alloc ?_ _ | refine Kd.C_drewN ?_ _ | refine Kd.C_drew ?_))
               (case side2 => exact HC117_1.out)
               rintro e w22 ⟨rfl, hb⟩
               refine ⟨_, rfl, ?_⟩
               have n0_ := bb_ BK118 hb
               have n1_ := Aside0.mk (below_step bsw_ hb)
               clear BK118
               clear HB
               have BK118 := n0_
               have HB := n1_
               clear n0_ n1_
               (try clear hb)
               (try clear hb2)
               (try clear hk)
               (try clear hi)
               have q23 : (x7_1 : Int) ≤ ((l0.length : Int) : Int) := oda_
               obtain ⟨i023, hi023, _, hsz23, _⟩ := info_parts info25
               have hroom23 : l0.length ≤ c0 := HC0.out
               have hC23 : Kd.C k25 _ (some ad117) l0.length l0 := HR0.out
               have hcut23 := cut_to (P := Try.prog) 22 25 .i64 Try.underlying22 hi023 (some ad117) l0.length c0 x7_1 (oda_) q23 hroom23
               have hr23 := Kd.C_take (m := (x7_1 : Int).toNat) hC23 (by omega)
               have hy23 : y120.length = (x7_1 : Int).toNat := (by rw [Ny120.out, List.length_take]; omega)
               rw [← Ny120.out] at hr23
               rw [← hy23] at hcut23
               have HR123 := Aside0.mk hr23
               have HC123 := Aside0.mk (show y120.length ≤ c0 from by omega)
               clear hr23 hC23 hroom23 hi023 hsz23
               have KY23 := Aside0.mk hy23
               clear hy23
               replace q23 := eq_true q23
               refine hK.out _ _ ⟨(blk_cell BK118.out 0).trans rfl, (blk_cell BK118.out 1).trans rfl⟩ (fun hHeld => ?_)
               clear hK K
               refine norm_ (a' := ?_) ?_ ?_
               rotate_left
               · show Act.put _ (some 13) _ = _
                 simp only [Act.put, List.setIfInBounds_toArray, List.set_cons_zero, List.set_cons_succ, i64_w, i32_w]
                 rfl
               refine pure_ (i := 2) (N := some 14) (v := ?_) (a' := ?_) #[true, true, true, false, false, false, false, false, false, false, false] rfl rfl (any_of HT_.out (by kernel_rfl)) (fun _ _ _ h => h) (Or.inl ⟨by rfl, ?_⟩) ?_ ?_
               rotate_left
               · intro w'
                 go_simp
                 with_reducible rfl
               rotate_left
               · simp only [Act.put, List.setIfInBounds_toArray, List.set_cons_zero, List.set_cons_succ, i64_w, i32_w]
                 rfl
               refine pure_ (i := 3) (N := some 15) (v := ?_) (a' := ?_) #[true, true, true, true, false, false, false, false, false, false, false] rfl rfl (any_of HT_.out (by kernel_rfl)) (fun _ _ _ h => h) (Or.inl ⟨by rfl, ?_⟩) ?_ ?_
               rotate_left
               · intro w'
                 go_simp
                 with_reducible rfl
               rotate_left
               · simp only [Act.put, List.setIfInBounds_toArray, List.set_cons_zero, List.set_cons_succ, i64_w, i32_w]
                 rfl
               refine pure_ (i := 4) (N := some 16) (v := ?_) (a' := ?_) #[true, true, true, true, true, false, false, false, false, false, false] rfl rfl (any_of HT_.out (by kernel_rfl)) (fun _ _ _ h => h) (Or.inl ⟨by rfl, ?_⟩) ?_ ?_
               rotate_left
               · intro w'
                 go_simp
                 with_reducible rfl
               rotate_left
               · simp only [Act.put, List.setIfInBounds_toArray, List.set_cons_zero, List.set_cons_succ, i64_w, i32_w]
                 rfl
               refine pure_ (i := 5) (N := some 17) (v := ?_) (a' := ?_) #[true, true, true, true, true, true, false, false, false, false, false] rfl rfl (any_of HT_.out (by kernel_rfl)) (fun _ _ _ h => h) (Or.inl ⟨by rfl, ?_⟩) ?_ ?_
               rotate_left
               · intro w'
                 go_simp
                 with_reducible rfl
               rotate_left
               · simp only [Act.put, List.setIfInBounds_toArray, List.set_cons_zero, List.set_cons_succ, i64_w, i32_w]
                 rfl
               refine pure_ (i := 6) (N := some 18) (v := ?_) (a' := ?_) #[true, true, true, true, true, true, true, false, false, false, false] rfl rfl (any_of HT_.out (by kernel_rfl)) (fun _ _ _ h => h) (Or.inl ⟨by rfl, ?_⟩) ?_ ?_
               rotate_left
               · intro w'
                 go_simp
                 with_reducible rfl
               rotate_left
               · simp only [Act.put, List.setIfInBounds_toArray, List.set_cons_zero, List.set_cons_succ, i64_w, i32_w]
                 rfl
               refine take_ (i := 7) (N := some 19) (v := ?_) (a' := ?_) #[true, true, true, true, true, true, true, true, false, false, false] rfl rfl (take_ofW HT_.out HW_.out (by kernel_rfl)) (fun _ _ _ h => h) (Or.inl ⟨by rfl, ?_⟩) hHeld ?_ ?_
               rotate_left
               · rintro w' ⟨s0, s1⟩
                 go_simp
                 with_reducible rfl
               rotate_left
               · simp only [Act.put, List.setIfInBounds_toArray, List.set_cons_zero, List.set_cons_succ, i64_w, i32_w]
                 rfl
               refine pure_ (i := 8) (N := some 20) (v := ?_) (a' := ?_) #[true, true, true, true, true, true, true, true, true, false, false] rfl rfl (any_of HT_.out (by kernel_rfl)) (fun _ _ _ h => h) (Or.inl ⟨by rfl, ?_⟩) ?_ ?_
               rotate_left
               · intro w'
                 go_simp
                 with_reducible rfl
               rotate_left
               · simp only [Act.put, List.setIfInBounds_toArray, List.set_cons_zero, List.set_cons_succ, i64_w, i32_w]
                 rfl
               refine one_ (i := 9) (N := some 21) #[true, true, true, true, true, true, true, true, true, true, false] rfl rfl (one_of HT_.out (by kernel_rfl)) (by decide) (fun K hK => ?_)
               refine goes_ Try.func38 (by kernel_rfl) rfl #[.slice (some ad117) y120.length c0, .func (.func 39) #[.agg #[.int .i64 ((rd_T25 l0 x7_1).f0), .slice A117_1 ((rd_T25 l0 x7_1).f1).length c117_1]] #[]] (by rfl) rfl rfl (by (try simp only [List.map_toArray, List.map_cons, List.map_nil]); first | done | rfl | (simp only [List.length_drop, List.length_take]; rfl)) ?_
               with_reducible refine (any_at_after_Job_against.calls _ _ y120 ((rd_T25 l0 x7_1).f0) _ _ ((rd_T25 l0 x7_1).f1) false _ ?side1 ?side2 ?side3 ?side4 A9.out).mono ?_
               (case side1 => repeat (first | exact (Kd.C_below HR123.out HB.out) | with_reducible first | refine Kd.C_alloc ?_ _ | refine Kd.C_drewN ?_ _ | refine Kd.C_drew ?_))
               (case side2 => exact HC123.out)
               (case side3 => repeat (first | exact (Kd.C_below HR117_1.out HB.out) | with_reducible first | refine Kd.C_alloc ?_ _ | refine Kd.C_drewN ?_ _ | refine Kd.C_drew ?_))
               (case side4 => exact HC117_1.out)
               rintro e w24 ⟨rfl, hb⟩
               refine ⟨_, rfl, ?_⟩
               have n0_ := bb_ BK118 hb
               have n1_ := Aside0.mk (below_step bsw_ hb)
               clear BK118
               clear HB
               have BK118 := n0_
               have HB := n1_
               clear n0_ n1_
               (try clear hb)
               (try clear hb2)
               (try clear hk)
               (try clear hi)
               refine hK.out _ _ ⟨(blk_cell BK118.out 0).trans rfl, (blk_cell BK118.out 1).trans rfl⟩ (fun hHeld => ?_)
               clear hK K
               refine norm_ (a' := ?_) ?_ ?_
               rotate_left
               · show Act.put _ (some 21) _ = _
                 simp only [Act.put, List.setIfInBounds_toArray, List.set_cons_zero, List.set_cons_succ, i64_w, i32_w]
                 rfl
               refine pure_ (i := 10) (N := some 22) (v := ?_) (a' := ?_) #[true, true, true, true, true, true, true, true, true, true, true] rfl rfl (any_of HT_.out (by kernel_rfl)) (fun _ _ _ h => h) (Or.inl ⟨by rfl, ?_⟩) ?_ ?_
               rotate_left
               · intro w'
                 go_simp
                 with_reducible rfl
               rotate_left
               · simp only [Act.put, List.setIfInBounds_toArray, List.set_cons_zero, List.set_cons_succ, i64_w, i32_w]
                 rfl
               refine done_ (done_of HT_.out (by kernel_rfl)) ?_
               try go_wp2
               go_roundg k1
               case measure => have := HK1.out; omega
               case rel => exact ⟨(wrap64 (x7_1 + 1)), (by first | rfl | (simp; done) | (simp [*]; done)), H', ⟨by have := HK1.out; omega⟩, ⟨bsw_⟩⟩
           · rw [if_neg c8] at H
             exact absurd H (by simp)
         · replace c6 := Bool.eq_false_iff.mpr c6
           subst c6
           rw [if_neg (show ¬ (false = true) by decide)] at H
           obtain rfl := Option.some.inj H
           have p117 : 0 ≤ (x7_1 : Int) := oda_
           have q117 : x7_1 < (l0.length : Int) := oda_
           obtain ⟨ad117, A117_1, c117_1, e117, hx117_0, hx117_1, hl117_1, hi117_1⟩ := at_T25 HR0.out x7_1 p117 q117
           cases e117
           replace hx117_0 := (HB.out.cell (World.block_lt_of_cell? w _ hx117_0)).trans hx117_0
           replace hx117_1 := (HB.out.cell (World.block_lt_of_cell? w _ hx117_1)).trans hx117_1
           have HR117_1 := Aside0.mk hi117_1
           have HC117_1 := Aside0.mk hl117_1
           clear hi117_1 hl117_1
           replace p117 := eq_true p117
           replace q117 := eq_true q117
           try go_wp2_with (first | ((with_reducible refine gate_dst (N := 4) rfl ?_); refine box_event ?hg (N := 4) ?hd (cs := #[.int .i64 0, .slice none 0 0]) (t := 25) ?hr ?_; (case hd => rfl); (case hg => rfl); (case hr => first | (go_simp; done) | (go_simp; rfl)); intro gb118 hg w25 hbox hb; replace BK118 := Aside0.mk (hbox); replace GW118 := Aside0.mk ((by rw [hg]; exact bsz_ : w.heap.size ≤ gb118)); replace HB := Aside0.mk (bst_ hb); replace GE118 := GW118; clear hb hbox hg; have hcz26_0 : w25.cell? ⟨gb118, 0, none⟩ = some (.int .i64 0) := (blk_cell BK118.out 0).trans rfl; have hcz26_1 : w25.cell? ⟨gb118, 1, none⟩ = some (.slice none 0 0) := (blk_cell BK118.out 1).trans rfl; have hfz26_0 := blk_frozen BK118.out 0; have hfz26_1 := blk_frozen BK118.out 1))
           have n0_ : Aside0 (((w25.setCell ⟨gb118, 0, none⟩ (.int .i64 ((rd_T25 l0 x7_1).f0))).setCell ⟨gb118, 1, none⟩ (.slice A117_1 ((rd_T25 l0 x7_1).f1).length c117_1)).heap[gb118]? = some (.cells #[.int .i64 ((rd_T25 l0 x7_1).f0), .slice A117_1 ((rd_T25 l0 x7_1).f1).length c117_1] 25 (0, 0))) := ⟨by (with_reducible repeat (first | refine blk_drewN ?_ _ | refine blk_drew ?_ | refine blk_alloc ?_ _)); refine blk_put (cs := #[.int .i64 ((rd_T25 l0 x7_1).f0), .slice none 0 0]) ?_ 1 _ rfl; (with_reducible repeat (first | refine blk_drewN ?_ _ | refine blk_drew ?_ | refine blk_alloc ?_ _)); refine blk_put (cs := #[.int .i64 0, .slice none 0 0]) ?_ 0 _ rfl; (with_reducible repeat (first | refine blk_drewN ?_ _ | refine blk_drew ?_ | refine blk_alloc ?_ _)); exact BK118.out⟩
           have n1_ : Aside0 (Below w.heap.size w ((w25.setCell ⟨gb118, 0, none⟩ (.int .i64 ((rd_T25 l0 x7_1).f0))).setCell ⟨gb118, 1, none⟩ (.slice A117_1 ((rd_T25 l0 x7_1).f1).length c117_1))) := ⟨bsw_⟩
           (try clear BK118)
           (try clear HB)
           generalize ((w25.setCell ⟨gb118, 0, none⟩ (.int .i64 ((rd_T25 l0 x7_1).f0))).setCell ⟨gb118, 1, none⟩ (.slice A117_1 ((rd_T25 l0 x7_1).f1).length c117_1)) = w27 at n0_ n1_ ⊢
           have BK118 := n0_
           have HB := n1_
           clear n0_ n1_
           have n0_ := Aside0.mk (blk_drew BK118.out)
           have n1_ := Aside0.mk (below_drew1 HB.out)
           clear BK118
           clear HB
           have BK118 := n0_
           have HB := n1_
           clear n0_ n1_
           refine start_ (n := 11) (S := fun w' => w'.cell? ⟨gb118, 0, none⟩ = some (.int .i64 ((rd_T25 l0 x7_1).f0)) ∧ w'.cell? ⟨gb118, 1, none⟩ = some (.slice A117_1 ((rd_T25 l0 x7_1).f1).length c117_1)) (ds := []) #[false, false, false, false, false, false, false, false, false, false, false] (by kernel_rfl) rfl rfl ⟨(blk_cell BK118.out 0).trans rfl, (blk_cell BK118.out 1).trans rfl⟩ (fun hHeld => ?_); refine with_tabW after_Right.tab4 after_Right.bits4 (fun HT_ HW_ => ?_)
           generalize w27.drew = w28 at BK118 HB hHeld ⊢
           refine take_ (i := 0) (N := some 12) (v := ?_) (a' := ?_) #[true, false, false, false, false, false, false, false, false, false, false] rfl rfl (take_ofW HT_.out HW_.out (by kernel_rfl)) (fun _ _ _ h => h) (Or.inl ⟨by rfl, ?_⟩) hHeld ?_ ?_
           rotate_left
           · rintro w' ⟨s0, s1⟩
             go_simp
             with_reducible rfl
           rotate_left
           · simp only [Act.put, List.setIfInBounds_toArray, List.set_cons_zero, List.set_cons_succ, i64_w, i32_w]
             rfl
           refine one_ (i := 1) (N := some 13) #[true, true, false, false, false, false, false, false, false, false, false] rfl rfl (one_of HT_.out (by kernel_rfl)) (by decide) (fun K hK => ?_)
           refine goes_ Try.func37 (by kernel_rfl) rfl #[.agg #[.int .i64 ((rd_T25 l0 x7_1).f0), .slice A117_1 ((rd_T25 l0 x7_1).f1).length c117_1]] (by rfl) rfl rfl (by (try simp only [List.map_toArray, List.map_cons, List.map_nil]); first | done | rfl | (simp only [List.length_drop, List.length_take]; rfl)) ?_
           with_reducible refine (after_Job_may.calls ((rd_T25 l0 x7_1).f0) _ _ ((rd_T25 l0 x7_1).f1) false _ ?side1 ?side2 A5.out).mono ?_
           (case side1 => repeat (first | exact (Kd.C_below HR117_1.out HB.out) | with_reducible first | refine Kd.C_alloc ?_ _ | refine Kd.C_drewN ?_ _ | refine Kd.C_drew ?_))
           (case side2 => exact HC117_1.out)
           rintro e w29 ⟨rfl, hb⟩
           refine ⟨_, rfl, ?_⟩
           have n0_ := bb_ BK118 hb
           have n1_ := Aside0.mk (below_step bsw_ hb)
           clear BK118
           clear HB
           have BK118 := n0_
           have HB := n1_
           clear n0_ n1_
           (try clear hb)
           (try clear hb2)
           (try clear hk)
           (try clear hi)
           refine hK.out _ _ ⟨(blk_cell BK118.out 0).trans rfl, (blk_cell BK118.out 1).trans rfl⟩ (fun hHeld => ?_)
           clear hK K
           refine norm_ (a' := ?_) ?_ ?_
           rotate_left
           · show Act.put _ (some 13) _ = _
             simp only [Act.put, List.setIfInBounds_toArray, List.set_cons_zero, List.set_cons_succ, i64_w, i32_w]
             rfl
           refine pure_ (i := 2) (N := some 14) (v := ?_) (a' := ?_) #[true, true, true, false, false, false, false, false, false, false, false] rfl rfl (any_of HT_.out (by kernel_rfl)) (fun _ _ _ h => h) (Or.inl ⟨by rfl, ?_⟩) ?_ ?_
           rotate_left
           · intro w'
             go_simp
             with_reducible rfl
           rotate_left
           · simp only [Act.put, List.setIfInBounds_toArray, List.set_cons_zero, List.set_cons_succ, i64_w, i32_w]
             rfl
           refine pure_ (i := 3) (N := some 15) (v := ?_) (a' := ?_) #[true, true, true, true, false, false, false, false, false, false, false] rfl rfl (any_of HT_.out (by kernel_rfl)) (fun _ _ _ h => h) (Or.inl ⟨by rfl, ?_⟩) ?_ ?_
           rotate_left
           · intro w'
             go_simp
             with_reducible rfl
           rotate_left
           · simp only [Act.put, List.setIfInBounds_toArray, List.set_cons_zero, List.set_cons_succ, i64_w, i32_w]
             rfl
           refine pure_ (i := 4) (N := some 16) (v := undef) (a' := ?_) #[true, true, true, true, true, false, false, false, false, false, false] rfl rfl (any_of HT_.out (by kernel_rfl)) (fun _ _ _ h => h) (Or.inr ⟨by rfl, rfl⟩) ?_ ?_
           rotate_left
           · simp only [Act.put, List.setIfInBounds_toArray, List.set_cons_zero, List.set_cons_succ, i64_w, i32_w]
             rfl
           refine pure_ (i := 5) (N := some 17) (v := undef) (a' := ?_) #[true, true, true, true, true, true, false, false, false, false, false] rfl rfl (any_of HT_.out (by kernel_rfl)) (fun _ _ _ h => h) (Or.inr ⟨by rfl, rfl⟩) ?_ ?_
           rotate_left
           · simp only [Act.put, List.setIfInBounds_toArray, List.set_cons_zero, List.set_cons_succ, i64_w, i32_w]
             rfl
           refine pure_ (i := 6) (N := some 18) (v := undef) (a' := ?_) #[true, true, true, true, true, true, true, false, false, false, false] rfl rfl (any_of HT_.out (by kernel_rfl)) (fun _ _ _ h => h) (Or.inr ⟨by rfl, rfl⟩) ?_ ?_
           rotate_left
           · simp only [Act.put, List.setIfInBounds_toArray, List.set_cons_zero, List.set_cons_succ, i64_w, i32_w]
             rfl
           refine pure_ (i := 7) (N := some 19) (v := undef) (a' := ?_) #[true, true, true, true, true, true, true, true, false, false, false] rfl rfl (any_of HT_.out (by kernel_rfl)) (fun _ _ _ h => h) (Or.inr ⟨by rfl, rfl⟩) ?_ ?_
           rotate_left
           · simp only [Act.put, List.setIfInBounds_toArray, List.set_cons_zero, List.set_cons_succ, i64_w, i32_w]
             rfl
           refine pure_ (i := 8) (N := some 20) (v := undef) (a' := ?_) #[true, true, true, true, true, true, true, true, true, false, false] rfl rfl (any_of HT_.out (by kernel_rfl)) (fun _ _ _ h => h) (Or.inr ⟨by rfl, rfl⟩) ?_ ?_
           rotate_left
           · simp only [Act.put, List.setIfInBounds_toArray, List.set_cons_zero, List.set_cons_succ, i64_w, i32_w]
             rfl
           refine pure_ (i := 9) (N := some 21) (v := undef) (a' := ?_) #[true, true, true, true, true, true, true, true, true, true, false] rfl rfl (any_of HT_.out (by kernel_rfl)) (fun _ _ _ h => h) (Or.inr ⟨by rfl, rfl⟩) ?_ ?_
           rotate_left
           · simp only [Act.put, List.setIfInBounds_toArray, List.set_cons_zero, List.set_cons_succ, i64_w, i32_w]
             rfl
           refine pure_ (i := 10) (N := some 22) (v := ?_) (a' := ?_) #[true, true, true, true, true, true, true, true, true, true, true] rfl rfl (any_of HT_.out (by kernel_rfl)) (fun _ _ _ h => h) (Or.inl ⟨by rfl, ?_⟩) ?_ ?_
           rotate_left
           · intro w'
             go_simp
             with_reducible rfl
           rotate_left
           · simp only [Act.put, List.setIfInBounds_toArray, List.set_cons_zero, List.set_cons_succ, i64_w, i32_w]
             rfl
           refine done_ (done_of HT_.out (by kernel_rfl)) ?_
           try go_wp2
           go_ret
           exact ⟨by first | rfl | (simp [errW_none, errW_some] <;> rfl) | (simp [*, errW_none, errW_some] <;> rfl), bsw_⟩
       · rw [if_neg c4] at H
         exact absurd H (by simp)
     · rw [if_neg c3] at H
       exact absurd H (by simp)
   · rw [if_neg c2] at H
     have c2b0 : decide (x7_1 < (l0.length : Int)) = false := decide_eq_false c2
     clear c2
     obtain rfl := Option.some.inj H
     go_wp2
     go_ret
     exact ⟨by first | rfl | (simp [errW_none, errW_some] <;> rfl) | (simp [*, errW_none, errW_some] <;> rfl), bsv_⟩

/-! ### slices_Clone_40: function 40 -/
def slices_Clone_40.f (l0 : List (S25)) : Option ((List (S25))) := (some (([] : List (S25)) : List (S25))).bind fun y125 => (if y125.length + l0.length < 4398046511104 then (some (y125 ++ l0)) else (none))
set_option maxHeartbeats 8000000 in
set_option maxRecDepth 100000 in
theorem slices_Clone_40.callsN (P0_ : Nat → Prop) (A0 : Option Addr) (c0 : Nat) (l0 : List (S25)) (r : List (S25)) (w : World) (hs0 : Kd.V k25 25 w w.heap.size (fun k_ => P0_ k_) (.slice A0 l0.length c0) l0) (h : slices_Clone_40.f l0 = some r) (hnn : A0.isNone = false) :
 Calls Try.prog 40 #[.slice A0 l0.length c0] w fun e w' => ∃ v0_ : Value, e = .returned (v0_) ∧ Kd.N k25 25 w' w.heap.size (fun k_ => (P0_ k_ ∨ w.heap.size ≤ k_)) v0_ r ∧ Below w.heap.size w w' := by
 have heql : ∀ W : World, (binOp .eql 22 (.slice A0 l0.length c0) (.slice none 0 0)).run Try.prog W = .ok (.bool false) W := fun W => by rw [Lib.run_eql_slice_nil W 22 25 A0 l0.length c0 0 0 Try.underlying22]; rw [hnn]
 clear hnn
 have HO0 := Aside0.mk (show Kd.V k25 25 w w.heap.size (fun k_ => (P0_ k_ ∨ w.heap.size ≤ k_)) (.slice A0 l0.length c0) l0 from Kd.V_mono hs0 (fun k_ hk => .inl hk))
 have HB := Aside0.mk (Below.refl w.heap.size w)
 have H : ((some (([] : List (S25)) : List (S25))).bind fun y125 => (if y125.length + l0.length < 4398046511104 then (some (y125 ++ l0)) else (none))) = some r := h
 clear h
 obtain ⟨y125, hy125⟩ : ∃ y_ : List (S25), y_ = (([] : List (S25))) := ⟨_, rfl⟩
 replace H : (if y125.length + l0.length < 4398046511104 then (some (y125 ++ l0)) else (none)) = some r := by first | (rw [hy125]; with_reducible exact H) | (have H2_ := (Option.bind_some _ _).symm.trans H; rw [hy125]; with_reducible exact H2_) | (have H2_ := (Option.bind_some _ _).symm.trans H; with_reducible exact H2_) | with_reducible exact H | (rw [hy125]; exact H) | exact H
 have Ny125 := Aside0.mk hy125
 clear hy125
 by_cases c2 : y125.length + l0.length < 4398046511104
 · rw [if_pos c2] at H
   have LMc2 := Aside0.mk c2
   clear c2
   obtain ⟨y128, hy128⟩ : ∃ y_ : List (S25), y_ = (y125 ++ l0) := ⟨_, rfl⟩
   replace H : (some y128) = some r := by first | (rw [hy128]; with_reducible exact H) | (have H2_ := (Option.bind_some _ _).symm.trans H; rw [hy128]; with_reducible exact H2_) | (have H2_ := (Option.bind_some _ _).symm.trans H; with_reducible exact H2_) | with_reducible exact H | (rw [hy128]; exact H) | exact H
   have Ny128 := Aside0.mk hy128
   clear hy128
   obtain rfl := Option.some.inj H
   go_enter Try.func40, Try.ntmps40
   go_wp2_with (first | ((with_reducible refine gate_dst (N := 5) rfl ?_); refine Kd.N_lit k25 _ 25 ?hg (N' := 5) ?hd (xs := ([] : List (S25))) (inner := []) (ok := (fun k_ => (P0_ k_ ∨ w.heap.size ≤ k_))) (okp := (fun k_ => (P0_ k_ ∨ w.heap.size ≤ k_))) ?hr ?hp (fun _ hk => hk) ((show ∀ k_, w.heap.size ≤ k_ → (fun k_ => (P0_ k_ ∨ w.heap.size ≤ k_)) k_ from fun k_ hk => (.inr (Nat.le_trans bsz_ hk))) _ (Nat.le_refl _)) (Below.refl _ _) (Nat.le_refl _) (by simp) ?_; (case hd => rfl); (case hg => rfl); (case hr => first | (go_simp; done) | (go_simp; rfl)); (case hp => exact (Reps.none _ _)); intro v126 w3 ho4 hb hg_ hnew_; clear hg_ hnew_; (first | rw [← Ny125.out] at ho4 | (simp only [Int.reduceToNat] at ho4; rw [← Ny125.out] at ho4)); replace HO0 := Aside0.mk (Kd.V_elder' (vq_ HO0) (Kd.N_base ho4) hb); replace HO127 := Aside0.mk (Kd.N_lower ho4 bsz_); replace HB := Aside0.mk (bst_ hb); clear hb ho4) | ((with_reducible refine gate_builtin (b := .append) (xs := #[.tmp 5, .tmp 6]) rfl ?_); at_builtin; refine Kd.N_append_rows k25 (w0 := w) w.heap.size rfl (.tmp 5) (.tmp 6) 22 25 (.agg #[(.int .i64 0), (.slice none 0 0)]) 32 rfl Try.underlying22 info25 rfl (by decide) (by omega) v126 y125 l0 _ _ _ (fun k_ => (P0_ k_ ∨ w.heap.size ≤ k_)) (fun k_ => ((fun k_ => (P0_ k_ ∨ w.heap.size ≤ k_))) k_ ∧ some k_ ≠ (v126 : Value).ownBlock) rfl rfl ?aO ?aR (fun _ hk => hk) ?aF ?aB ?aS ?aL ?_; (case aR => exact (by skip; exact Kd.V_F (e := 0) (base := 0) (Kd.V_mono (ok' := (fun k_ => ((fun k_ => (P0_ k_ ∨ w.heap.size ≤ k_))) k_ ∧ some k_ ≠ (v126 : Value).ownBlock)) (HO0.out) (fun k_ hk => ⟨hk.1, hk.2⟩)))); (case aB => exact bsv_); (case aF => exact (fun k_ hk => (.inr (Nat.le_trans bsz_ hk)))); (case aO => exact (nq_ HO127)); (case aS => exact bsz_); (case aL => have := LMc2.out; omega); intro v129 w5 ho hb hg hat; rw [← Ny128.out] at ho; replace HO0 := Aside0.mk (Kd.V_afterv (ok := (fun k_ => (P0_ k_ ∨ w.heap.size ≤ k_))) (vq_ HO0) hg hat); replace HB := Aside0.mk (hb); replace HO130 := Aside0.mk (ho); clear HO127; clear ho hb hg hat))
   go_ret
   exact ⟨_, by first | rfl | (simp [errW_none, errW_some] <;> rfl) | (simp [*, errW_none, errW_some] <;> rfl), nq_ HO130, bsv_⟩
 · rw [if_neg c2] at H
   exact absurd H (by simp)

set_option maxHeartbeats 2000000 in
theorem slices_Clone_40.calls (P0_ : Nat → Prop) (A0 : Option Addr) (c0 : Nat) (l0 : List (S25)) (r : List (S25)) (w : World) (hs0 : Kd.V k25 25 w w.heap.size (fun k_ => P0_ k_) (.slice A0 l0.length c0) l0) (h : slices_Clone_40.f l0 = some r) :
 Calls Try.prog 40 #[.slice A0 l0.length c0] w fun e w' => ∃ v0_ : Value, e = .returned (v0_) ∧ Kd.N k25 25 w' w.heap.size (fun k_ => (P0_ k_ ∨ w.heap.size ≤ k_)) v0_ r ∧ Below w.heap.size w w' := by
 cases hA : A0 with
 | some ad => subst hA; exact slices_Clone_40.callsN P0_ (some ad) c0 l0 r w hs0 h rfl
 | none =>
  subst hA
  obtain rfl : l0 = [] := by
   rcases Nat.eq_zero_or_pos l0.length with h0 | h0
   · exact List.length_eq_zero_iff.1 h0
   · obtain ⟨ad, c, e0, _⟩ := Kd.C_get (Kd.V_reads' hs0).2.2 z25 0 (by omega) (by omega)
     cases e0
  obtain rfl : [] = r := by simpa [slices_Clone_40.f] using h
  have heql : ∀ W : World, (binOp .eql 22 (.slice none 0 c0) (.slice none 0 0)).run Try.prog W = .ok (.bool true) W := fun W => by rw [Lib.run_eql_slice_nil W 22 25 none 0 c0 0 0 Try.underlying22]; rfl
  clear hs0 h
  simp only [List.length_nil]
  go_enter Try.func40, Try.ntmps40
  go_wp2
  go_ret
  exact ⟨_, rfl, by first | exact Kd.R_nil _ _ _ _ _ | exact Kd.N_nil _ _ _ _ _ | exact Kd.V_nil _ _ _ _ _, Below.refl _ _⟩

end Go.Proofs.Ytihcnbhcemkncaa.B
