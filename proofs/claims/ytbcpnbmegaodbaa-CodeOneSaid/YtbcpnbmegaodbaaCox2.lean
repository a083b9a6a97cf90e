-- PRINTED by print.py (a twelfth state) out of the translation. Not trusted: Lean checks it.
import Derived.Test.YtbcpnbmegaodbaaCox0
import Derived.Test.YtbcpnbmegaodbaaCox1
namespace Go.Proofs.Ytbcpnbmegaodbaa.Co
open Go.Proofs.Ytbcpnbmegaodbaa.Ho
open Go.RowKit Go.Proofs.YtbcpnbmegaodbaaW.PrintWords Go.Proofs.YtbcpnbmegaodbaaW.PrintLast Go.Proofs.YtbcpnbmegaodbaaW.PrintMore
attribute [local go_sem] max2_int min2_int max_two min_two max_three min_three max_four min_four   -- for this text's walks alone
set_option linter.unusedVariables false
set_option linter.unusedSimpArgs false

/-! ### term_Cells: function 26 -/
def term_Cells.l0 : Nat → List Int → List (S41) → Int → Int → Option (List Int)
 | 0, _, _, _, _ => none
 | k + 1, x3, x9, x10, x11 => if x11 < x10 then (if 0 ≤ x11 then (if x11 < (x9.length : Int) then (if ((rd_T41 x9 x11).f0) = 2 then (if x3.length < 17592186044416 then (term_Cells.l0 k (x3 ++ [(rd_T41 x9 x11).f1]) x9 x10 (wrap64 (x11 + 1))) else (none)) else (term_Cells.l0 k x3 x9 x10 (wrap64 (x11 + 1)))) else (none)) else (none)) else ((slices_Sort.f x3).bind fun t120 => ((slices_Compact.f t120).bind fun t121 => (some t121)))
def term_Cells.f (k : Nat) (l0 : List (S41)) : Option (List Int) := (term_Check.f k l0).bind fun t114 => (if t114 = 0 then (term_Cells.l0 k ([] : List Int) l0 (l0.length : Int) 0) else (some ([] : List Int)))
theorem term_Cells.mono_l : ∀ k, (∀ y0 y1 y2 y3, LeO (term_Cells.l0 k y0 y1 y2 y3) (term_Cells.l0 (k + 1) y0 y1 y2 y3))
 | 0 => fun _ _ _ _ r h => by simp [term_Cells.l0] at h
 | k + 1 => by
  have ih0 := term_Cells.mono_l k
  · intro y0 y1 y2 y3
    unfold term_Cells.l0
    repeat' first
    | (with_reducible exact ih0 _ _ _ _)
    | (with_reducible exact term_Check.mono _ _)
    | (with_reducible exact LeO.refl _)
    | (with_reducible exact LeO.none _)
    | (with_reducible refine LeO.ite ?_ ?_)
    | (with_reducible refine LeO.bind ?_ (fun _ => ?_))
    | exact ih0 _ _ _ _
    | exact term_Check.mono _ _
    | exact LeO.none _
    | refine LeO.ite ?_ ?_
    | refine LeO.bind ?_ (fun _ => ?_)
theorem term_Cells.mono : ∀ a0 k, LeO (term_Cells.f k a0) (term_Cells.f (k + 1) a0) := by
 intro a0 k
 have ih0 := term_Cells.mono_l k
 unfold term_Cells.f
 repeat' first
  | (with_reducible exact ih0 _ _ _ _)
  | (with_reducible exact term_Check.mono _ _)
  | (with_reducible exact LeO.refl _)
  | (with_reducible exact LeO.none _)
  | (with_reducible refine LeO.ite ?_ ?_)
  | (with_reducible refine LeO.bind ?_ (fun _ => ?_))
  | exact ih0 _ _ _ _
  | exact term_Check.mono _ _
  | exact LeO.none _
  | refine LeO.ite ?_ ?_
  | refine LeO.bind ?_ (fun _ => ?_)
set_option maxHeartbeats 8000000 in
set_option maxRecDepth 100000 in
theorem term_Cells.calls (k : Nat) (A0 : Option Addr) (c0 : Nat) (l0 : List (S41)) (r : List Int) (w : World) (hr0 : Kd.C k41 w A0 l0.length l0) (hc0 : l0.length ≤ c0) (h : term_Cells.f k l0 = some r) :
 Calls Try.prog 26 #[.slice A0 l0.length c0] w fun e w' => ∃ v0_ : Value, e = .returned (v0_) ∧ Kd.R (Kd.int .i64) 3 w' w.heap.size (fun _ => True) v0_ r ∧ Below w.heap.size w w' := by
 have hu41 := Try.underlying41
 have HR0 := Aside0.mk hr0
 have HC0 := Aside0.mk hc0
 clear hr0 hc0
 have HB := Aside0.mk (Below.refl w.heap.size w)
 have H : ((term_Check.f k l0).bind fun t114 => (if t114 = 0 then (term_Cells.l0 k ([] : List Int) l0 (l0.length : Int) 0) else (some ([] : List Int)))) = some r := h
 clear h
 replace H := Option.bind_eq_some_iff.mp H
 obtain ⟨t114, A20, H⟩ := H
 replace H : (if t114 = 0 then (term_Cells.l0 k ([] : List Int) l0 (l0.length : Int) 0) else (some ([] : List Int))) = some r := H
 have A2 := Aside0.mk A20
 clear A20
 by_cases c3 : t114 = 0
 · rw [if_pos c3] at H
   have c3b0 : (t114 == 0) = true := beq_iff_eq.mpr c3
   have c3b1 : (t114 != 0) = false := bne_eq_false_iff_eq.mpr c3
   clear c3
   have H' := Aside0.mk H
   clear H
   go_enter Try.func26, Try.ntmps26
   go_wp2_with (first | ((with_reducible refine gate_callee (f := 25) rfl ?_); refine goesL_ (some 7) rfl rfl Try.func25 (by kernel_rfl) rfl #[.slice A0 l0.length c0] rfl (by (try simp only [List.map_toArray, List.map_cons, List.map_nil]); first | done | rfl) ?_; (with_reducible refine (term_Check.calls k _ _ l0 t114 _ ?side1 ?side2 A2.out).mono ?_); (case side1 => repeat (first | exact HR0.out | with_reducible first | refine Kd.C_alloc ?_ _ | refine Kd.C_drewN ?_ _ | refine Kd.C_drew ?_)); (case side2 => exact HC0.out); rintro e w4 ⟨rfl, hb⟩; refine ⟨_, rfl, ?_⟩; have n0_ := Aside0.mk (bst_ hb); clear HB; have HB := n0_; clear n0_; (try clear hb); (try clear hb2); (try clear hk); (try clear hi)))
   go_loopg [3, 11] k (fun kq v3 v11 w' => ∃ (x3_1 : List Int) (x11_1 : Int), v11 = .int .i64 x11_1 ∧ Aside0 (term_Cells.l0 kq x3_1 l0 (l0.length : Int) x11_1 = some r) ∧ Aside0 (kq ≤ k) ∧ Aside0 (Kd.R (Kd.int .i64) 3 w' w.heap.size (fun _ => True) v3 x3_1) ∧ Aside0 (Below w.heap.size w w'))
   case atStart => exact ⟨(([] : List Int)), (0), (by first | rfl | (simp; done) | (simp [*]; done)), H', ⟨Nat.le_refl _⟩, ⟨by first | exact Kd.R_nil _ _ _ _ _ | exact Kd.N_nil _ _ _ _ _ | exact Kd.V_nil _ _ _ _ _ | exact Kd.Q_nil _ _ _ _ _ | exact Kd.S_nil _ _ _ _ _⟩, ⟨by repeat (with_reducible first | exact HB.out | apply below_alloc | apply pw_below_drewN | apply below_drew1)⟩⟩
   case round =>
    clear H'
    try clear c2
    try clear p2
    try clear c3
    try clear c3b0
    try clear c3b1
    obtain ⟨x3_1, x11_1, rfl, HA, HK1, HO_3, HB⟩ := hrel
    cases gk with
    | zero => exact absurd HA.out (by simp [term_Cells.l0])
    | succ k1 =>
     have H := HA.out
     clear HA
     simp only [term_Cells.l0] at H
     by_cases c5 : x11_1 < (l0.length : Int)
     · rw [if_pos c5] at H
       have c5b0 : decide (x11_1 < (l0.length : Int)) = true := decide_eq_true c5
       clear c5
       by_cases c6 : 0 ≤ x11_1
       · rw [if_pos c6] at H
         have c6b0 : decide (0 ≤ x11_1) = true := decide_eq_true c6
         clear c6
         by_cases c7 : x11_1 < (l0.length : Int)
         · rw [if_pos c7] at H
           have c7b0 : decide (x11_1 < (l0.length : Int)) = true := decide_eq_true c7
           clear c7
           by_cases c8 : ((rd_T41 l0 x11_1).f0) = 2
           · rw [if_pos c8] at H
             have c8b0 : (((rd_T41 l0 x11_1).f0) == 2) = true := beq_iff_eq.mpr c8
             have c8b1 : (((rd_T41 l0 x11_1).f0) != 2) = false := bne_eq_false_iff_eq.mpr c8
             clear c8
             by_cases c9 : x3_1.length < 17592186044416
             · rw [if_pos c9] at H
               have LMc9 := Aside0.mk c9
               clear c9
               obtain ⟨y117, hy117⟩ : ∃ y_ : List Int, y_ = (x3_1 ++ [(rd_T41 l0 x11_1).f1]) := ⟨_, rfl⟩
               replace H : (term_Cells.l0 k1 y117 l0 (l0.length : Int) (wrap64 (x11_1 + 1))) = some r := by first | (rw [hy117]; with_reducible exact H) | (have H2_ := (Option.bind_some _ _).symm.trans H; rw [hy117]; with_reducible exact H2_) | (have H2_ := (Option.bind_some _ _).symm.trans H; with_reducible exact H2_) | with_reducible exact H | (rw [hy117]; exact H) | exact H
               have Ny117 := Aside0.mk hy117
               clear hy117
               have H' := Aside0.mk H
               clear H
               have p115 : 0 ≤ (x11_1 : Int) := of_decide_eq_true (by first | (with_reducible assumption) | assumption)
               have q115 : x11_1 < (l0.length : Int) := of_decide_eq_true (by first | (with_reducible assumption) | assumption)
               obtain ⟨ad115, e115, hx115_0, hx115_1⟩ := at_T41 HR0.out x11_1 p115 q115
               cases e115
               replace hx115_0 := (HB.out.cell (World.block_lt_of_cell? w _ hx115_0)).trans hx115_0
               replace hx115_1 := (HB.out.cell (World.block_lt_of_cell? w _ hx115_1)).trans hx115_1
               replace p115 := eq_true p115
               replace q115 := eq_true q115
               go_wp2_with (first | ((with_reducible refine gate_dst (N := 5) rfl ?_); refine box_event ?hg (N := 5) ?hd (cs := #[.int .i64 0, .int .i64 0]) (t := 41) ?hr ?_; (case hd => rfl); (case hg => rfl); (case hr => first | (go_simp; done) | (go_simp; rfl)); intro gb116 hg w10 hbox hb; have n0_ := Aside0.mk (Kd.R_below (by (with_reducible repeat (first | apply Kd.R_alloc | apply Kd.R_drewN | apply Kd.R_drew)); exact HO_3.out) hb); have n1_ := Aside0.mk (bst_ hb); have n2_ := Aside0.mk (hbox); have n3_ := Aside0.mk ((by rw [hg]; exact bsz_ : w.heap.size ≤ gb116)); have n4_ := n3_; clear HO_3; clear HB; have HO_3 := n0_; have HB := n1_; have BK116 := n2_; have GW116 := n3_; have GE116 := n4_; clear n0_ n1_ n2_ n3_ n4_; clear hb hbox hg; have hcz11_0 : w10.cell? ⟨gb116, 0, none⟩ = some (.int .i64 0) := (blk_cell BK116.out 0).trans rfl; have hcz11_1 : w10.cell? ⟨gb116, 1, none⟩ = some (.int .i64 0) := (blk_cell BK116.out 1).trans rfl; have hfz11_0 := blk_frozen BK116.out 0; have hfz11_1 := blk_frozen BK116.out 1) | ((with_reducible refine gate_builtin (b := .append) (xs := #[.tmp 18, .tmp 21]) rfl ?_); at_builtin; refine Kd.R_append (Kd.int .i64) (w0 := w) w.heap.size rfl (.tmp 18) (.tmp 21) 31 3 (.int .i64 0) 8 rfl Try.underlying31 info3 rfl (by decide) (by omega) u3 x3_1 ((rd_T41 l0 x11_1).f1) [.int .i64 ((rd_T41 l0 x11_1).f1)] (fun _ => True) (fun _ => False) rfl (by first | (go_simp; done) | (go_simp; rfl)) ?aP (fun _ hk => hk.elim) ?aF ?aO ?aB ?aS ?aL ?_; (case aP => exact rfl); (case aB => exact (by repeat (with_reducible first | exact HB.out | apply below_alloc | apply pw_below_drewN | apply below_drew1 | refine below_set ?_ GE116.out))); (case aF => exact (fun _ _ => trivial)); (case aO => exact (by (with_reducible repeat (first | apply Kd.R_alloc | apply Kd.R_drewN | apply Kd.R_drew)); exact Kd.R_mono (Kd.R_far (p := ⟨gb116, 1, none⟩) (Kd.R_far (p := ⟨gb116, 0, none⟩) (Kd.R_types HO_3.out BK116.out (by decide)) (fun _ hk => hk.2) (.int .i64 ((rd_T41 l0 x11_1).f0))) (fun _ hk => hk.2) (.int .i64 ((rd_T41 l0 x11_1).f1))) (fun _ hk => trivial))); (case aS => exact (below_size (by repeat (with_reducible first | exact HB.out | apply below_alloc | apply pw_below_drewN | apply below_drew1 | refine below_set ?_ GE116.out)))); (case aL => have := LMc9.out; omega); intro v118 w12 ho hb hg hat; rw [← Ny117.out] at ho; have n0_ := Aside0.mk (blk_grown (g := gb116) (o := .cells #[.int .i64 ((rd_T41 l0 x11_1).f0), .int .i64 ((rd_T41 l0 x11_1).f1)] 41 (0, 0)) (by (with_reducible repeat (first | refine blk_drewN ?_ _ | refine blk_drew ?_ | refine blk_alloc ?_ _)); refine blk_put (cs := #[.int .i64 ((rd_T41 l0 x11_1).f0), .int .i64 0]) ?_ 1 _ rfl; (with_reducible repeat (first | refine blk_drewN ?_ _ | refine blk_drew ?_ | refine blk_alloc ?_ _)); refine blk_put (cs := #[.int .i64 0, .int .i64 0]) ?_ 0 _ rfl; (with_reducible repeat (first | refine blk_drewN ?_ _ | refine blk_drew ?_ | refine blk_alloc ?_ _)); exact BK116.out) hg (Kd.R_ne HO_3.out BK116.out (by decide))); have n1_ := Aside0.mk (hb); have n2_ := Aside0.mk (ho); clear BK116; clear HB; clear HO_3; have BK116 := n0_; have HB := n1_; have HO119 := n2_; clear n0_ n1_ n2_; clear ho hb hg hat))
               go_roundg k1
               case measure => have := HK1.out; omega
               case rel => exact ⟨(y117), (wrap64 (x11_1 + 1)), (by first | rfl | (simp; done) | (simp [*]; done)), H', ⟨by have := HK1.out; omega⟩, ⟨by (with_reducible repeat (first | apply Kd.R_alloc | apply Kd.R_drewN | apply Kd.R_drew)); exact HO119.out⟩, ⟨by repeat (with_reducible first | exact HB.out | apply below_alloc | apply pw_below_drewN | apply below_drew1 | refine below_set ?_ GE116.out)⟩⟩
             · rw [if_neg c9] at H
               exact absurd H (by simp)
           · rw [if_neg c8] at H
             have c8b0 : (((rd_T41 l0 x11_1).f0) == 2) = false := beq_eq_false_iff_ne.mpr c8
             have c8b1 : (((rd_T41 l0 x11_1).f0) != 2) = true := bne_iff_ne.mpr c8
             have H' := Aside0.mk H
             clear H
             have p115 : 0 ≤ (x11_1 : Int) := of_decide_eq_true (by first | (with_reducible assumption) | assumption)
             have q115 : x11_1 < (l0.length : Int) := of_decide_eq_true (by first | (with_reducible assumption) | assumption)
             obtain ⟨ad115, e115, hx115_0, hx115_1⟩ := at_T41 HR0.out x11_1 p115 q115
             cases e115
             replace hx115_0 := (HB.out.cell (World.block_lt_of_cell? w _ hx115_0)).trans hx115_0
             replace hx115_1 := (HB.out.cell (World.block_lt_of_cell? w _ hx115_1)).trans hx115_1
             replace p115 := eq_true p115
             replace q115 := eq_true q115
             go_wp2_with (first | ((with_reducible refine gate_dst (N := 5) rfl ?_); refine box_event ?hg (N := 5) ?hd (cs := #[.int .i64 0, .int .i64 0]) (t := 41) ?hr ?_; (case hd => rfl); (case hg => rfl); (case hr => first | (go_simp; done) | (go_simp; rfl)); intro gb116 hg w13 hbox hb; have n0_ := Aside0.mk (Kd.R_below (by (with_reducible repeat (first | apply Kd.R_alloc | apply Kd.R_drewN | apply Kd.R_drew)); exact HO_3.out) hb); have n1_ := Aside0.mk (bst_ hb); have n2_ := Aside0.mk (hbox); have n3_ := Aside0.mk ((by rw [hg]; exact bsz_ : w.heap.size ≤ gb116)); have n4_ := n3_; clear HO_3; clear HB; have HO_3 := n0_; have HB := n1_; have BK116 := n2_; have GW116 := n3_; have GE116 := n4_; clear n0_ n1_ n2_ n3_ n4_; clear hb hbox hg; have hcz14_0 : w13.cell? ⟨gb116, 0, none⟩ = some (.int .i64 0) := (blk_cell BK116.out 0).trans rfl; have hcz14_1 : w13.cell? ⟨gb116, 1, none⟩ = some (.int .i64 0) := (blk_cell BK116.out 1).trans rfl; have hfz14_0 := blk_frozen BK116.out 0; have hfz14_1 := blk_frozen BK116.out 1))
             go_roundg k1
             case measure => have := HK1.out; omega
             case rel => exact ⟨(x3_1), (wrap64 (x11_1 + 1)), (by first | rfl | (simp; done) | (simp [*]; done)), H', ⟨by have := HK1.out; omega⟩, ⟨by (with_reducible repeat (first | apply Kd.R_alloc | apply Kd.R_drewN | apply Kd.R_drew)); exact Kd.R_mono (Kd.R_far (p := ⟨gb116, 1, none⟩) (Kd.R_far (p := ⟨gb116, 0, none⟩) (Kd.R_types HO_3.out BK116.out (by decide)) (fun _ hk => hk.2) (.int .i64 ((rd_T41 l0 x11_1).f0))) (fun _ hk => hk.2) (.int .i64 ((rd_T41 l0 x11_1).f1))) (fun _ hk => trivial)⟩, ⟨by repeat (with_reducible first | exact HB.out | apply below_alloc | apply pw_below_drewN | apply below_drew1 | refine below_set ?_ GE116.out)⟩⟩
         · rw [if_neg c7] at H
           exact absurd H (by simp)
       · rw [if_neg c6] at H
         exact absurd H (by simp)
     · rw [if_neg c5] at H
       have c5b0 : decide (x11_1 < (l0.length : Int)) = false := decide_eq_false c5
       clear c5
       replace H := Option.bind_eq_some_iff.mp H
       obtain ⟨t120, A150, H⟩ := H
       replace H : ((slices_Compact.f t120).bind fun t121 => (some t121)) = some r := H
       have A15 := Aside0.mk A150
       clear A150
       replace H := Option.bind_eq_some_iff.mp H
       obtain ⟨t121, A160, H⟩ := H
       replace H : (some t121) = some r := H
       have A16 := Aside0.mk A160
       clear A160
       obtain rfl := Option.some.inj H
       obtain ⟨Ao17, co17, eo17⟩ := Kd.R_slice HO_3.out
       subst eo17
       go_wp2_with (first | ((with_reducible refine gate_callee (f := 42) rfl ?_); refine goesL_ (some 25) rfl rfl Try.func42 (by kernel_rfl) rfl #[.slice Ao17 x3_1.length co17] rfl (by (try simp only [List.map_toArray, List.map_cons, List.map_nil]); first | done | rfl) ?_; (with_reducible refine (slices_Sort.calls (fun k_ => some k_ = (.slice Ao17 x3_1.length co17 : Value).ownBlock) (.slice Ao17 x3_1.length co17) x3_1 t120 w _ ?side1 ?side2 A15.out).mono ?_); (case side1 => repeat (with_reducible first | exact HB.out | apply below_alloc | apply pw_below_drewN | apply below_drew1)); (case side2 => exact Kd.R_tight rfl HO_3.out); rintro e w18 ⟨rfl, hy0, hb, hkp⟩; refine ⟨_, rfl, ?_⟩; have n0_ := Aside0.mk (Kd.R_reok rfl hy0 (fun k_ e_ => HO_3.out.1 k_ e_)); have n1_ := Aside0.mk (hb); clear HO_3; clear HB; have HO_3 := n0_; have HB := n1_; clear n0_ n1_; (try clear hb); (try clear hkp); (try clear hy0)) | ((with_reducible refine gate_callee (f := 43) rfl ?_); refine goesL_ (some 27) rfl rfl Try.func43 (by kernel_rfl) rfl #[.slice Ao17 x3_1.length co17] rfl (by (try simp only [List.map_toArray, List.map_cons, List.map_nil]); first | done | rfl) ?_; (with_reducible refine (slices_Compact.calls (fun k_ => some k_ = (.slice Ao17 x3_1.length co17 : Value).ownBlock) (.slice Ao17 x3_1.length co17) t120 t121 w _ ?side1 ?side2 A16.out).mono ?_); (case side1 => repeat (with_reducible first | exact HB.out | apply below_alloc | apply pw_below_drewN | apply below_drew1)); (case side2 => exact Kd.R_tight rfl HO_3.out); rintro e w19 ⟨v122, rfl, ho0, hb, hkp⟩; refine ⟨_, rfl, ?_⟩; have n0_ := Aside0.mk (Kd.R_mono (ok' := fun k_ => True) ho0 (fun k_ hk_ => trivial)); have n1_ := Aside0.mk (hb); clear HB; clear HO_3; have HO123 := n0_; have HB := n1_; clear n0_ n1_; (try clear hb); (try clear hkp); (try clear ho0)))
       go_ret
       exact ⟨_, by first | rfl | (simp [errW_none, errW_some] <;> rfl) | (simp [*, errW_none, errW_some] <;> rfl), by (with_reducible repeat (first | apply Kd.R_alloc | apply Kd.R_drewN | apply Kd.R_drew)); exact HO123.out, by repeat (with_reducible first | exact HB.out | apply below_alloc | apply pw_below_drewN | apply below_drew1)⟩
 · rw [if_neg c3] at H
   have c3b0 : (t114 == 0) = false := beq_eq_false_iff_ne.mpr c3
   have c3b1 : (t114 != 0) = true := bne_iff_ne.mpr c3
   obtain rfl := Option.some.inj H
   go_enter Try.func26, Try.ntmps26
   go_wp2_with (first | ((with_reducible refine gate_callee (f := 25) rfl ?_); refine goesL_ (some 7) rfl rfl Try.func25 (by kernel_rfl) rfl #[.slice A0 l0.length c0] rfl (by (try simp only [List.map_toArray, List.map_cons, List.map_nil]); first | done | rfl) ?_; (with_reducible refine (term_Check.calls k _ _ l0 t114 _ ?side1 ?side2 A2.out).mono ?_); (case side1 => repeat (first | exact HR0.out | with_reducible first | refine Kd.C_alloc ?_ _ | refine Kd.C_drewN ?_ _ | refine Kd.C_drew ?_)); (case side2 => exact HC0.out); rintro e w20 ⟨rfl, hb⟩; refine ⟨_, rfl, ?_⟩; have n0_ := Aside0.mk (bst_ hb); clear HB; have HB := n0_; clear n0_; (try clear hb); (try clear hb2); (try clear hk); (try clear hi)))
   go_ret
   exact ⟨_, by first | rfl | (simp [errW_none, errW_some] <;> rfl) | (simp [*, errW_none, errW_some] <;> rfl), by first | exact Kd.R_nil _ _ _ _ _ | exact Kd.N_nil _ _ _ _ _ | exact Kd.V_nil _ _ _ _ _ | exact Kd.Q_nil _ _ _ _ _ | exact Kd.S_nil _ _ _ _ _, by repeat (with_reducible first | exact HB.out | apply below_alloc | apply pw_below_drewN | apply below_drew1)⟩

/-! ### code_reckons: function 60 -/
def code_reckons.f (k : Nat) (l0 : List (S41)) : Option (Bool) := (term_Check.f k l0).bind fun t124 => (if t124 = 0 then ((term_Cells.f k l0).bind fun t125 => (some ((t125.length : Int) == 0))) else (some false))
theorem code_reckons.mono : ∀ a0 k, LeO (code_reckons.f k a0) (code_reckons.f (k + 1) a0) := by
 intro a0 k
 unfold code_reckons.f
 repeat' first
  | (with_reducible exact term_Cells.mono _ _)
  | (with_reducible exact term_Check.mono _ _)
  | (with_reducible exact LeO.refl _)
  | (with_reducible exact LeO.none _)
  | (with_reducible refine LeO.ite ?_ ?_)
  | (with_reducible refine LeO.bind ?_ (fun _ => ?_))
  | exact term_Cells.mono _ _
  | exact term_Check.mono _ _
  | exact LeO.none _
  | refine LeO.ite ?_ ?_
  | refine LeO.bind ?_ (fun _ => ?_)
set_option maxHeartbeats 8000000 in
set_option maxRecDepth 100000 in
theorem code_reckons.calls (k : Nat) (A0 : Option Addr) (c0 : Nat) (l0 : List (S41)) (r : Bool) (w : World) (hr0 : Kd.C k41 w A0 l0.length l0) (hc0 : l0.length ≤ c0) (h : code_reckons.f k l0 = some r) :
 Calls Try.prog 60 #[.slice A0 l0.length c0] w fun e w' => e = .returned (.bool r) ∧ Below w.heap.size w w' := by
 have HR0 := Aside0.mk hr0
 have HC0 := Aside0.mk hc0
 clear hr0 hc0
 have HB := Aside0.mk (Below.refl w.heap.size w)
 have H : ((term_Check.f k l0).bind fun t124 => (if t124 = 0 then ((term_Cells.f k l0).bind fun t125 => (some ((t125.length : Int) == 0))) else (some false))) = some r := h
 clear h
 replace H := Option.bind_eq_some_iff.mp H
 obtain ⟨t124, A20, H⟩ := H
 replace H : (if t124 = 0 then ((term_Cells.f k l0).bind fun t125 => (some ((t125.length : Int) == 0))) else (some false)) = some r := H
 have A2 := Aside0.mk A20
 clear A20
 by_cases c3 : t124 = 0
 · rw [if_pos c3] at H
   have c3b0 : (t124 == 0) = true := beq_iff_eq.mpr c3
   have c3b1 : (t124 != 0) = false := bne_eq_false_iff_eq.mpr c3
   clear c3
   replace H := Option.bind_eq_some_iff.mp H
   obtain ⟨t125, A40, H⟩ := H
   replace H : (some ((t125.length : Int) == 0)) = some r := H
   have A4 := Aside0.mk A40
   clear A40
   obtain rfl := Option.some.inj H
   go_enter Try.func60, Try.ntmps60
   go_wp2_with (first | ((with_reducible refine gate_callee (f := 25) rfl ?_); refine goesL_ (some 4) rfl rfl Try.func25 (by kernel_rfl) rfl #[.slice A0 l0.length c0] rfl (by (try simp only [List.map_toArray, List.map_cons, List.map_nil]); first | done | rfl) ?_; (with_reducible refine (term_Check.calls k _ _ l0 t124 _ ?side1 ?side2 A2.out).mono ?_); (case side1 => repeat (first | exact HR0.out | with_reducible first | refine Kd.C_alloc ?_ _ | refine Kd.C_drewN ?_ _ | refine Kd.C_drew ?_)); (case side2 => exact HC0.out); rintro e w5 ⟨rfl, hb⟩; refine ⟨_, rfl, ?_⟩; have n0_ := Aside0.mk (bst_ hb); clear HB; have HB := n0_; clear n0_; (try clear hb); (try clear hb2); (try clear hk); (try clear hi)) | (go_at_call 26; (with_reducible refine (term_Cells.calls k _ _ l0 t125 _ ?side1 ?side2 A4.out).mono ?_); (case side1 => repeat (first | exact (Kd.C_below HR0.out HB.out) | with_reducible first | refine Kd.C_alloc ?_ _ | refine Kd.C_drewN ?_ _ | refine Kd.C_drew ?_)); (case side2 => exact HC0.out); rintro e w6 ⟨v126, rfl, ho0, hb⟩; have n0_ := Aside0.mk (Kd.R_lower ho0 bsz_); have n1_ := Aside0.mk (bst_ hb); clear HB; have HO127 := n0_; have HB := n1_; clear n0_ n1_; (try clear hb); (try clear hb2); (try clear hk); (try clear hi); (try clear ho0); obtain ⟨Ao7, co7, eo7⟩ := Kd.R_slice HO127.out; subst eo7))
   go_ret
   exact ⟨by first | rfl | (simp [errW_none, errW_some] <;> rfl) | (simp [*, errW_none, errW_some] <;> rfl), by repeat (with_reducible first | exact HB.out | apply below_alloc | apply pw_below_drewN | apply below_drew1)⟩
 · rw [if_neg c3] at H
   have c3b0 : (t124 == 0) = false := beq_eq_false_iff_ne.mpr c3
   have c3b1 : (t124 != 0) = true := bne_iff_ne.mpr c3
   obtain rfl := Option.some.inj H
   go_enter Try.func60, Try.ntmps60
   go_wp2_with (first | ((with_reducible refine gate_callee (f := 25) rfl ?_); refine goesL_ (some 4) rfl rfl Try.func25 (by kernel_rfl) rfl #[.slice A0 l0.length c0] rfl (by (try simp only [List.map_toArray, List.map_cons, List.map_nil]); first | done | rfl) ?_; (with_reducible refine (term_Check.calls k _ _ l0 t124 _ ?side1 ?side2 A2.out).mono ?_); (case side1 => repeat (first | exact HR0.out | with_reducible first | refine Kd.C_alloc ?_ _ | refine Kd.C_drewN ?_ _ | refine Kd.C_drew ?_)); (case side2 => exact HC0.out); rintro e w8 ⟨rfl, hb⟩; refine ⟨_, rfl, ?_⟩; have n0_ := Aside0.mk (bst_ hb); clear HB; have HB := n0_; clear n0_; (try clear hb); (try clear hb2); (try clear hk); (try clear hi)))
   go_ret
   exact ⟨by first | rfl | (simp [errW_none, errW_some] <;> rfl) | (simp [*, errW_none, errW_some] <;> rfl), by repeat (with_reducible first | exact HB.out | apply below_alloc | apply pw_below_drewN | apply below_drew1)⟩

/-! ### code_long: function 61 -/
def code_long.f (a0 : Int) : Option (Bool) := if a0 ≥ 1 then (some (decide (a0 ≤ 24))) else (some false)
set_option maxHeartbeats 8000000 in
set_option maxRecDepth 100000 in
theorem code_long.calls (a0 : Int) (r : Bool) (w : World) (h : code_long.f a0 = some r) :
 Calls Try.prog 61 #[.int .i64 a0] w fun e w' => e = .returned (.bool r) ∧ Drawn0 w w' := by
 have H : (if a0 ≥ 1 then (some (decide (a0 ≤ 24))) else (some false)) = some r := h
 clear h
 by_cases c2 : a0 ≥ 1
 · rw [if_pos c2] at H
   have c2b0 : decide (1 ≤ a0) = true := decide_eq_true c2
   clear c2
   obtain rfl := Option.some.inj H
   go_enter Try.func61, Try.ntmps61
   go_wp2
   go_ret
   exact ⟨by first | rfl | (simp; done) | (simp [*]; done), by repeat (first | exact Drawn0.refl _ | apply Drawn0.step)⟩
 · rw [if_neg c2] at H
   have c2b0 : decide (1 ≤ a0) = false := decide_eq_false c2
   clear c2
   obtain rfl := Option.some.inj H
   go_enter Try.func61, Try.ntmps61
   go_wp2
   go_ret
   exact ⟨by first | rfl | (simp; done) | (simp [*]; done), by repeat (first | exact Drawn0.refl _ | apply Drawn0.step)⟩

/-! ### code_may: function 38 -/
def code_may.f (k : Nat) (a0_0 : Int) (a0_1 : Int) (a0_2 : Int) (l0_3 : List (S41)) : Option (Bool) := if a0_0 = 1 then (if (l0_3.length : Int) = 0 then ((code_below.f a0_1 8).bind fun t129 => (if t129 = true then ((code_below.f a0_2 64).bind fun t130 => (some t130)) else (some false))) else (some false)) else (if a0_0 = 2 then ((code_below.f a0_1 8).bind fun t131 => (if t131 = true then (if a0_2 = 0 then ((code_reckons.f k l0_3).bind fun t132 => (some t132)) else (some false)) else (some false))) else (if a0_0 = 3 then ((code_below.f a0_1 64).bind fun t133 => (if t133 = true then (if a0_2 = 0 then ((code_reckons.f k l0_3).bind fun t134 => (some t134)) else (some false)) else (some false))) else (if a0_0 = 4 then ((code_long.f a0_1).bind fun t135 => (if t135 = true then (if a0_2 = 0 then ((code_reckons.f k l0_3).bind fun t136 => (some t136)) else (some false)) else (some false))) else (if a0_0 = 5 then (if (l0_3.length : Int) = 0 then (if a0_1 = 0 then (some (a0_2 == 0)) else (some false)) else (some false)) else (if a0_0 = 6 then (if (l0_3.length : Int) = 0 then ((code_below.f a0_1 256).bind fun t137 => (if t137 = true then (some (a0_2 == 0)) else (some false))) else (some false)) else (if a0_0 = 7 then (if (l0_3.length : Int) = 0 then ((code_long.f a0_1).bind fun t138 => (if t138 = true then ((code_long.f a0_2).bind fun t139 => (some t139)) else (some false))) else (some false)) else (some false)))))))
theorem code_may.mono : ∀ a0 a1 a2 a3 k, LeO (code_may.f k a0 a1 a2 a3) (code_may.f (k + 1) a0 a1 a2 a3) := by
 intro a0 a1 a2 a3 k
 unfold code_may.f
 repeat' first
  | (with_reducible exact code_reckons.mono _ _)
  | (with_reducible exact LeO.refl _)
  | (with_reducible exact LeO.none _)
  | (with_reducible refine LeO.ite ?_ ?_)
  | (with_reducible refine LeO.bind ?_ (fun _ => ?_))
  | exact code_reckons.mono _ _
  | exact LeO.none _
  | refine LeO.ite ?_ ?_
  | refine LeO.bind ?_ (fun _ => ?_)
set_option maxHeartbeats 8000000 in
set_option maxRecDepth 100000 in
theorem code_may.calls (k : Nat) (a0_0 : Int) (a0_1 : Int) (a0_2 : Int) (A0_3 : Option Addr) (c0_3 : Nat) (l0_3 : List (S41)) (r : Bool) (w : World) (hr0_3 : Kd.C k41 w A0_3 l0_3.length l0_3) (hc0_3 : l0_3.length ≤ c0_3) (h : code_may.f k a0_0 a0_1 a0_2 l0_3 = some r) :
 Calls Try.prog 38 #[.agg #[.int .i64 a0_0, .int .i64 a0_1, .int .i64 a0_2, .slice A0_3 l0_3.length c0_3]] w fun e w' => e = .returned (.bool r) ∧ Below w.heap.size w w' := by
 have hu37 := Try.underlying37
 have HR0_3 := Aside0.mk hr0_3
 have HC0_3 := Aside0.mk hc0_3
 clear hr0_3 hc0_3
 have HB := Aside0.mk (Below.refl w.heap.size w)
 have H : (if a0_0 = 1 then (if (l0_3.length : Int) = 0 then ((code_below.f a0_1 8).bind fun t129 => (if t129 = true then ((code_below.f a0_2 64).bind fun t130 => (some t130)) else (some false))) else (some false)) else (if a0_0 = 2 then ((code_below.f a0_1 8).bind fun t131 => (if t131 = true then (if a0_2 = 0 then ((code_reckons.f k l0_3).bind fun t132 => (some t132)) else (some false)) else (some false))) else (if a0_0 = 3 then ((code_below.f a0_1 64).bind fun t133 => (if t133 = true then (if a0_2 = 0 then ((code_reckons.f k l0_3).bind fun t134 => (some t134)) else (some false)) else (some false))) else (if a0_0 = 4 then ((code_long.f a0_1).bind fun t135 => (if t135 = true then (if a0_2 = 0 then ((code_reckons.f k l0_3).bind fun t136 => (some t136)) else (some false)) else (some false))) else (if a0_0 = 5 then (if (l0_3.length : Int) = 0 then (if a0_1 = 0 then (some (a0_2 == 0)) else (some false)) else (some false)) else (if a0_0 = 6 then (if (l0_3.length : Int) = 0 then ((code_below.f a0_1 256).bind fun t137 => (if t137 = true then (some (a0_2 == 0)) else (some false))) else (some false)) else (if a0_0 = 7 then (if (l0_3.length : Int) = 0 then ((code_long.f a0_1).bind fun t138 => (if t138 = true then ((code_long.f a0_2).bind fun t139 => (some t139)) else (some false))) else (some false)) else (some false)))))))) = some r := h
 clear h
 by_cases c2 : a0_0 = 1
 · rw [if_pos c2] at H
   have c2b0 : (a0_0 == 1) = true := beq_iff_eq.mpr c2
   have c2b1 : (a0_0 != 1) = false := bne_eq_false_iff_eq.mpr c2
   clear c2
   by_cases c3 : (l0_3.length : Int) = 0
   · rw [if_pos c3] at H
     have c3b0 : ((l0_3.length : Int) == 0) = true := beq_iff_eq.mpr c3
     have c3b1 : ((l0_3.length : Int) != 0) = false := bne_eq_false_iff_eq.mpr c3
     clear c3
     replace H := Option.bind_eq_some_iff.mp H
     obtain ⟨t129, A40, H⟩ := H
     replace H : (if t129 = true then ((code_below.f a0_2 64).bind fun t130 => (some t130)) else (some false)) = some r := H
     have A4 := Aside0.mk A40
     clear A40
     by_cases c5 : t129 = true
     · subst c5
       have H1 : ((code_below.f a0_2 64).bind fun t130 => (some t130)) = some r := by rw [if_pos rfl] at H; exact H
       clear H
       have H := H1
       clear H1
       replace H := Option.bind_eq_some_iff.mp H
       obtain ⟨t130, A60, H⟩ := H
       replace H : (some t130) = some r := H
       have A6 := Aside0.mk A60
       clear A60
       obtain rfl := Option.some.inj H
       go_enter Try.func38, Try.ntmps38
       go_wp2_with (first | ((with_reducible refine gate_dst (N := 1) rfl ?_); refine box_event ?hg (N := 1) ?hd (cs := #[.int .i64 a0_0, .int .i64 a0_1, .int .i64 a0_2, .slice A0_3 l0_3.length c0_3]) (t := 37) ?hr ?_; (case hd => rfl); (case hg => rfl); (case hr => first | (go_simp; done) | (go_simp; rfl)); intro gb128 hg w7 hbox hb; have n0_ := Aside0.mk (bst_ hb); have n1_ := Aside0.mk (hbox); have n2_ := Aside0.mk ((by rw [hg]; exact bsz_ : w.heap.size ≤ gb128)); have n3_ := n2_; clear HB; have HB := n0_; have BK128 := n1_; have GW128 := n2_; have GE128 := n3_; clear n0_ n1_ n2_ n3_; clear hb hbox hg; have hcz8_0 : w7.cell? ⟨gb128, 0, none⟩ = some (.int .i64 a0_0) := (blk_cell BK128.out 0).trans rfl; have hcz8_1 : w7.cell? ⟨gb128, 1, none⟩ = some (.int .i64 a0_1) := (blk_cell BK128.out 1).trans rfl; have hcz8_2 : w7.cell? ⟨gb128, 2, none⟩ = some (.int .i64 a0_2) := (blk_cell BK128.out 2).trans rfl; have hcz8_3 : w7.cell? ⟨gb128, 3, none⟩ = some (.slice A0_3 l0_3.length c0_3) := (blk_cell BK128.out 3).trans rfl; have hfz8_0 := blk_frozen BK128.out 0; have hfz8_1 := blk_frozen BK128.out 1; have hfz8_2 := blk_frozen BK128.out 2; have hfz8_3 := blk_frozen BK128.out 3) | (go_at_call 59; (with_reducible refine (code_below.calls a0_1 8 true _ A4.out).mono ?_); rintro e w' ⟨rfl, ⟨nd, rfl⟩⟩) | (go_at_call 59; (with_reducible refine (code_below.calls a0_2 64 t130 _ A6.out).mono ?_); rintro e w' ⟨rfl, ⟨nd, rfl⟩⟩))
       go_ret
       exact ⟨by first | rfl | (simp [errW_none, errW_some] <;> rfl) | (simp [*, errW_none, errW_some] <;> rfl), by repeat (with_reducible first | exact HB.out | apply below_alloc | apply pw_below_drewN | apply below_drew1 | refine below_set ?_ GE128.out)⟩
     · replace c5 := Bool.eq_false_iff.mpr c5
       subst c5
       have H1 : (some false) = some r := by rw [if_neg (show ¬ (false = true) by decide)] at H; exact H
       clear H
       have H := H1
       clear H1
       obtain rfl := Option.some.inj H
       go_enter Try.func38, Try.ntmps38
       go_wp2_with (first | ((with_reducible refine gate_dst (N := 1) rfl ?_); refine box_event ?hg (N := 1) ?hd (cs := #[.int .i64 a0_0, .int .i64 a0_1, .int .i64 a0_2, .slice A0_3 l0_3.length c0_3]) (t := 37) ?hr ?_; (case hd => rfl); (case hg => rfl); (case hr => first | (go_simp; done) | (go_simp; rfl)); intro gb128 hg w9 hbox hb; have n0_ := Aside0.mk (bst_ hb); have n1_ := Aside0.mk (hbox); have n2_ := Aside0.mk ((by rw [hg]; exact bsz_ : w.heap.size ≤ gb128)); have n3_ := n2_; clear HB; have HB := n0_; have BK128 := n1_; have GW128 := n2_; have GE128 := n3_; clear n0_ n1_ n2_ n3_; clear hb hbox hg; have hcz10_0 : w9.cell? ⟨gb128, 0, none⟩ = some (.int .i64 a0_0) := (blk_cell BK128.out 0).trans rfl; have hcz10_1 : w9.cell? ⟨gb128, 1, none⟩ = some (.int .i64 a0_1) := (blk_cell BK128.out 1).trans rfl; have hcz10_2 : w9.cell? ⟨gb128, 2, none⟩ = some (.int .i64 a0_2) := (blk_cell BK128.out 2).trans rfl; have hcz10_3 : w9.cell? ⟨gb128, 3, none⟩ = some (.slice A0_3 l0_3.length c0_3) := (blk_cell BK128.out 3).trans rfl; have hfz10_0 := blk_frozen BK128.out 0; have hfz10_1 := blk_frozen BK128.out 1; have hfz10_2 := blk_frozen BK128.out 2; have hfz10_3 := blk_frozen BK128.out 3) | (go_at_call 59; (with_reducible refine (code_below.calls a0_1 8 false _ A4.out).mono ?_); rintro e w' ⟨rfl, ⟨nd, rfl⟩⟩))
       go_ret
       exact ⟨by first | rfl | (simp [errW_none, errW_some] <;> rfl) | (simp [*, errW_none, errW_some] <;> rfl), by repeat (with_reducible first | exact HB.out | apply below_alloc | apply pw_below_drewN | apply below_drew1 | refine below_set ?_ GE128.out)⟩
   · rw [if_neg c3] at H
     have c3b0 : ((l0_3.length : Int) == 0) = false := beq_eq_false_iff_ne.mpr c3
     have c3b1 : ((l0_3.length : Int) != 0) = true := bne_iff_ne.mpr c3
     have c3b2 : ¬ (l0_3 = []) := fun h_ => c3 (by rw [h_]; rfl)
     obtain rfl := Option.some.inj H
     go_enter Try.func38, Try.ntmps38
     go_wp2_with (first | ((with_reducible refine gate_dst (N := 1) rfl ?_); refine box_event ?hg (N := 1) ?hd (cs := #[.int .i64 a0_0, .int .i64 a0_1, .int .i64 a0_2, .slice A0_3 l0_3.length c0_3]) (t := 37) ?hr ?_; (case hd => rfl); (case hg => rfl); (case hr => first | (go_simp; done) | (go_simp; rfl)); intro gb128 hg w11 hbox hb; have n0_ := Aside0.mk (bst_ hb); have n1_ := Aside0.mk (hbox); have n2_ := Aside0.mk ((by rw [hg]; exact bsz_ : w.heap.size ≤ gb128)); have n3_ := n2_; clear HB; have HB := n0_; have BK128 := n1_; have GW128 := n2_; have GE128 := n3_; clear n0_ n1_ n2_ n3_; clear hb hbox hg; have hcz12_0 : w11.cell? ⟨gb128, 0, none⟩ = some (.int .i64 a0_0) := (blk_cell BK128.out 0).trans rfl; have hcz12_1 : w11.cell? ⟨gb128, 1, none⟩ = some (.int .i64 a0_1) := (blk_cell BK128.out 1).trans rfl; have hcz12_2 : w11.cell? ⟨gb128, 2, none⟩ = some (.int .i64 a0_2) := (blk_cell BK128.out 2).trans rfl; have hcz12_3 : w11.cell? ⟨gb128, 3, none⟩ = some (.slice A0_3 l0_3.length c0_3) := (blk_cell BK128.out 3).trans rfl; have hfz12_0 := blk_frozen BK128.out 0; have hfz12_1 := blk_frozen BK128.out 1; have hfz12_2 := blk_frozen BK128.out 2; have hfz12_3 := blk_frozen BK128.out 3))
     go_ret
     exact ⟨by first | rfl | (simp [errW_none, errW_some] <;> rfl) | (simp [*, errW_none, errW_some] <;> rfl), by repeat (with_reducible first | exact HB.out | apply below_alloc | apply pw_below_drewN | apply below_drew1 | refine below_set ?_ GE128.out)⟩
 · rw [if_neg c2] at H
   have c2b0 : (a0_0 == 1) = false := beq_eq_false_iff_ne.mpr c2
   have c2b1 : (a0_0 != 1) = true := bne_iff_ne.mpr c2
   by_cases c13 : a0_0 = 2
   · rw [if_pos c13] at H
     have c13b0 : (a0_0 == 2) = true := beq_iff_eq.mpr c13
     have c13b1 : (a0_0 != 2) = false := bne_eq_false_iff_eq.mpr c13
     clear c13
     replace H := Option.bind_eq_some_iff.mp H
     obtain ⟨t131, A140, H⟩ := H
     replace H : (if t131 = true then (if a0_2 = 0 then ((code_reckons.f k l0_3).bind fun t132 => (some t132)) else (some false)) else (some false)) = some r := H
     have A14 := Aside0.mk A140
     clear A140
     by_cases c15 : t131 = true
     · subst c15
       have H1 : (if a0_2 = 0 then ((code_reckons.f k l0_3).bind fun t132 => (some t132)) else (some false)) = some r := by rw [if_pos rfl] at H; exact H
       clear H
       have H := H1
       clear H1
       by_cases c16 : a0_2 = 0
       · rw [if_pos c16] at H
         have c16b0 : (a0_2 == 0) = true := beq_iff_eq.mpr c16
         have c16b1 : (a0_2 != 0) = false := bne_eq_false_iff_eq.mpr c16
         clear c16
         replace H := Option.bind_eq_some_iff.mp H
         obtain ⟨t132, A170, H⟩ := H
         replace H : (some t132) = some r := H
         have A17 := Aside0.mk A170
         clear A170
         obtain rfl := Option.some.inj H
         go_enter Try.func38, Try.ntmps38
         go_wp2_with (first | ((with_reducible refine gate_dst (N := 1) rfl ?_); refine box_event ?hg (N := 1) ?hd (cs := #[.int .i64 a0_0, .int .i64 a0_1, .int .i64 a0_2, .slice A0_3 l0_3.length c0_3]) (t := 37) ?hr ?_; (case hd => rfl); (case hg => rfl); (case hr => first | (go_simp; done) | (go_simp; rfl)); intro gb128 hg w18 hbox hb; have n0_ := Aside0.mk (bst_ hb); have n1_ := Aside0.mk (hbox); have n2_ := Aside0.mk ((by rw [hg]; exact bsz_ : w.heap.size ≤ gb128)); have n3_ := n2_; clear HB; have HB := n0_; have BK128 := n1_; have GW128 := n2_; have GE128 := n3_; clear n0_ n1_ n2_ n3_; clear hb hbox hg; have hcz19_0 : w18.cell? ⟨gb128, 0, none⟩ = some (.int .i64 a0_0) := (blk_cell BK128.out 0).trans rfl; have hcz19_1 : w18.cell? ⟨gb128, 1, none⟩ = some (.int .i64 a0_1) := (blk_cell BK128.out 1).trans rfl; have hcz19_2 : w18.cell? ⟨gb128, 2, none⟩ = some (.int .i64 a0_2) := (blk_cell BK128.out 2).trans rfl; have hcz19_3 : w18.cell? ⟨gb128, 3, none⟩ = some (.slice A0_3 l0_3.length c0_3) := (blk_cell BK128.out 3).trans rfl; have hfz19_0 := blk_frozen BK128.out 0; have hfz19_1 := blk_frozen BK128.out 1; have hfz19_2 := blk_frozen BK128.out 2; have hfz19_3 := blk_frozen BK128.out 3) | ((with_reducible refine gate_callee (f := 59) rfl ?_); refine goesL_ (some 27) rfl rfl Try.func59 (by kernel_rfl) rfl #[.int .i64 a0_1, .int .i64 8] rfl (by (try simp only [List.map_toArray, List.map_cons, List.map_nil]); first | done | rfl) ?_; (with_reducible refine (code_below.calls a0_1 8 true _ A14.out).mono ?_); rintro e w' ⟨rfl, ⟨nd, rfl⟩⟩; refine ⟨_, rfl, ?_⟩) | (go_at_call 60; (with_reducible refine (code_reckons.calls k _ _ l0_3 t132 _ ?side1 ?side2 A17.out).mono ?_); (case side1 => repeat (first | exact (Kd.C_below HR0_3.out (by repeat (with_reducible first | exact HB.out | apply below_alloc | apply pw_below_drewN | apply below_drew1 | refine below_set ?_ GE128.out))) | with_reducible first | refine Kd.C_alloc ?_ _ | refine Kd.C_drewN ?_ _ | refine Kd.C_drew ?_)); (case side2 => exact HC0_3.out); rintro e w20 ⟨rfl, hb⟩; have n0_ := Aside0.mk (blk_below (g := gb128) (o := .cells #[.int .i64 a0_0, .int .i64 a0_1, .int .i64 a0_2, .slice A0_3 l0_3.length c0_3] 37 (0, 0)) (by (with_reducible repeat (first | refine blk_drewN ?_ _ | refine blk_drew ?_ | refine blk_alloc ?_ _)); exact BK128.out) hb); have n1_ := Aside0.mk (below_step (by repeat (with_reducible first | exact HB.out | apply below_alloc | apply pw_below_drewN | apply below_drew1 | refine below_set ?_ GE128.out)) hb); clear BK128; clear HB; have BK128 := n0_; have HB := n1_; clear n0_ n1_; (try clear hb); (try clear hb2); (try clear hk); (try clear hi)))
         go_ret
         exact ⟨by first | rfl | (simp [errW_none, errW_some] <;> rfl) | (simp [*, errW_none, errW_some] <;> rfl), by repeat (with_reducible first | exact HB.out | apply below_alloc | apply pw_below_drewN | apply below_drew1 | refine below_set ?_ GE128.out)⟩
       · rw [if_neg c16] at H
         have c16b0 : (a0_2 == 0) = false := beq_eq_false_iff_ne.mpr c16
         have c16b1 : (a0_2 != 0) = true := bne_iff_ne.mpr c16
         obtain rfl := Option.some.inj H
         go_enter Try.func38, Try.ntmps38
         go_wp2_with (first | ((with_reducible refine gate_dst (N := 1) rfl ?_); refine box_event ?hg (N := 1) ?hd (cs := #[.int .i64 a0_0, .int .i64 a0_1, .int .i64 a0_2, .slice A0_3 l0_3.length c0_3]) (t := 37) ?hr ?_; (case hd => rfl); (case hg => rfl); (case hr => first | (go_simp; done) | (go_simp; rfl)); intro gb128 hg w21 hbox hb; have n0_ := Aside0.mk (bst_ hb); have n1_ := Aside0.mk (hbox); have n2_ := Aside0.mk ((by rw [hg]; exact bsz_ : w.heap.size ≤ gb128)); have n3_ := n2_; clear HB; have HB := n0_; have BK128 := n1_; have GW128 := n2_; have GE128 := n3_; clear n0_ n1_ n2_ n3_; clear hb hbox hg; have hcz22_0 : w21.cell? ⟨gb128, 0, none⟩ = some (.int .i64 a0_0) := (blk_cell BK128.out 0).trans rfl; have hcz22_1 : w21.cell? ⟨gb128, 1, none⟩ = some (.int .i64 a0_1) := (blk_cell BK128.out 1).trans rfl; have hcz22_2 : w21.cell? ⟨gb128, 2, none⟩ = some (.int .i64 a0_2) := (blk_cell BK128.out 2).trans rfl; have hcz22_3 : w21.cell? ⟨gb128, 3, none⟩ = some (.slice A0_3 l0_3.length c0_3) := (blk_cell BK128.out 3).trans rfl; have hfz22_0 := blk_frozen BK128.out 0; have hfz22_1 := blk_frozen BK128.out 1; have hfz22_2 := blk_frozen BK128.out 2; have hfz22_3 := blk_frozen BK128.out 3) | ((with_reducible refine gate_callee (f := 59) rfl ?_); refine goesL_ (some 27) rfl rfl Try.func59 (by kernel_rfl) rfl #[.int .i64 a0_1, .int .i64 8] rfl (by (try simp only [List.map_toArray, List.map_cons, List.map_nil]); first | done | rfl) ?_; (with_reducible refine (code_below.calls a0_1 8 true _ A14.out).mono ?_); rintro e w' ⟨rfl, ⟨nd, rfl⟩⟩; refine ⟨_, rfl, ?_⟩))
         go_ret
         exact ⟨by first | rfl | (simp [errW_none, errW_some] <;> rfl) | (simp [*, errW_none, errW_some] <;> rfl), by repeat (with_reducible first | exact HB.out | apply below_alloc | apply pw_below_drewN | apply below_drew1 | refine below_set ?_ GE128.out)⟩
     · replace c15 := Bool.eq_false_iff.mpr c15
       subst c15
       have H1 : (some false) = some r := by rw [if_neg (show ¬ (false = true) by decide)] at H; exact H
       clear H
       have H := H1
       clear H1
       obtain rfl := Option.some.inj H
       go_enter Try.func38, Try.ntmps38
       go_wp2_with (first | ((with_reducible refine gate_dst (N := 1) rfl ?_); refine box_event ?hg (N := 1) ?hd (cs := #[.int .i64 a0_0, .int .i64 a0_1, .int .i64 a0_2, .slice A0_3 l0_3.length c0_3]) (t := 37) ?hr ?_; (case hd => rfl); (case hg => rfl); (case hr => first | (go_simp; done) | (go_simp; rfl)); intro gb128 hg w23 hbox hb; have n0_ := Aside0.mk (bst_ hb); have n1_ := Aside0.mk (hbox); have n2_ := Aside0.mk ((by rw [hg]; exact bsz_ : w.heap.size ≤ gb128)); have n3_ := n2_; clear HB; have HB := n0_; have BK128 := n1_; have GW128 := n2_; have GE128 := n3_; clear n0_ n1_ n2_ n3_; clear hb hbox hg; have hcz24_0 : w23.cell? ⟨gb128, 0, none⟩ = some (.int .i64 a0_0) := (blk_cell BK128.out 0).trans rfl; have hcz24_1 : w23.cell? ⟨gb128, 1, none⟩ = some (.int .i64 a0_1) := (blk_cell BK128.out 1).trans rfl; have hcz24_2 : w23.cell? ⟨gb128, 2, none⟩ = some (.int .i64 a0_2) := (blk_cell BK128.out 2).trans rfl; have hcz24_3 : w23.cell? ⟨gb128, 3, none⟩ = some (.slice A0_3 l0_3.length c0_3) := (blk_cell BK128.out 3).trans rfl; have hfz24_0 := blk_frozen BK128.out 0; have hfz24_1 := blk_frozen BK128.out 1; have hfz24_2 := blk_frozen BK128.out 2; have hfz24_3 := blk_frozen BK128.out 3) | ((with_reducible refine gate_callee (f := 59) rfl ?_); refine goesL_ (some 27) rfl rfl Try.func59 (by kernel_rfl) rfl #[.int .i64 a0_1, .int .i64 8] rfl (by (try simp only [List.map_toArray, List.map_cons, List.map_nil]); first | done | rfl) ?_; (with_reducible refine (code_below.calls a0_1 8 false _ A14.out).mono ?_); rintro e w' ⟨rfl, ⟨nd, rfl⟩⟩; refine ⟨_, rfl, ?_⟩))
       go_ret
       exact ⟨by first | rfl | (simp [errW_none, errW_some] <;> rfl) | (simp [*, errW_none, errW_some] <;> rfl), by repeat (with_reducible first | exact HB.out | apply below_alloc | apply pw_below_drewN | apply below_drew1 | refine below_set ?_ GE128.out)⟩
   · rw [if_neg c13] at H
     have c13b0 : (a0_0 == 2) = false := beq_eq_false_iff_ne.mpr c13
     have c13b1 : (a0_0 != 2) = true := bne_iff_ne.mpr c13
     by_cases c25 : a0_0 = 3
     · rw [if_pos c25] at H
       have c25b0 : (a0_0 == 3) = true := beq_iff_eq.mpr c25
       have c25b1 : (a0_0 != 3) = false := bne_eq_false_iff_eq.mpr c25
       clear c25
       replace H := Option.bind_eq_some_iff.mp H
       obtain ⟨t133, A260, H⟩ := H
       replace H : (if t133 = true then (if a0_2 = 0 then ((code_reckons.f k l0_3).bind fun t134 => (some t134)) else (some false)) else (some false)) = some r := H
       have A26 := Aside0.mk A260
       clear A260
       by_cases c27 : t133 = true
       · subst c27
         have H1 : (if a0_2 = 0 then ((code_reckons.f k l0_3).bind fun t134 => (some t134)) else (some false)) = some r := by rw [if_pos rfl] at H; exact H
         clear H
         have H := H1
         clear H1
         by_cases c28 : a0_2 = 0
         · rw [if_pos c28] at H
           have c28b0 : (a0_2 == 0) = true := beq_iff_eq.mpr c28
           have c28b1 : (a0_2 != 0) = false := bne_eq_false_iff_eq.mpr c28
           clear c28
           replace H := Option.bind_eq_some_iff.mp H
           obtain ⟨t134, A290, H⟩ := H
           replace H : (some t134) = some r := H
           have A29 := Aside0.mk A290
           clear A290
           obtain rfl := Option.some.inj H
           go_enter Try.func38, Try.ntmps38
           go_wp2_with (first | ((with_reducible refine gate_dst (N := 1) rfl ?_); refine box_event ?hg (N := 1) ?hd (cs := #[.int .i64 a0_0, .int .i64 a0_1, .int .i64 a0_2, .slice A0_3 l0_3.length c0_3]) (t := 37) ?hr ?_; (case hd => rfl); (case hg => rfl); (case hr => first | (go_simp; done) | (go_simp; rfl)); intro gb128 hg w30 hbox hb; have n0_ := Aside0.mk (bst_ hb); have n1_ := Aside0.mk (hbox); have n2_ := Aside0.mk ((by rw [hg]; exact bsz_ : w.heap.size ≤ gb128)); have n3_ := n2_; clear HB; have HB := n0_; have BK128 := n1_; have GW128 := n2_; have GE128 := n3_; clear n0_ n1_ n2_ n3_; clear hb hbox hg; have hcz31_0 : w30.cell? ⟨gb128, 0, none⟩ = some (.int .i64 a0_0) := (blk_cell BK128.out 0).trans rfl; have hcz31_1 : w30.cell? ⟨gb128, 1, none⟩ = some (.int .i64 a0_1) := (blk_cell BK128.out 1).trans rfl; have hcz31_2 : w30.cell? ⟨gb128, 2, none⟩ = some (.int .i64 a0_2) := (blk_cell BK128.out 2).trans rfl; have hcz31_3 : w30.cell? ⟨gb128, 3, none⟩ = some (.slice A0_3 l0_3.length c0_3) := (blk_cell BK128.out 3).trans rfl; have hfz31_0 := blk_frozen BK128.out 0; have hfz31_1 := blk_frozen BK128.out 1; have hfz31_2 := blk_frozen BK128.out 2; have hfz31_3 := blk_frozen BK128.out 3) | ((with_reducible refine gate_callee (f := 59) rfl ?_); refine goesL_ (some 42) rfl rfl Try.func59 (by kernel_rfl) rfl #[.int .i64 a0_1, .int .i64 64] rfl (by (try simp only [List.map_toArray, List.map_cons, List.map_nil]); first | done | rfl) ?_; (with_reducible refine (code_below.calls a0_1 64 true _ A26.out).mono ?_); rintro e w' ⟨rfl, ⟨nd, rfl⟩⟩; refine ⟨_, rfl, ?_⟩) | (go_at_call 60; (with_reducible refine (code_reckons.calls k _ _ l0_3 t134 _ ?side1 ?side2 A29.out).mono ?_); (case side1 => repeat (first | exact (Kd.C_below HR0_3.out (by repeat (with_reducible first | exact HB.out | apply below_alloc | apply pw_below_drewN | apply below_drew1 | refine below_set ?_ GE128.out))) | with_reducible first | refine Kd.C_alloc ?_ _ | refine Kd.C_drewN ?_ _ | refine Kd.C_drew ?_)); (case side2 => exact HC0_3.out); rintro e w32 ⟨rfl, hb⟩; have n0_ := Aside0.mk (blk_below (g := gb128) (o := .cells #[.int .i64 a0_0, .int .i64 a0_1, .int .i64 a0_2, .slice A0_3 l0_3.length c0_3] 37 (0, 0)) (by (with_reducible repeat (first | refine blk_drewN ?_ _ | refine blk_drew ?_ | refine blk_alloc ?_ _)); exact BK128.out) hb); have n1_ := Aside0.mk (below_step (by repeat (with_reducible first | exact HB.out | apply below_alloc | apply pw_below_drewN | apply below_drew1 | refine below_set ?_ GE128.out)) hb); clear BK128; clear HB; have BK128 := n0_; have HB := n1_; clear n0_ n1_; (try clear hb); (try clear hb2); (try clear hk); (try clear hi)))
           go_ret
           exact ⟨by first | rfl | (simp [errW_none, errW_some] <;> rfl) | (simp [*, errW_none, errW_some] <;> rfl), by repeat (with_reducible first | exact HB.out | apply below_alloc | apply pw_below_drewN | apply below_drew1 | refine below_set ?_ GE128.out)⟩
         · rw [if_neg c28] at H
           have c28b0 : (a0_2 == 0) = false := beq_eq_false_iff_ne.mpr c28
           have c28b1 : (a0_2 != 0) = true := bne_iff_ne.mpr c28
           obtain rfl := Option.some.inj H
           go_enter Try.func38, Try.ntmps38
           go_wp2_with (first | ((with_reducible refine gate_dst (N := 1) rfl ?_); refine box_event ?hg (N := 1) ?hd (cs := #[.int .i64 a0_0, .int .i64 a0_1, .int .i64 a0_2, .slice A0_3 l0_3.length c0_3]) (t := 37) ?hr ?_; (case hd => rfl); (case hg => rfl); (case hr => first | (go_simp; done) | (go_simp; rfl)); intro gb128 hg w33 hbox hb; have n0_ := Aside0.mk (bst_ hb); have n1_ := Aside0.mk (hbox); have n2_ := Aside0.mk ((by rw [hg]; exact bsz_ : w.heap.size ≤ gb128)); have n3_ := n2_; clear HB; have HB := n0_; have BK128 := n1_; have GW128 := n2_; have GE128 := n3_; clear n0_ n1_ n2_ n3_; clear hb hbox hg; have hcz34_0 : w33.cell? ⟨gb128, 0, none⟩ = some (.int .i64 a0_0) := (blk_cell BK128.out 0).trans rfl; have hcz34_1 : w33.cell? ⟨gb128, 1, none⟩ = some (.int .i64 a0_1) := (blk_cell BK128.out 1).trans rfl; have hcz34_2 : w33.cell? ⟨gb128, 2, none⟩ = some (.int .i64 a0_2) := (blk_cell BK128.out 2).trans rfl; have hcz34_3 : w33.cell? ⟨gb128, 3, none⟩ = some (.slice A0_3 l0_3.length c0_3) := (blk_cell BK128.out 3).trans rfl; have hfz34_0 := blk_frozen BK128.out 0; have hfz34_1 := blk_frozen BK128.out 1; have hfz34_2 := blk_frozen BK128.out 2; have hfz34_3 := blk_frozen BK128.out 3) | ((with_reducible refine gate_callee (f := 59) rfl ?_); refine goesL_ (some 42) rfl rfl Try.func59 (by kernel_rfl) rfl #[.int .i64 a0_1, .int .i64 64] rfl (by (try simp only [List.map_toArray, List.map_cons, List.map_nil]); first | done | rfl) ?_; (with_reducible refine (code_below.calls a0_1 64 true _ A26.out).mono ?_); rintro e w' ⟨rfl, ⟨nd, rfl⟩⟩; refine ⟨_, rfl, ?_⟩))
           go_ret
           exact ⟨by first | rfl | (simp [errW_none, errW_some] <;> rfl) | (simp [*, errW_none, errW_some] <;> rfl), by repeat (with_reducible first | exact HB.out | apply below_alloc | apply pw_below_drewN | apply below_drew1 | refine below_set ?_ GE128.out)⟩
       · replace c27 := Bool.eq_false_iff.mpr c27
         subst c27
         have H1 : (some false) = some r := by rw [if_neg (show ¬ (false = true) by decide)] at H; exact H
         clear H
         have H := H1
         clear H1
         obtain rfl := Option.some.inj H
         go_enter Try.func38, Try.ntmps38
         go_wp2_with (first | ((with_reducible refine gate_dst (N := 1) rfl ?_); refine box_event ?hg (N := 1) ?hd (cs := #[.int .i64 a0_0, .int .i64 a0_1, .int .i64 a0_2, .slice A0_3 l0_3.length c0_3]) (t := 37) ?hr ?_; (case hd => rfl); (case hg => rfl); (case hr => first | (go_simp; done) | (go_simp; rfl)); intro gb128 hg w35 hbox hb; have n0_ := Aside0.mk (bst_ hb); have n1_ := Aside0.mk (hbox); have n2_ := Aside0.mk ((by rw [hg]; exact bsz_ : w.heap.size ≤ gb128)); have n3_ := n2_; clear HB; have HB := n0_; have BK128 := n1_; have GW128 := n2_; have GE128 := n3_; clear n0_ n1_ n2_ n3_; clear hb hbox hg; have hcz36_0 : w35.cell? ⟨gb128, 0, none⟩ = some (.int .i64 a0_0) := (blk_cell BK128.out 0).trans rfl; have hcz36_1 : w35.cell? ⟨gb128, 1, none⟩ = some (.int .i64 a0_1) := (blk_cell BK128.out 1).trans rfl; have hcz36_2 : w35.cell? ⟨gb128, 2, none⟩ = some (.int .i64 a0_2) := (blk_cell BK128.out 2).trans rfl; have hcz36_3 : w35.cell? ⟨gb128, 3, none⟩ = some (.slice A0_3 l0_3.length c0_3) := (blk_cell BK128.out 3).trans rfl; have hfz36_0 := blk_frozen BK128.out 0; have hfz36_1 := blk_frozen BK128.out 1; have hfz36_2 := blk_frozen BK128.out 2; have hfz36_3 := blk_frozen BK128.out 3) | ((with_reducible refine gate_callee (f := 59) rfl ?_); refine goesL_ (some 42) rfl rfl Try.func59 (by kernel_rfl) rfl #[.int .i64 a0_1, .int .i64 64] rfl (by (try simp only [List.map_toArray, List.map_cons, List.map_nil]); first | done | rfl) ?_; (with_reducible refine (code_below.calls a0_1 64 false _ A26.out).mono ?_); rintro e w' ⟨rfl, ⟨nd, rfl⟩⟩; refine ⟨_, rfl, ?_⟩))
         go_ret
         exact ⟨by first | rfl | (simp [errW_none, errW_some] <;> rfl) | (simp [*, errW_none, errW_some] <;> rfl), by repeat (with_reducible first | exact HB.out | apply below_alloc | apply pw_below_drewN | apply below_drew1 | refine below_set ?_ GE128.out)⟩
     · rw [if_neg c25] at H
       have c25b0 : (a0_0 == 3) = false := beq_eq_false_iff_ne.mpr c25
       have c25b1 : (a0_0 != 3) = true := bne_iff_ne.mpr c25
       by_cases c37 : a0_0 = 4
       · rw [if_pos c37] at H
         have c37b0 : (a0_0 == 4) = true := beq_iff_eq.mpr c37
         have c37b1 : (a0_0 != 4) = false := bne_eq_false_iff_eq.mpr c37
         clear c37
         replace H := Option.bind_eq_some_iff.mp H
         obtain ⟨t135, A380, H⟩ := H
         replace H : (if t135 = true then (if a0_2 = 0 then ((code_reckons.f k l0_3).bind fun t136 => (some t136)) else (some false)) else (some false)) = some r := H
         have A38 := Aside0.mk A380
         clear A380
         by_cases c39 : t135 = true
         · subst c39
           have H1 : (if a0_2 = 0 then ((code_reckons.f k l0_3).bind fun t136 => (some t136)) else (some false)) = some r := by rw [if_pos rfl] at H; exact H
           clear H
           have H := H1
           clear H1
           by_cases c40 : a0_2 = 0
           · rw [if_pos c40] at H
             have c40b0 : (a0_2 == 0) = true := beq_iff_eq.mpr c40
             have c40b1 : (a0_2 != 0) = false := bne_eq_false_iff_eq.mpr c40
             clear c40
             replace H := Option.bind_eq_some_iff.mp H
             obtain ⟨t136, A410, H⟩ := H
             replace H : (some t136) = some r := H
             have A41 := Aside0.mk A410
             clear A410
             obtain rfl := Option.some.inj H
             go_enter Try.func38, Try.ntmps38
             go_wp2_with (first | ((with_reducible refine gate_dst (N := 1) rfl ?_); refine box_event ?hg (N := 1) ?hd (cs := #[.int .i64 a0_0, .int .i64 a0_1, .int .i64 a0_2, .slice A0_3 l0_3.length c0_3]) (t := 37) ?hr ?_; (case hd => rfl); (case hg => rfl); (case hr => first | (go_simp; done) | (go_simp; rfl)); intro gb128 hg w42 hbox hb; have n0_ := Aside0.mk (bst_ hb); have n1_ := Aside0.mk (hbox); have n2_ := Aside0.mk ((by rw [hg]; exact bsz_ : w.heap.size ≤ gb128)); have n3_ := n2_; clear HB; have HB := n0_; have BK128 := n1_; have GW128 := n2_; have GE128 := n3_; clear n0_ n1_ n2_ n3_; clear hb hbox hg; have hcz43_0 : w42.cell? ⟨gb128, 0, none⟩ = some (.int .i64 a0_0) := (blk_cell BK128.out 0).trans rfl; have hcz43_1 : w42.cell? ⟨gb128, 1, none⟩ = some (.int .i64 a0_1) := (blk_cell BK128.out 1).trans rfl; have hcz43_2 : w42.cell? ⟨gb128, 2, none⟩ = some (.int .i64 a0_2) := (blk_cell BK128.out 2).trans rfl; have hcz43_3 : w42.cell? ⟨gb128, 3, none⟩ = some (.slice A0_3 l0_3.length c0_3) := (blk_cell BK128.out 3).trans rfl; have hfz43_0 := blk_frozen BK128.out 0; have hfz43_1 := blk_frozen BK128.out 1; have hfz43_2 := blk_frozen BK128.out 2; have hfz43_3 := blk_frozen BK128.out 3) | ((with_reducible refine gate_callee (f := 61) rfl ?_); refine goesL_ (some 57) rfl rfl Try.func61 (by kernel_rfl) rfl #[.int .i64 a0_1] rfl (by (try simp only [List.map_toArray, List.map_cons, List.map_nil]); first | done | rfl) ?_; (with_reducible refine (code_long.calls a0_1 true _ A38.out).mono ?_); rintro e w' ⟨rfl, ⟨nd, rfl⟩⟩; refine ⟨_, rfl, ?_⟩) | (go_at_call 60; (with_reducible refine (code_reckons.calls k _ _ l0_3 t136 _ ?side1 ?side2 A41.out).mono ?_); (case side1 => repeat (first | exact (Kd.C_below HR0_3.out (by repeat (with_reducible first | exact HB.out | apply below_alloc | apply pw_below_drewN | apply below_drew1 | refine below_set ?_ GE128.out))) | with_reducible first | refine Kd.C_alloc ?_ _ | refine Kd.C_drewN ?_ _ | refine Kd.C_drew ?_)); (case side2 => exact HC0_3.out); rintro e w44 ⟨rfl, hb⟩; have n0_ := Aside0.mk (blk_below (g := gb128) (o := .cells #[.int .i64 a0_0, .int .i64 a0_1, .int .i64 a0_2, .slice A0_3 l0_3.length c0_3] 37 (0, 0)) (by (with_reducible repeat (first | refine blk_drewN ?_ _ | refine blk_drew ?_ | refine blk_alloc ?_ _)); exact BK128.out) hb); have n1_ := Aside0.mk (below_step (by repeat (with_reducible first | exact HB.out | apply below_alloc | apply pw_below_drewN | apply below_drew1 | refine below_set ?_ GE128.out)) hb); clear BK128; clear HB; have BK128 := n0_; have HB := n1_; clear n0_ n1_; (try clear hb); (try clear hb2); (try clear hk); (try clear hi)))
             go_ret
             exact ⟨by first | rfl | (simp [errW_none, errW_some] <;> rfl) | (simp [*, errW_none, errW_some] <;> rfl), by repeat (with_reducible first | exact HB.out | apply below_alloc | apply pw_below_drewN | apply below_drew1 | refine below_set ?_ GE128.out)⟩
           · rw [if_neg c40] at H
             have c40b0 : (a0_2 == 0) = false := beq_eq_false_iff_ne.mpr c40
             have c40b1 : (a0_2 != 0) = true := bne_iff_ne.mpr c40
             obtain rfl := Option.some.inj H
             go_enter Try.func38, Try.ntmps38
             go_wp2_with (first | ((with_reducible refine gate_dst (N := 1) rfl ?_); refine box_event ?hg (N := 1) ?hd (cs := #[.int .i64 a0_0, .int .i64 a0_1, .int .i64 a0_2, .slice A0_3 l0_3.length c0_3]) (t := 37) ?hr ?_; (case hd => rfl); (case hg => rfl); (case hr => first | (go_simp; done) | (go_simp; rfl)); intro gb128 hg w45 hbox hb; have n0_ := Aside0.mk (bst_ hb); have n1_ := Aside0.mk (hbox); have n2_ := Aside0.mk ((by rw [hg]; exact bsz_ : w.heap.size ≤ gb128)); have n3_ := n2_; clear HB; have HB := n0_; have BK128 := n1_; have GW128 := n2_; have GE128 := n3_; clear n0_ n1_ n2_ n3_; clear hb hbox hg; have hcz46_0 : w45.cell? ⟨gb128, 0, none⟩ = some (.int .i64 a0_0) := (blk_cell BK128.out 0).trans rfl; have hcz46_1 : w45.cell? ⟨gb128, 1, none⟩ = some (.int .i64 a0_1) := (blk_cell BK128.out 1).trans rfl; have hcz46_2 : w45.cell? ⟨gb128, 2, none⟩ = some (.int .i64 a0_2) := (blk_cell BK128.out 2).trans rfl; have hcz46_3 : w45.cell? ⟨gb128, 3, none⟩ = some (.slice A0_3 l0_3.length c0_3) := (blk_cell BK128.out 3).trans rfl; have hfz46_0 := blk_frozen BK128.out 0; have hfz46_1 := blk_frozen BK128.out 1; have hfz46_2 := blk_frozen BK128.out 2; have hfz46_3 := blk_frozen BK128.out 3) | ((with_reducible refine gate_callee (f := 61) rfl ?_); refine goesL_ (some 57) rfl rfl Try.func61 (by kernel_rfl) rfl #[.int .i64 a0_1] rfl (by (try simp only [List.map_toArray, List.map_cons, List.map_nil]); first | done | rfl) ?_; (with_reducible refine (code_long.calls a0_1 true _ A38.out).mono ?_); rintro e w' ⟨rfl, ⟨nd, rfl⟩⟩; refine ⟨_, rfl, ?_⟩))
             go_ret
             exact ⟨by first | rfl | (simp [errW_none, errW_some] <;> rfl) | (simp [*, errW_none, errW_some] <;> rfl), by repeat (with_reducible first | exact HB.out | apply below_alloc | apply pw_below_drewN | apply below_drew1 | refine below_set ?_ GE128.out)⟩
         · replace c39 := Bool.eq_false_iff.mpr c39
           subst c39
           have H1 : (some false) = some r := by rw [if_neg (show ¬ (false = true) by decide)] at H; exact H
           clear H
           have H := H1
           clear H1
           obtain rfl := Option.some.inj H
           go_enter Try.func38, Try.ntmps38
           go_wp2_with (first | ((with_reducible refine gate_dst (N := 1) rfl ?_); refine box_event ?hg (N := 1) ?hd (cs := #[.int .i64 a0_0, .int .i64 a0_1, .int .i64 a0_2, .slice A0_3 l0_3.length c0_3]) (t := 37) ?hr ?_; (case hd => rfl); (case hg => rfl); (case hr => first | (go_simp; done) | (go_simp; rfl)); intro gb128 hg w47 hbox hb; have n0_ := Aside0.mk (bst_ hb); have n1_ := Aside0.mk (hbox); have n2_ := Aside0.mk ((by rw [hg]; exact bsz_ : w.heap.size ≤ gb128)); have n3_ := n2_; clear HB; have HB := n0_; have BK128 := n1_; have GW128 := n2_; have GE128 := n3_; clear n0_ n1_ n2_ n3_; clear hb hbox hg; have hcz48_0 : w47.cell? ⟨gb128, 0, none⟩ = some (.int .i64 a0_0) := (blk_cell BK128.out 0).trans rfl; have hcz48_1 : w47.cell? ⟨gb128, 1, none⟩ = some (.int .i64 a0_1) := (blk_cell BK128.out 1).trans rfl; have hcz48_2 : w47.cell? ⟨gb128, 2, none⟩ = some (.int .i64 a0_2) := (blk_cell BK128.out 2).trans rfl; have hcz48_3 : w47.cell? ⟨gb128, 3, none⟩ = some (.slice A0_3 l0_3.length c0_3) := (blk_cell BK128.out 3).trans rfl; have hfz48_0 := blk_frozen BK128.out 0; have hfz48_1 := blk_frozen BK128.out 1; have hfz48_2 := blk_frozen BK128.out 2; have hfz48_3 := blk_frozen BK128.out 3) | ((with_reducible refine gate_callee (f := 61) rfl ?_); refine goesL_ (some 57) rfl rfl Try.func61 (by kernel_rfl) rfl #[.int .i64 a0_1] rfl (by (try simp only [List.map_toArray, List.map_cons, List.map_nil]); first | done | rfl) ?_; (with_reducible refine (code_long.calls a0_1 false _ A38.out).mono ?_); rintro e w' ⟨rfl, ⟨nd, rfl⟩⟩; refine ⟨_, rfl, ?_⟩))
           go_ret
           exact ⟨by first | rfl | (simp [errW_none, errW_some] <;> rfl) | (simp [*, errW_none, errW_some] <;> rfl), by repeat (with_reducible first | exact HB.out | apply below_alloc | apply pw_below_drewN | apply below_drew1 | refine below_set ?_ GE128.out)⟩
       · rw [if_neg c37] at H
         have c37b0 : (a0_0 == 4) = false := beq_eq_false_iff_ne.mpr c37
         have c37b1 : (a0_0 != 4) = true := bne_iff_ne.mpr c37
         by_cases c49 : a0_0 = 5
         · rw [if_pos c49] at H
           have c49b0 : (a0_0 == 5) = true := beq_iff_eq.mpr c49
           have c49b1 : (a0_0 != 5) = false := bne_eq_false_iff_eq.mpr c49
           clear c49
           by_cases c50 : (l0_3.length : Int) = 0
           · rw [if_pos c50] at H
             have c50b0 : ((l0_3.length : Int) == 0) = true := beq_iff_eq.mpr c50
             have c50b1 : ((l0_3.length : Int) != 0) = false := bne_eq_false_iff_eq.mpr c50
             clear c50
             by_cases c51 : a0_1 = 0
             · rw [if_pos c51] at H
               have c51b0 : (a0_1 == 0) = true := beq_iff_eq.mpr c51
               have c51b1 : (a0_1 != 0) = false := bne_eq_false_iff_eq.mpr c51
               clear c51
               obtain rfl := Option.some.inj H
               go_enter Try.func38, Try.ntmps38
               go_wp2_with (first | ((with_reducible refine gate_dst (N := 1) rfl ?_); refine box_event ?hg (N := 1) ?hd (cs := #[.int .i64 a0_0, .int .i64 a0_1, .int .i64 a0_2, .slice A0_3 l0_3.length c0_3]) (t := 37) ?hr ?_; (case hd => rfl); (case hg => rfl); (case hr => first | (go_simp; done) | (go_simp; rfl)); intro gb128 hg w52 hbox hb; have n0_ := Aside0.mk (bst_ hb); have n1_ := Aside0.mk (hbox); have n2_ := Aside0.mk ((by rw [hg]; exact bsz_ : w.heap.size ≤ gb128)); have n3_ := n2_; clear HB; have HB := n0_; have BK128 := n1_; have GW128 := n2_; have GE128 := n3_; clear n0_ n1_ n2_ n3_; clear hb hbox hg; have hcz53_0 : w52.cell? ⟨gb128, 0, none⟩ = some (.int .i64 a0_0) := (blk_cell BK128.out 0).trans rfl; have hcz53_1 : w52.cell? ⟨gb128, 1, none⟩ = some (.int .i64 a0_1) := (blk_cell BK128.out 1).trans rfl; have hcz53_2 : w52.cell? ⟨gb128, 2, none⟩ = some (.int .i64 a0_2) := (blk_cell BK128.out 2).trans rfl; have hcz53_3 : w52.cell? ⟨gb128, 3, none⟩ = some (.slice A0_3 l0_3.length c0_3) := (blk_cell BK128.out 3).trans rfl; have hfz53_0 := blk_frozen BK128.out 0; have hfz53_1 := blk_frozen BK128.out 1; have hfz53_2 := blk_frozen BK128.out 2; have hfz53_3 := blk_frozen BK128.out 3))
               go_ret
               exact ⟨by first | rfl | (simp [errW_none, errW_some] <;> rfl) | (simp [*, errW_none, errW_some] <;> rfl), by repeat (with_reducible first | exact HB.out | apply below_alloc | apply pw_below_drewN | apply below_drew1 | refine below_set ?_ GE128.out)⟩
             · rw [if_neg c51] at H
               have c51b0 : (a0_1 == 0) = false := beq_eq_false_iff_ne.mpr c51
               have c51b1 : (a0_1 != 0) = true := bne_iff_ne.mpr c51
               obtain rfl := Option.some.inj H
               go_enter Try.func38, Try.ntmps38
               go_wp2_with (first | ((with_reducible refine gate_dst (N := 1) rfl ?_); refine box_event ?hg (N := 1) ?hd (cs := #[.int .i64 a0_0, .int .i64 a0_1, .int .i64 a0_2, .slice A0_3 l0_3.length c0_3]) (t := 37) ?hr ?_; (case hd => rfl); (case hg => rfl); (case hr => first | (go_simp; done) | (go_simp; rfl)); intro gb128 hg w54 hbox hb; have n0_ := Aside0.mk (bst_ hb); have n1_ := Aside0.mk (hbox); have n2_ := Aside0.mk ((by rw [hg]; exact bsz_ : w.heap.size ≤ gb128)); have n3_ := n2_; clear HB; have HB := n0_; have BK128 := n1_; have GW128 := n2_; have GE128 := n3_; clear n0_ n1_ n2_ n3_; clear hb hbox hg; have hcz55_0 : w54.cell? ⟨gb128, 0, none⟩ = some (.int .i64 a0_0) := (blk_cell BK128.out 0).trans rfl; have hcz55_1 : w54.cell? ⟨gb128, 1, none⟩ = some (.int .i64 a0_1) := (blk_cell BK128.out 1).trans rfl; have hcz55_2 : w54.cell? ⟨gb128, 2, none⟩ = some (.int .i64 a0_2) := (blk_cell BK128.out 2).trans rfl; have hcz55_3 : w54.cell? ⟨gb128, 3, none⟩ = some (.slice A0_3 l0_3.length c0_3) := (blk_cell BK128.out 3).trans rfl; have hfz55_0 := blk_frozen BK128.out 0; have hfz55_1 := blk_frozen BK128.out 1; have hfz55_2 := blk_frozen BK128.out 2; have hfz55_3 := blk_frozen BK128.out 3))
               go_ret
               exact ⟨by first | rfl | (simp [errW_none, errW_some] <;> rfl) | (simp [*, errW_none, errW_some] <;> rfl), by repeat (with_reducible first | exact HB.out | apply below_alloc | apply pw_below_drewN | apply below_drew1 | refine below_set ?_ GE128.out)⟩
           · rw [if_neg c50] at H
             have c50b0 : ((l0_3.length : Int) == 0) = false := beq_eq_false_iff_ne.mpr c50
             have c50b1 : ((l0_3.length : Int) != 0) = true := bne_iff_ne.mpr c50
             have c50b2 : ¬ (l0_3 = []) := fun h_ => c50 (by rw [h_]; rfl)
             obtain rfl := Option.some.inj H
             go_enter Try.func38, Try.ntmps38
             go_wp2_with (first | ((with_reducible refine gate_dst (N := 1) rfl ?_); refine box_event ?hg (N := 1) ?hd (cs := #[.int .i64 a0_0, .int .i64 a0_1, .int .i64 a0_2, .slice A0_3 l0_3.length c0_3]) (t := 37) ?hr ?_; (case hd => rfl); (case hg => rfl); (case hr => first | (go_simp; done) | (go_simp; rfl)); intro gb128 hg w56 hbox hb; have n0_ := Aside0.mk (bst_ hb); have n1_ := Aside0.mk (hbox); have n2_ := Aside0.mk ((by rw [hg]; exact bsz_ : w.heap.size ≤ gb128)); have n3_ := n2_; clear HB; have HB := n0_; have BK128 := n1_; have GW128 := n2_; have GE128 := n3_; clear n0_ n1_ n2_ n3_; clear hb hbox hg; have hcz57_0 : w56.cell? ⟨gb128, 0, none⟩ = some (.int .i64 a0_0) := (blk_cell BK128.out 0).trans rfl; have hcz57_1 : w56.cell? ⟨gb128, 1, none⟩ = some (.int .i64 a0_1) := (blk_cell BK128.out 1).trans rfl; have hcz57_2 : w56.cell? ⟨gb128, 2, none⟩ = some (.int .i64 a0_2) := (blk_cell BK128.out 2).trans rfl; have hcz57_3 : w56.cell? ⟨gb128, 3, none⟩ = some (.slice A0_3 l0_3.length c0_3) := (blk_cell BK128.out 3).trans rfl; have hfz57_0 := blk_frozen BK128.out 0; have hfz57_1 := blk_frozen BK128.out 1; have hfz57_2 := blk_frozen BK128.out 2; have hfz57_3 := blk_frozen BK128.out 3))
             go_ret
             exact ⟨by first | rfl | (simp [errW_none, errW_some] <;> rfl) | (simp [*, errW_none, errW_some] <;> rfl), by repeat (with_reducible first | exact HB.out | apply below_alloc | apply pw_below_drewN | apply below_drew1 | refine below_set ?_ GE128.out)⟩
         · rw [if_neg c49] at H
           have c49b0 : (a0_0 == 5) = false := beq_eq_false_iff_ne.mpr c49
           have c49b1 : (a0_0 != 5) = true := bne_iff_ne.mpr c49
           by_cases c58 : a0_0 = 6
           · rw [if_pos c58] at H
             have c58b0 : (a0_0 == 6) = true := beq_iff_eq.mpr c58
             have c58b1 : (a0_0 != 6) = false := bne_eq_false_iff_eq.mpr c58
             clear c58
             by_cases c59 : (l0_3.length : Int) = 0
             · rw [if_pos c59] at H
               have c59b0 : ((l0_3.length : Int) == 0) = true := beq_iff_eq.mpr c59
               have c59b1 : ((l0_3.length : Int) != 0) = false := bne_eq_false_iff_eq.mpr c59
               clear c59
               replace H := Option.bind_eq_some_iff.mp H
               obtain ⟨t137, A600, H⟩ := H
               replace H : (if t137 = true then (some (a0_2 == 0)) else (some false)) = some r := H
               have A60 := Aside0.mk A600
               clear A600
               by_cases c61 : t137 = true
               · subst c61
                 have H1 : (some (a0_2 == 0)) = some r := by rw [if_pos rfl] at H; exact H
                 clear H
                 have H := H1
                 clear H1
                 obtain rfl := Option.some.inj H
                 go_enter Try.func38, Try.ntmps38
                 go_wp2_with (first | ((with_reducible refine gate_dst (N := 1) rfl ?_); refine box_event ?hg (N := 1) ?hd (cs := #[.int .i64 a0_0, .int .i64 a0_1, .int .i64 a0_2, .slice A0_3 l0_3.length c0_3]) (t := 37) ?hr ?_; (case hd => rfl); (case hg => rfl); (case hr => first | (go_simp; done) | (go_simp; rfl)); intro gb128 hg w62 hbox hb; have n0_ := Aside0.mk (bst_ hb); have n1_ := Aside0.mk (hbox); have n2_ := Aside0.mk ((by rw [hg]; exact bsz_ : w.heap.size ≤ gb128)); have n3_ := n2_; clear HB; have HB := n0_; have BK128 := n1_; have GW128 := n2_; have GE128 := n3_; clear n0_ n1_ n2_ n3_; clear hb hbox hg; have hcz63_0 : w62.cell? ⟨gb128, 0, none⟩ = some (.int .i64 a0_0) := (blk_cell BK128.out 0).trans rfl; have hcz63_1 : w62.cell? ⟨gb128, 1, none⟩ = some (.int .i64 a0_1) := (blk_cell BK128.out 1).trans rfl; have hcz63_2 : w62.cell? ⟨gb128, 2, none⟩ = some (.int .i64 a0_2) := (blk_cell BK128.out 2).trans rfl; have hcz63_3 : w62.cell? ⟨gb128, 3, none⟩ = some (.slice A0_3 l0_3.length c0_3) := (blk_cell BK128.out 3).trans rfl; have hfz63_0 := blk_frozen BK128.out 0; have hfz63_1 := blk_frozen BK128.out 1; have hfz63_2 := blk_frozen BK128.out 2; have hfz63_3 := blk_frozen BK128.out 3) | (go_at_call 59; (with_reducible refine (code_below.calls a0_1 256 true _ A60.out).mono ?_); rintro e w' ⟨rfl, ⟨nd, rfl⟩⟩))
                 go_ret
                 exact ⟨by first | rfl | (simp [errW_none, errW_some] <;> rfl) | (simp [*, errW_none, errW_some] <;> rfl), by repeat (with_reducible first | exact HB.out | apply below_alloc | apply pw_below_drewN | apply below_drew1 | refine below_set ?_ GE128.out)⟩
               · replace c61 := Bool.eq_false_iff.mpr c61
                 subst c61
                 have H1 : (some false) = some r := by rw [if_neg (show ¬ (false = true) by decide)] at H; exact H
                 clear H
                 have H := H1
                 clear H1
                 obtain rfl := Option.some.inj H
                 go_enter Try.func38, Try.ntmps38
                 go_wp2_with (first | ((with_reducible refine gate_dst (N := 1) rfl ?_); refine box_event ?hg (N := 1) ?hd (cs := #[.int .i64 a0_0, .int .i64 a0_1, .int .i64 a0_2, .slice A0_3 l0_3.length c0_3]) (t := 37) ?hr ?_; (case hd => rfl); (case hg => rfl); (case hr => first | (go_simp; done) | (go_simp; rfl)); intro gb128 hg w64 hbox hb; have n0_ := Aside0.mk (bst_ hb); have n1_ := Aside0.mk (hbox); have n2_ := Aside0.mk ((by rw [hg]; exact bsz_ : w.heap.size ≤ gb128)); have n3_ := n2_; clear HB; have HB := n0_; have BK128 := n1_; have GW128 := n2_; have GE128 := n3_; clear n0_ n1_ n2_ n3_; clear hb hbox hg; have hcz65_0 : w64.cell? ⟨gb128, 0, none⟩ = some (.int .i64 a0_0) := (blk_cell BK128.out 0).trans rfl; have hcz65_1 : w64.cell? ⟨gb128, 1, none⟩ = some (.int .i64 a0_1) := (blk_cell BK128.out 1).trans rfl; have hcz65_2 : w64.cell? ⟨gb128, 2, none⟩ = some (.int .i64 a0_2) := (blk_cell BK128.out 2).trans rfl; have hcz65_3 : w64.cell? ⟨gb128, 3, none⟩ = some (.slice A0_3 l0_3.length c0_3) := (blk_cell BK128.out 3).trans rfl; have hfz65_0 := blk_frozen BK128.out 0; have hfz65_1 := blk_frozen BK128.out 1; have hfz65_2 := blk_frozen BK128.out 2; have hfz65_3 := blk_frozen BK128.out 3) | (go_at_call 59; (with_reducible refine (code_below.calls a0_1 256 false _ A60.out).mono ?_); rintro e w' ⟨rfl, ⟨nd, rfl⟩⟩))
                 go_ret
                 exact ⟨by first | rfl | (simp [errW_none, errW_some] <;> rfl) | (simp [*, errW_none, errW_some] <;> rfl), by repeat (with_reducible first | exact HB.out | apply below_alloc | apply pw_below_drewN | apply below_drew1 | refine below_set ?_ GE128.out)⟩
             · rw [if_neg c59] at H
               have c59b0 : ((l0_3.length : Int) == 0) = false := beq_eq_false_iff_ne.mpr c59
               have c59b1 : ((l0_3.length : Int) != 0) = true := bne_iff_ne.mpr c59
               have c59b2 : ¬ (l0_3 = []) := fun h_ => c59 (by rw [h_]; rfl)
               obtain rfl := Option.some.inj H
               go_enter Try.func38, Try.ntmps38
               go_wp2_with (first | ((with_reducible refine gate_dst (N := 1) rfl ?_); refine box_event ?hg (N := 1) ?hd (cs := #[.int .i64 a0_0, .int .i64 a0_1, .int .i64 a0_2, .slice A0_3 l0_3.length c0_3]) (t := 37) ?hr ?_; (case hd => rfl); (case hg => rfl); (case hr => first | (go_simp; done) | (go_simp; rfl)); intro gb128 hg w66 hbox hb; have n0_ := Aside0.mk (bst_ hb); have n1_ := Aside0.mk (hbox); have n2_ := Aside0.mk ((by rw [hg]; exact bsz_ : w.heap.size ≤ gb128)); have n3_ := n2_; clear HB; have HB := n0_; have BK128 := n1_; have GW128 := n2_; have GE128 := n3_; clear n0_ n1_ n2_ n3_; clear hb hbox hg; have hcz67_0 : w66.cell? ⟨gb128, 0, none⟩ = some (.int .i64 a0_0) := (blk_cell BK128.out 0).trans rfl; have hcz67_1 : w66.cell? ⟨gb128, 1, none⟩ = some (.int .i64 a0_1) := (blk_cell BK128.out 1).trans rfl; have hcz67_2 : w66.cell? ⟨gb128, 2, none⟩ = some (.int .i64 a0_2) := (blk_cell BK128.out 2).trans rfl; have hcz67_3 : w66.cell? ⟨gb128, 3, none⟩ = some (.slice A0_3 l0_3.length c0_3) := (blk_cell BK128.out 3).trans rfl; have hfz67_0 := blk_frozen BK128.out 0; have hfz67_1 := blk_frozen BK128.out 1; have hfz67_2 := blk_frozen BK128.out 2; have hfz67_3 := blk_frozen BK128.out 3))
               go_ret
               exact ⟨by first | rfl | (simp [errW_none, errW_some] <;> rfl) | (simp [*, errW_none, errW_some] <;> rfl), by repeat (with_reducible first | exact HB.out | apply below_alloc | apply pw_below_drewN | apply below_drew1 | refine below_set ?_ GE128.out)⟩
           · rw [if_neg c58] at H
             have c58b0 : (a0_0 == 6) = false := beq_eq_false_iff_ne.mpr c58
             have c58b1 : (a0_0 != 6) = true := bne_iff_ne.mpr c58
             by_cases c68 : a0_0 = 7
             · rw [if_pos c68] at H
               have c68b0 : (a0_0 == 7) = true := beq_iff_eq.mpr c68
               have c68b1 : (a0_0 != 7) = false := bne_eq_false_iff_eq.mpr c68
               clear c68
               by_cases c69 : (l0_3.length : Int) = 0
               · rw [if_pos c69] at H
                 have c69b0 : ((l0_3.length : Int) == 0) = true := beq_iff_eq.mpr c69
                 have c69b1 : ((l0_3.length : Int) != 0) = false := bne_eq_false_iff_eq.mpr c69
                 clear c69
                 replace H := Option.bind_eq_some_iff.mp H
                 obtain ⟨t138, A700, H⟩ := H
                 replace H : (if t138 = true then ((code_long.f a0_2).bind fun t139 => (some t139)) else (some false)) = some r := H
                 have A70 := Aside0.mk A700
                 clear A700
                 by_cases c71 : t138 = true
                 · subst c71
                   have H1 : ((code_long.f a0_2).bind fun t139 => (some t139)) = some r := by rw [if_pos rfl] at H; exact H
                   clear H
                   have H := H1
                   clear H1
                   replace H := Option.bind_eq_some_iff.mp H
                   obtain ⟨t139, A720, H⟩ := H
                   replace H : (some t139) = some r := H
                   have A72 := Aside0.mk A720
                   clear A720
                   obtain rfl := Option.some.inj H
                   go_enter Try.func38, Try.ntmps38
                   go_wp2_with (first | ((with_reducible refine gate_dst (N := 1) rfl ?_); refine box_event ?hg (N := 1) ?hd (cs := #[.int .i64 a0_0, .int .i64 a0_1, .int .i64 a0_2, .slice A0_3 l0_3.length c0_3]) (t := 37) ?hr ?_; (case hd => rfl); (case hg => rfl); (case hr => first | (go_simp; done) | (go_simp; rfl)); intro gb128 hg w73 hbox hb; have n0_ := Aside0.mk (bst_ hb); have n1_ := Aside0.mk (hbox); have n2_ := Aside0.mk ((by rw [hg]; exact bsz_ : w.heap.size ≤ gb128)); have n3_ := n2_; clear HB; have HB := n0_; have BK128 := n1_; have GW128 := n2_; have GE128 := n3_; clear n0_ n1_ n2_ n3_; clear hb hbox hg; have hcz74_0 : w73.cell? ⟨gb128, 0, none⟩ = some (.int .i64 a0_0) := (blk_cell BK128.out 0).trans rfl; have hcz74_1 : w73.cell? ⟨gb128, 1, none⟩ = some (.int .i64 a0_1) := (blk_cell BK128.out 1).trans rfl; have hcz74_2 : w73.cell? ⟨gb128, 2, none⟩ = some (.int .i64 a0_2) := (blk_cell BK128.out 2).trans rfl; have hcz74_3 : w73.cell? ⟨gb128, 3, none⟩ = some (.slice A0_3 l0_3.length c0_3) := (blk_cell BK128.out 3).trans rfl; have hfz74_0 := blk_frozen BK128.out 0; have hfz74_1 := blk_frozen BK128.out 1; have hfz74_2 := blk_frozen BK128.out 2; have hfz74_3 := blk_frozen BK128.out 3) | (go_at_call 61; (with_reducible refine (code_long.calls a0_1 true _ A70.out).mono ?_); rintro e w' ⟨rfl, ⟨nd, rfl⟩⟩) | (go_at_call 61; (with_reducible refine (code_long.calls a0_2 t139 _ A72.out).mono ?_); rintro e w' ⟨rfl, ⟨nd, rfl⟩⟩))
                   go_ret
                   exact ⟨by first | rfl | (simp [errW_none, errW_some] <;> rfl) | (simp [*, errW_none, errW_some] <;> rfl), by repeat (with_reducible first | exact HB.out | apply below_alloc | apply pw_below_drewN | apply below_drew1 | refine below_set ?_ GE128.out)⟩
                 · replace c71 := Bool.eq_false_iff.mpr c71
                   subst c71
                   have H1 : (some false) = some r := by rw [if_neg (show ¬ (false = true) by decide)] at H; exact H
                   clear H
                   have H := H1
                   clear H1
                   obtain rfl := Option.some.inj H
                   go_enter Try.func38, Try.ntmps38
                   go_wp2_with (first | ((with_reducible refine gate_dst (N := 1) rfl ?_); refine box_event ?hg (N := 1) ?hd (cs := #[.int .i64 a0_0, .int .i64 a0_1, .int .i64 a0_2, .slice A0_3 l0_3.length c0_3]) (t := 37) ?hr ?_; (case hd => rfl); (case hg => rfl); (case hr => first | (go_simp; done) | (go_simp; rfl)); intro gb128 hg w75 hbox hb; have n0_ := Aside0.mk (bst_ hb); have n1_ := Aside0.mk (hbox); have n2_ := Aside0.mk ((by rw [hg]; exact bsz_ : w.heap.size ≤ gb128)); have n3_ := n2_; clear HB; have HB := n0_; have BK128 := n1_; have GW128 := n2_; have GE128 := n3_; clear n0_ n1_ n2_ n3_; clear hb hbox hg; have hcz76_0 : w75.cell? ⟨gb128, 0, none⟩ = some (.int .i64 a0_0) := (blk_cell BK128.out 0).trans rfl; have hcz76_1 : w75.cell? ⟨gb128, 1, none⟩ = some (.int .i64 a0_1) := (blk_cell BK128.out 1).trans rfl; have hcz76_2 : w75.cell? ⟨gb128, 2, none⟩ = some (.int .i64 a0_2) := (blk_cell BK128.out 2).trans rfl; have hcz76_3 : w75.cell? ⟨gb128, 3, none⟩ = some (.slice A0_3 l0_3.length c0_3) := (blk_cell BK128.out 3).trans rfl; have hfz76_0 := blk_frozen BK128.out 0; have hfz76_1 := blk_frozen BK128.out 1; have hfz76_2 := blk_frozen BK128.out 2; have hfz76_3 := blk_frozen BK128.out 3) | (go_at_call 61; (with_reducible refine (code_long.calls a0_1 false _ A70.out).mono ?_); rintro e w' ⟨rfl, ⟨nd, rfl⟩⟩))
                   go_ret
                   exact ⟨by first | rfl | (simp [errW_none, errW_some] <;> rfl) | (simp [*, errW_none, errW_some] <;> rfl), by repeat (with_reducible first | exact HB.out | apply below_alloc | apply pw_below_drewN | apply below_drew1 | refine below_set ?_ GE128.out)⟩
               · rw [if_neg c69] at H
                 have c69b0 : ((l0_3.length : Int) == 0) = false := beq_eq_false_iff_ne.mpr c69
                 have c69b1 : ((l0_3.length : Int) != 0) = true := bne_iff_ne.mpr c69
                 have c69b2 : ¬ (l0_3 = []) := fun h_ => c69 (by rw [h_]; rfl)
                 obtain rfl := Option.some.inj H
                 go_enter Try.func38, Try.ntmps38
                 go_wp2_with (first | ((with_reducible refine gate_dst (N := 1) rfl ?_); refine box_event ?hg (N := 1) ?hd (cs := #[.int .i64 a0_0, .int .i64 a0_1, .int .i64 a0_2, .slice A0_3 l0_3.length c0_3]) (t := 37) ?hr ?_; (case hd => rfl); (case hg => rfl); (case hr => first | (go_simp; done) | (go_simp; rfl)); intro gb128 hg w77 hbox hb; have n0_ := Aside0.mk (bst_ hb); have n1_ := Aside0.mk (hbox); have n2_ := Aside0.mk ((by rw [hg]; exact bsz_ : w.heap.size ≤ gb128)); have n3_ := n2_; clear HB; have HB := n0_; have BK128 := n1_; have GW128 := n2_; have GE128 := n3_; clear n0_ n1_ n2_ n3_; clear hb hbox hg; have hcz78_0 : w77.cell? ⟨gb128, 0, none⟩ = some (.int .i64 a0_0) := (blk_cell BK128.out 0).trans rfl; have hcz78_1 : w77.cell? ⟨gb128, 1, none⟩ = some (.int .i64 a0_1) := (blk_cell BK128.out 1).trans rfl; have hcz78_2 : w77.cell? ⟨gb128, 2, none⟩ = some (.int .i64 a0_2) := (blk_cell BK128.out 2).trans rfl; have hcz78_3 : w77.cell? ⟨gb128, 3, none⟩ = some (.slice A0_3 l0_3.length c0_3) := (blk_cell BK128.out 3).trans rfl; have hfz78_0 := blk_frozen BK128.out 0; have hfz78_1 := blk_frozen BK128.out 1; have hfz78_2 := blk_frozen BK128.out 2; have hfz78_3 := blk_frozen BK128.out 3))
                 go_ret
                 exact ⟨by first | rfl | (simp [errW_none, errW_some] <;> rfl) | (simp [*, errW_none, errW_some] <;> rfl), by repeat (with_reducible first | exact HB.out | apply below_alloc | apply pw_below_drewN | apply below_drew1 | refine below_set ?_ GE128.out)⟩
             · rw [if_neg c68] at H
               have c68b0 : (a0_0 == 7) = false := beq_eq_false_iff_ne.mpr c68
               have c68b1 : (a0_0 != 7) = true := bne_iff_ne.mpr c68
               obtain rfl := Option.some.inj H
               go_enter Try.func38, Try.ntmps38
               go_wp2_with (first | ((with_reducible refine gate_dst (N := 1) rfl ?_); refine box_event ?hg (N := 1) ?hd (cs := #[.int .i64 a0_0, .int .i64 a0_1, .int .i64 a0_2, .slice A0_3 l0_3.length c0_3]) (t := 37) ?hr ?_; (case hd => rfl); (case hg => rfl); (case hr => first | (go_simp; done) | (go_simp; rfl)); intro gb128 hg w79 hbox hb; have n0_ := Aside0.mk (bst_ hb); have n1_ := Aside0.mk (hbox); have n2_ := Aside0.mk ((by rw [hg]; exact bsz_ : w.heap.size ≤ gb128)); have n3_ := n2_; clear HB; have HB := n0_; have BK128 := n1_; have GW128 := n2_; have GE128 := n3_; clear n0_ n1_ n2_ n3_; clear hb hbox hg; have hcz80_0 : w79.cell? ⟨gb128, 0, none⟩ = some (.int .i64 a0_0) := (blk_cell BK128.out 0).trans rfl; have hcz80_1 : w79.cell? ⟨gb128, 1, none⟩ = some (.int .i64 a0_1) := (blk_cell BK128.out 1).trans rfl; have hcz80_2 : w79.cell? ⟨gb128, 2, none⟩ = some (.int .i64 a0_2) := (blk_cell BK128.out 2).trans rfl; have hcz80_3 : w79.cell? ⟨gb128, 3, none⟩ = some (.slice A0_3 l0_3.length c0_3) := (blk_cell BK128.out 3).trans rfl; have hfz80_0 := blk_frozen BK128.out 0; have hfz80_1 := blk_frozen BK128.out 1; have hfz80_2 := blk_frozen BK128.out 2; have hfz80_3 := blk_frozen BK128.out 3))
               go_ret
               exact ⟨by first | rfl | (simp [errW_none, errW_some] <;> rfl) | (simp [*, errW_none, errW_some] <;> rfl), by repeat (with_reducible first | exact HB.out | apply below_alloc | apply pw_below_drewN | apply below_drew1 | refine below_set ?_ GE128.out)⟩

/-! ### code_Check_1: function 37 -/
def code_Check_1.f (k : Nat) (a0_0 : Int) (a0_1 : Int) (a0_2 : Int) (l0_3 : List (S41)) : Option (Bool) := (code_may.f k a0_0 a0_1 a0_2 l0_3).bind fun t141 => (some (!t141))
theorem code_Check_1.mono : ∀ a0 a1 a2 a3 k, LeO (code_Check_1.f k a0 a1 a2 a3) (code_Check_1.f (k + 1) a0 a1 a2 a3) := by
 intro a0 a1 a2 a3 k
 unfold code_Check_1.f
 repeat' first
  | (with_reducible exact code_may.mono _ _ _ _ _)
  | (with_reducible exact LeO.refl _)
  | (with_reducible exact LeO.none _)
  | (with_reducible refine LeO.ite ?_ ?_)
  | (with_reducible refine LeO.bind ?_ (fun _ => ?_))
  | exact code_may.mono _ _ _ _ _
  | exact LeO.none _
  | refine LeO.ite ?_ ?_
  | refine LeO.bind ?_ (fun _ => ?_)
set_option maxHeartbeats 8000000 in
set_option maxRecDepth 100000 in
theorem code_Check_1.calls (k : Nat) (a0_0 : Int) (a0_1 : Int) (a0_2 : Int) (A0_3 : Option Addr) (c0_3 : Nat) (l0_3 : List (S41)) (r : Bool) (w : World) (hr0_3 : Kd.C k41 w A0_3 l0_3.length l0_3) (hc0_3 : l0_3.length ≤ c0_3) (h : code_Check_1.f k a0_0 a0_1 a0_2 l0_3 = some r) :
 Calls Try.prog 37 #[.agg #[.int .i64 a0_0, .int .i64 a0_1, .int .i64 a0_2, .slice A0_3 l0_3.length c0_3]] w fun e w' => e = .returned (.bool r) ∧ Below w.heap.size w w' := by
 have hu37 := Try.underlying37
 have HR0_3 := Aside0.mk hr0_3
 have HC0_3 := Aside0.mk hc0_3
 clear hr0_3 hc0_3
 have HB := Aside0.mk (Below.refl w.heap.size w)
 have H : ((code_may.f k a0_0 a0_1 a0_2 l0_3).bind fun t141 => (some (!t141))) = some r := h
 clear h
 replace H := Option.bind_eq_some_iff.mp H
 obtain ⟨t141, A20, H⟩ := H
 replace H : (some (!t141)) = some r := H
 have A2 := Aside0.mk A20
 clear A20
 obtain rfl := Option.some.inj H
 go_enter Try.func37, Try.ntmps37
 go_wp2_with (first | ((with_reducible refine gate_dst (N := 1) rfl ?_); refine box_event ?hg (N := 1) ?hd (cs := #[.int .i64 a0_0, .int .i64 a0_1, .int .i64 a0_2, .slice A0_3 l0_3.length c0_3]) (t := 37) ?hr ?_; (case hd => rfl); (case hg => rfl); (case hr => first | (go_simp; done) | (go_simp; rfl)); intro gb140 hg w3 hbox hb; have n0_ := Aside0.mk (bst_ hb); have n1_ := Aside0.mk (hbox); have n2_ := Aside0.mk ((by rw [hg]; exact bsz_ : w.heap.size ≤ gb140)); have n3_ := n2_; clear HB; have HB := n0_; have BK140 := n1_; have GW140 := n2_; have GE140 := n3_; clear n0_ n1_ n2_ n3_; clear hb hbox hg; have hcz4_0 : w3.cell? ⟨gb140, 0, none⟩ = some (.int .i64 a0_0) := (blk_cell BK140.out 0).trans rfl; have hcz4_1 : w3.cell? ⟨gb140, 1, none⟩ = some (.int .i64 a0_1) := (blk_cell BK140.out 1).trans rfl; have hcz4_2 : w3.cell? ⟨gb140, 2, none⟩ = some (.int .i64 a0_2) := (blk_cell BK140.out 2).trans rfl; have hcz4_3 : w3.cell? ⟨gb140, 3, none⟩ = some (.slice A0_3 l0_3.length c0_3) := (blk_cell BK140.out 3).trans rfl; have hfz4_0 := blk_frozen BK140.out 0; have hfz4_1 := blk_frozen BK140.out 1; have hfz4_2 := blk_frozen BK140.out 2; have hfz4_3 := blk_frozen BK140.out 3) | ((with_reducible refine gate_callee (f := 38) rfl ?_); refine goesL_ (some 4) rfl rfl Try.func38 (by kernel_rfl) rfl #[.agg #[.int .i64 a0_0, .int .i64 a0_1, .int .i64 a0_2, .slice A0_3 l0_3.length c0_3]] rfl (by (try simp only [List.map_toArray, List.map_cons, List.map_nil]); first | done | rfl) ?_; (with_reducible refine (code_may.calls k a0_0 a0_1 a0_2 _ _ l0_3 t141 _ ?side1 ?side2 A2.out).mono ?_); (case side1 => repeat (first | exact (Kd.C_below HR0_3.out HB.out) | with_reducible first | refine Kd.C_alloc ?_ _ | refine Kd.C_drewN ?_ _ | refine Kd.C_drew ?_)); (case side2 => exact HC0_3.out); rintro e w5 ⟨rfl, hb⟩; refine ⟨_, rfl, ?_⟩; have n0_ := Aside0.mk (blk_below (g := gb140) (o := .cells #[.int .i64 a0_0, .int .i64 a0_1, .int .i64 a0_2, .slice A0_3 l0_3.length c0_3] 37 (0, 0)) (by (with_reducible repeat (first | refine blk_drewN ?_ _ | refine blk_drew ?_ | refine blk_alloc ?_ _)); exact BK140.out) hb); have n1_ := Aside0.mk (below_step (by repeat (with_reducible first | exact HB.out | apply below_alloc | apply pw_below_drewN | apply below_drew1 | refine below_set ?_ GE140.out)) hb); clear BK140; clear HB; have BK140 := n0_; have HB := n1_; clear n0_ n1_; (try clear hb); (try clear hb2); (try clear hk); (try clear hi)))
 go_ret
 exact ⟨by first | rfl | (simp [errW_none, errW_some] <;> rfl) | (simp [*, errW_none, errW_some] <;> rfl), by repeat (with_reducible first | exact HB.out | apply below_alloc | apply pw_below_drewN | apply below_drew1 | refine below_set ?_ GE140.out)⟩

end Go.Proofs.Ytbcpnbmegaodbaa.Co
