-- PRINTED by print.py (a twelfth state) out of the translation. Not trusted: Lean checks it.
import Derived.Test.YtihcnbhcemkncaaOx0
import Derived.Test.YtihcnbhcemkncaaOx2
import Derived.Test.YtihcnbhcemkncaaOx3
import Derived.Test.YtihcnbhcemkncaaOx4
import Derived.Test.YtihcnbhcemkncaaOx5
namespace Go.Proofs.Ytihcnbhcemkncaa.O
open Go.Proofs.Ytihcnbhcemkncaa.Ho
open Go.RowKit Go.Proofs.YtihcnbhcemkncaaW.PrintWords Go.Proofs.YtihcnbhcemkncaaW.PrintLast Go.Proofs.YtihcnbhcemkncaaW.PrintMore
attribute [local go_sem] max2_int min2_int max_two min_two max_three min_three max_four min_four   -- for this text's walks alone
set_option linter.unusedVariables false
set_option linter.unusedSimpArgs false

/-! ### heap_Get: function 28 -/
def heap_Get.f (l0 : List (S66)) (a1 : Int) : Option (Int × Int) := (heap_Right.f l0).bind fun t182 => (if t182 = true then ((heap_there.f l0 a1).bind fun t183 => (if t183 = true then (if 0 ≤ a1 then (if a1 < (l0.length : Int) then (some ((rd_T66 l0 a1).f1, 0)) else (none)) else (none)) else (some (0, 3)))) else (some (0, 1)))
set_option maxHeartbeats 8000000 in
set_option maxRecDepth 100000 in
theorem heap_Get.calls (A0 : Option Addr) (c0 : Nat) (l0 : List (S66)) (a1 : Int) (r1 : Int) (r2 : Int) (w : World) (hr0 : Kd.C k66 w A0 l0.length l0) (hc0 : l0.length ≤ c0) (h : heap_Get.f l0 a1 = some (r1, r2)) :
 Calls Try.prog 28 #[.slice A0 l0.length c0, .int .i64 a1] w fun e w' => e = .returned (.tuple #[.int .i64 r1, .int .i64 r2]) ∧ Below w.heap.size w w' := by
 have HR0 := Aside0.mk hr0
 have HC0 := Aside0.mk hc0
 clear hr0 hc0
 have HB := Aside0.mk (Below.refl w.heap.size w)
 have H : ((heap_Right.f l0).bind fun t182 => (if t182 = true then ((heap_there.f l0 a1).bind fun t183 => (if t183 = true then (if 0 ≤ a1 then (if a1 < (l0.length : Int) then (some ((rd_T66 l0 a1).f1, 0)) else (none)) else (none)) else (some (0, 3)))) else (some (0, 1)))) = some (r1, r2) := h
 clear h
 replace H := Option.bind_eq_some_iff.mp H
 obtain ⟨t182, A30, H⟩ := H
 replace H : (if t182 = true then ((heap_there.f l0 a1).bind fun t183 => (if t183 = true then (if 0 ≤ a1 then (if a1 < (l0.length : Int) then (some ((rd_T66 l0 a1).f1, 0)) else (none)) else (none)) else (some (0, 3)))) else (some (0, 1))) = some (r1, r2) := H
 have A3 := Aside0.mk A30
 clear A30
 by_cases c4 : t182 = true
 · subst c4
   have H1 : ((heap_there.f l0 a1).bind fun t183 => (if t183 = true then (if 0 ≤ a1 then (if a1 < (l0.length : Int) then (some ((rd_T66 l0 a1).f1, 0)) else (none)) else (none)) else (some (0, 3)))) = some (r1, r2) := by rw [if_pos rfl] at H; exact H
   clear H
   have H := H1
   clear H1
   replace H := Option.bind_eq_some_iff.mp H
   obtain ⟨t183, A50, H⟩ := H
   replace H : (if t183 = true then (if 0 ≤ a1 then (if a1 < (l0.length : Int) then (some ((rd_T66 l0 a1).f1, 0)) else (none)) else (none)) else (some (0, 3))) = some (r1, r2) := H
   have A5 := Aside0.mk A50
   clear A50
   by_cases c6 : t183 = true
   · subst c6
     have H1 : (if 0 ≤ a1 then (if a1 < (l0.length : Int) then (some ((rd_T66 l0 a1).f1, 0)) else (none)) else (none)) = some (r1, r2) := by rw [if_pos rfl] at H; exact H
     clear H
     have H := H1
     clear H1
     by_cases c7 : 0 ≤ a1
     · rw [if_pos c7] at H
       have c7b0 : decide (0 ≤ a1) = true := decide_eq_true c7
       clear c7
       by_cases c8 : a1 < (l0.length : Int)
       · rw [if_pos c8] at H
         have c8b0 : decide (a1 < (l0.length : Int)) = true := decide_eq_true c8
         clear c8
         simp only [Option.some.injEq, Prod.mk.injEq] at H
         obtain ⟨rfl, rfl⟩ := H
         go_enter Try.func28, Try.ntmps28
         go_wp2_with (first | ((with_reducible refine gate_callee (f := 45) rfl ?_); refine goesL_ (some 8) rfl rfl Try.func45 (by kernel_rfl) rfl #[.slice A0 l0.length c0] rfl (by (try simp only [List.map_toArray, List.map_cons, List.map_nil]); first | done | rfl) ?_; (with_reducible refine (heap_Right.calls _ _ l0 true _ ?side1 ?side2 A3.out).mono ?_); (case side1 => repeat (first | exact HR0.out | with_reducible first | refine Kd.C_alloc ?_ _ | refine Kd.C_drewN ?_ _ | refine Kd.C_drew ?_)); (case side2 => exact HC0.out); rintro e w9 ⟨rfl, hb⟩; refine ⟨_, rfl, ?_⟩; have n0_ := Aside0.mk (bst_ hb); clear HB; have HB := n0_; clear n0_; (try clear hb); (try clear hb2); (try clear hk); (try clear hi)) | ((with_reducible refine gate_callee (f := 56) rfl ?_); refine goesL_ (some 13) rfl rfl Try.func56 (by kernel_rfl) rfl #[.slice A0 l0.length c0, .int .i64 a1] rfl (by (try simp only [List.map_toArray, List.map_cons, List.map_nil]); first | done | rfl) ?_; (with_reducible refine (heap_there.calls _ _ l0 a1 true _ ?side1 ?side2 A5.out).mono ?_); (case side1 => repeat (first | exact (Kd.C_below HR0.out HB.out) | with_reducible first | refine Kd.C_alloc ?_ _ | refine Kd.C_drewN ?_ _ | refine Kd.C_drew ?_)); (case side2 => exact HC0.out); rintro e w' ⟨rfl, ⟨nd, rfl⟩⟩; refine ⟨_, rfl, ?_⟩; have p184 : 0 ≤ (a1 : Int) := of_decide_eq_true (by first | (with_reducible assumption) | assumption); have q184 : a1 < (l0.length : Int) := of_decide_eq_true (by first | (with_reducible assumption) | assumption); obtain ⟨ad184, e184, hx184_0, hx184_1⟩ := at_T66 HR0.out a1 p184 q184; cases e184; replace hx184_0 := (HB.out.cell (World.block_lt_of_cell? w _ hx184_0)).trans hx184_0; replace hx184_1 := (HB.out.cell (World.block_lt_of_cell? w _ hx184_1)).trans hx184_1; replace p184 := eq_true p184; replace q184 := eq_true q184))
         go_ret2
         exact ⟨by first | rfl | (simp [errW_none, errW_some] <;> rfl) | (simp [*, errW_none, errW_some] <;> rfl), by repeat (with_reducible first | exact HB.out | apply below_alloc | apply pw_below_drewN | apply below_drew1)⟩
       · rw [if_neg c8] at H
         exact absurd H (by simp)
     · rw [if_neg c7] at H
       exact absurd H (by simp)
   · replace c6 := Bool.eq_false_iff.mpr c6
     subst c6
     have H1 : (some (0, 3)) = some (r1, r2) := by rw [if_neg (show ¬ (false = true) by decide)] at H; exact H
     clear H
     have H := H1
     clear H1
     simp only [Option.some.injEq, Prod.mk.injEq] at H
     obtain ⟨rfl, rfl⟩ := H
     go_enter Try.func28, Try.ntmps28
     go_wp2_with (first | ((with_reducible refine gate_callee (f := 45) rfl ?_); refine goesL_ (some 8) rfl rfl Try.func45 (by kernel_rfl) rfl #[.slice A0 l0.length c0] rfl (by (try simp only [List.map_toArray, List.map_cons, List.map_nil]); first | done | rfl) ?_; (with_reducible refine (heap_Right.calls _ _ l0 true _ ?side1 ?side2 A3.out).mono ?_); (case side1 => repeat (first | exact HR0.out | with_reducible first | refine Kd.C_alloc ?_ _ | refine Kd.C_drewN ?_ _ | refine Kd.C_drew ?_)); (case side2 => exact HC0.out); rintro e w10 ⟨rfl, hb⟩; refine ⟨_, rfl, ?_⟩; have n0_ := Aside0.mk (bst_ hb); clear HB; have HB := n0_; clear n0_; (try clear hb); (try clear hb2); (try clear hk); (try clear hi)) | ((with_reducible refine gate_callee (f := 56) rfl ?_); refine goesL_ (some 13) rfl rfl Try.func56 (by kernel_rfl) rfl #[.slice A0 l0.length c0, .int .i64 a1] rfl (by (try simp only [List.map_toArray, List.map_cons, List.map_nil]); first | done | rfl) ?_; (with_reducible refine (heap_there.calls _ _ l0 a1 false _ ?side1 ?side2 A5.out).mono ?_); (case side1 => repeat (first | exact (Kd.C_below HR0.out HB.out) | with_reducible first | refine Kd.C_alloc ?_ _ | refine Kd.C_drewN ?_ _ | refine Kd.C_drew ?_)); (case side2 => exact HC0.out); rintro e w' ⟨rfl, ⟨nd, rfl⟩⟩; refine ⟨_, rfl, ?_⟩))
     go_ret2
     exact ⟨by first | rfl | (simp [errW_none, errW_some] <;> rfl) | (simp [*, errW_none, errW_some] <;> rfl), by repeat (with_reducible first | exact HB.out | apply below_alloc | apply pw_below_drewN | apply below_drew1)⟩
 · replace c4 := Bool.eq_false_iff.mpr c4
   subst c4
   have H1 : (some (0, 1)) = some (r1, r2) := by rw [if_neg (show ¬ (false = true) by decide)] at H; exact H
   clear H
   have H := H1
   clear H1
   simp only [Option.some.injEq, Prod.mk.injEq] at H
   obtain ⟨rfl, rfl⟩ := H
   go_enter Try.func28, Try.ntmps28
   go_wp2_with (first | ((with_reducible refine gate_callee (f := 45) rfl ?_); refine goesL_ (some 8) rfl rfl Try.func45 (by kernel_rfl) rfl #[.slice A0 l0.length c0] rfl (by (try simp only [List.map_toArray, List.map_cons, List.map_nil]); first | done | rfl) ?_; (with_reducible refine (heap_Right.calls _ _ l0 false _ ?side1 ?side2 A3.out).mono ?_); (case side1 => repeat (first | exact HR0.out | with_reducible first | refine Kd.C_alloc ?_ _ | refine Kd.C_drewN ?_ _ | refine Kd.C_drew ?_)); (case side2 => exact HC0.out); rintro e w11 ⟨rfl, hb⟩; refine ⟨_, rfl, ?_⟩; have n0_ := Aside0.mk (bst_ hb); clear HB; have HB := n0_; clear n0_; (try clear hb); (try clear hb2); (try clear hk); (try clear hi)))
   go_ret2
   exact ⟨by first | rfl | (simp [errW_none, errW_some] <;> rfl) | (simp [*, errW_none, errW_some] <;> rfl), by repeat (with_reducible first | exact HB.out | apply below_alloc | apply pw_below_drewN | apply below_drew1)⟩

/-! ### reads_Same_1: function 88 -/
def reads_Same_1.f (a0_0 : Int) (a0_1 : Int) (a0_2 : Int) (l1 : List (S66)) : Option (Bool) := (heap_Get.f l1 a0_0).bind fun bt186 => (if bt186.2 = 0 then (some (bt186.1 != a0_2)) else (some true))
set_option maxHeartbeats 8000000 in
set_option maxRecDepth 100000 in
theorem reads_Same_1.calls (a0_0 : Int) (a0_1 : Int) (a0_2 : Int) (g1 : Nat) (A1 : Option Addr) (c1 : Nat) (l1 : List (S66)) (r : Bool) (w : World) (hr1 : Kd.C k66 w A1 l1.length l1) (hc1 : l1.length ≤ c1) (hb1 : w.heap[g1]? = some (.cells #[.slice A1 l1.length c1] 26 (0, 0))) (h : reads_Same_1.f a0_0 a0_1 a0_2 l1 = some r) :
 Calls Try.prog 88 #[.agg #[.int .i64 a0_0, .int .i64 a0_1, .int .i64 a0_2], .pointer (some ⟨g1, 0, none⟩)] w fun e w' => e = .returned (.bool r) ∧ Below w.heap.size w w' := by
 have hu84 := Try.underlying84
 have HR1 := Aside0.mk hr1
 have HC1 := Aside0.mk hc1
 clear hr1 hc1
 have BK1 := Aside0.mk hb1
 clear hb1
 have HB := Aside0.mk (Below.refl w.heap.size w)
 have H : ((heap_Get.f l1 a0_0).bind fun bt186 => (if bt186.2 = 0 then (some (bt186.1 != a0_2)) else (some true))) = some r := h
 clear h
 replace H := Option.bind_eq_some_iff.mp H
 obtain ⟨⟨t186, t187⟩, A30, H⟩ := H
 replace H : (if t187 = 0 then (some (t186 != a0_2)) else (some true)) = some r := H
 have A3 := Aside0.mk A30
 clear A30
 by_cases c4 : t187 = 0
 · rw [if_pos c4] at H
   have c4b0 : (t187 == 0) = true := beq_iff_eq.mpr c4
   have c4b1 : (t187 != 0) = false := bne_eq_false_iff_eq.mpr c4
   clear c4
   obtain rfl := Option.some.inj H
   go_enter Try.func88, Try.ntmps88
   go_wp2_with (first | ((with_reducible refine gate_dst (N := 2) rfl ?_); refine box_event ?hg (N := 2) ?hd (cs := #[.int .i64 a0_0, .int .i64 a0_1, .int .i64 a0_2]) (t := 84) ?hr ?_; (case hd => rfl); (case hg => rfl); (case hr => first | (go_simp; done) | (go_simp; rfl)); intro gb185 hg w5 hbox hb; have n0_ := Aside0.mk (blk_below (g := g1) (o := .cells #[.slice A1 l1.length c1] 26 (0, 0)) (by (with_reducible repeat (first | refine blk_drewN ?_ _ | refine blk_drew ?_ | refine blk_alloc ?_ _)); exact BK1.out) hb); have n1_ := Aside0.mk (below_step (by repeat (with_reducible first | exact HB.out | apply below_alloc | apply pw_below_drewN | apply below_drew1 | refine below_set ?_ GE1.out)) hb); have n2_ := Aside0.mk (hbox); have n3_ := Aside0.mk ((by rw [hg]; exact (below_size (by repeat (with_reducible first | exact HB.out | apply below_alloc | apply pw_below_drewN | apply below_drew1 | refine below_set ?_ GE1.out))) : w.heap.size ≤ gb185)); have n4_ := n3_; have n5_ := Aside0.mk ((by rw [hg]; exact Nat.ne_of_lt (blk_lt (g := g1) (o := .cells #[.slice A1 l1.length c1] 26 (0, 0)) (by (with_reducible repeat (first | refine blk_drewN ?_ _ | refine blk_drew ?_ | refine blk_alloc ?_ _)); exact BK1.out)) : g1 ≠ gb185)); have n6_ := Aside0.mk ((by rw [hg]; exact Nat.ne_of_gt (blk_lt (g := g1) (o := .cells #[.slice A1 l1.length c1] 26 (0, 0)) (by (with_reducible repeat (first | refine blk_drewN ?_ _ | refine blk_drew ?_ | refine blk_alloc ?_ _)); exact BK1.out)) : gb185 ≠ g1)); clear BK1; clear HB; have BK1 := n0_; have HB := n1_; have BK185 := n2_; have GW185 := n3_; have GE185 := n4_; have NB1_185 := n5_; have NB185_1 := n6_; clear n0_ n1_ n2_ n3_ n4_ n5_ n6_; clear hb hbox hg; have hnb6 := NB1_185.out; have hnc6 := NB185_1.out; have hcz7_0 : w5.cell? ⟨g1, 0, none⟩ = some (.slice A1 l1.length c1) := (blk_cell BK1.out 0).trans rfl; have hfz7_0 := blk_frozen BK1.out 0; have hcz8_0 : w5.cell? ⟨gb185, 0, none⟩ = some (.int .i64 a0_0) := (blk_cell BK185.out 0).trans rfl; have hcz8_1 : w5.cell? ⟨gb185, 1, none⟩ = some (.int .i64 a0_1) := (blk_cell BK185.out 1).trans rfl; have hcz8_2 : w5.cell? ⟨gb185, 2, none⟩ = some (.int .i64 a0_2) := (blk_cell BK185.out 2).trans rfl; have hfz8_0 := blk_frozen BK185.out 0; have hfz8_1 := blk_frozen BK185.out 1; have hfz8_2 := blk_frozen BK185.out 2) | ((with_reducible refine gate_callee (f := 28) rfl ?_); refine goesL_ (some 10) rfl rfl Try.func28 (by kernel_rfl) rfl #[.slice A1 l1.length c1, .int .i64 a0_0] rfl (by (try simp only [List.map_toArray, List.map_cons, List.map_nil]); first | done | rfl) ?_; (with_reducible refine (heap_Get.calls _ _ l1 a0_0 t186 t187 _ ?side1 ?side2 A3.out).mono ?_); (case side1 => repeat (first | exact (Kd.C_below HR1.out HB.out) | with_reducible first | refine Kd.C_alloc ?_ _ | refine Kd.C_drewN ?_ _ | refine Kd.C_drew ?_)); (case side2 => exact HC1.out); rintro e w9 ⟨rfl, hb⟩; refine ⟨_, rfl, ?_⟩; have n0_ := Aside0.mk (blk_below (g := g1) (o := .cells #[.slice A1 l1.length c1] 26 (0, 0)) (by (with_reducible repeat (first | refine blk_drewN ?_ _ | refine blk_drew ?_ | refine blk_alloc ?_ _)); exact BK1.out) hb); have n1_ := Aside0.mk (blk_below (g := gb185) (o := .cells #[.int .i64 a0_0, .int .i64 a0_1, .int .i64 a0_2] 84 (0, 0)) (by (with_reducible repeat (first | refine blk_drewN ?_ _ | refine blk_drew ?_ | refine blk_alloc ?_ _)); exact BK185.out) hb); have n2_ := Aside0.mk (below_step (by repeat (first | (with_reducible first | exact HB.out | apply below_alloc | apply pw_below_drewN | apply below_drew1 | refine below_set ?_ GE1.out | refine below_set ?_ GE185.out) | exact HB.out)) hb); clear BK1; clear BK185; clear HB; have BK1 := n0_; have BK185 := n1_; have HB := n2_; clear n0_ n1_ n2_; (try clear hb); (try clear hb2); (try clear hk); (try clear hi); have hcz10_0 : w9.cell? ⟨gb185, 0, none⟩ = some (.int .i64 a0_0) := (blk_cell BK185.out 0).trans rfl; have hcz10_1 : w9.cell? ⟨gb185, 1, none⟩ = some (.int .i64 a0_1) := (blk_cell BK185.out 1).trans rfl; have hcz10_2 : w9.cell? ⟨gb185, 2, none⟩ = some (.int .i64 a0_2) := (blk_cell BK185.out 2).trans rfl; have hfz10_0 := blk_frozen BK185.out 0; have hfz10_1 := blk_frozen BK185.out 1; have hfz10_2 := blk_frozen BK185.out 2))
   go_ret
   exact ⟨by first | rfl | (simp [errW_none, errW_some] <;> rfl) | (simp [*, errW_none, errW_some] <;> rfl), by repeat (first | (with_reducible first | exact HB.out | apply below_alloc | apply pw_below_drewN | apply below_drew1 | refine below_set ?_ GE1.out | refine below_set ?_ GE185.out) | exact HB.out)⟩
 · rw [if_neg c4] at H
   have c4b0 : (t187 == 0) = false := beq_eq_false_iff_ne.mpr c4
   have c4b1 : (t187 != 0) = true := bne_iff_ne.mpr c4
   obtain rfl := Option.some.inj H
   go_enter Try.func88, Try.ntmps88
   go_wp2_with (first | ((with_reducible refine gate_dst (N := 2) rfl ?_); refine box_event ?hg (N := 2) ?hd (cs := #[.int .i64 a0_0, .int .i64 a0_1, .int .i64 a0_2]) (t := 84) ?hr ?_; (case hd => rfl); (case hg => rfl); (case hr => first | (go_simp; done) | (go_simp; rfl)); intro gb185 hg w11 hbox hb; have n0_ := Aside0.mk (blk_below (g := g1) (o := .cells #[.slice A1 l1.length c1] 26 (0, 0)) (by (with_reducible repeat (first | refine blk_drewN ?_ _ | refine blk_drew ?_ | refine blk_alloc ?_ _)); exact BK1.out) hb); have n1_ := Aside0.mk (below_step (by repeat (with_reducible first | exact HB.out | apply below_alloc | apply pw_below_drewN | apply below_drew1 | refine below_set ?_ GE1.out)) hb); have n2_ := Aside0.mk (hbox); have n3_ := Aside0.mk ((by rw [hg]; exact (below_size (by repeat (with_reducible first | exact HB.out | apply below_alloc | apply pw_below_drewN | apply below_drew1 | refine below_set ?_ GE1.out))) : w.heap.size ≤ gb185)); have n4_ := n3_; have n5_ := Aside0.mk ((by rw [hg]; exact Nat.ne_of_lt (blk_lt (g := g1) (o := .cells #[.slice A1 l1.length c1] 26 (0, 0)) (by (with_reducible repeat (first | refine blk_drewN ?_ _ | refine blk_drew ?_ | refine blk_alloc ?_ _)); exact BK1.out)) : g1 ≠ gb185)); have n6_ := Aside0.mk ((by rw [hg]; exact Nat.ne_of_gt (blk_lt (g := g1) (o := .cells #[.slice A1 l1.length c1] 26 (0, 0)) (by (with_reducible repeat (first | refine blk_drewN ?_ _ | refine blk_drew ?_ | refine blk_alloc ?_ _)); exact BK1.out)) : gb185 ≠ g1)); clear BK1; clear HB; have BK1 := n0_; have HB := n1_; have BK185 := n2_; have GW185 := n3_; have GE185 := n4_; have NB1_185 := n5_; have NB185_1 := n6_; clear n0_ n1_ n2_ n3_ n4_ n5_ n6_; clear hb hbox hg; have hnb12 := NB1_185.out; have hnc12 := NB185_1.out; have hcz13_0 : w11.cell? ⟨g1, 0, none⟩ = some (.slice A1 l1.length c1) := (blk_cell BK1.out 0).trans rfl; have hfz13_0 := blk_frozen BK1.out 0; have hcz14_0 : w11.cell? ⟨gb185, 0, none⟩ = some (.int .i64 a0_0) := (blk_cell BK185.out 0).trans rfl; have hcz14_1 : w11.cell? ⟨gb185, 1, none⟩ = some (.int .i64 a0_1) := (blk_cell BK185.out 1).trans rfl; have hcz14_2 : w11.cell? ⟨gb185, 2, none⟩ = some (.int .i64 a0_2) := (blk_cell BK185.out 2).trans rfl; have hfz14_0 := blk_frozen BK185.out 0; have hfz14_1 := blk_frozen BK185.out 1; have hfz14_2 := blk_frozen BK185.out 2) | ((with_reducible refine gate_callee (f := 28) rfl ?_); refine goesL_ (some 10) rfl rfl Try.func28 (by kernel_rfl) rfl #[.slice A1 l1.length c1, .int .i64 a0_0] rfl (by (try simp only [List.map_toArray, List.map_cons, List.map_nil]); first | done | rfl) ?_; (with_reducible refine (heap_Get.calls _ _ l1 a0_0 t186 t187 _ ?side1 ?side2 A3.out).mono ?_); (case side1 => repeat (first | exact (Kd.C_below HR1.out HB.out) | with_reducible first | refine Kd.C_alloc ?_ _ | refine Kd.C_drewN ?_ _ | refine Kd.C_drew ?_)); (case side2 => exact HC1.out); rintro e w15 ⟨rfl, hb⟩; refine ⟨_, rfl, ?_⟩; have n0_ := Aside0.mk (blk_below (g := g1) (o := .cells #[.slice A1 l1.length c1] 26 (0, 0)) (by (with_reducible repeat (first | refine blk_drewN ?_ _ | refine blk_drew ?_ | refine blk_alloc ?_ _)); exact BK1.out) hb); have n1_ := Aside0.mk (blk_below (g := gb185) (o := .cells #[.int .i64 a0_0, .int .i64 a0_1, .int .i64 a0_2] 84 (0, 0)) (by (with_reducible repeat (first | refine blk_drewN ?_ _ | refine blk_drew ?_ | refine blk_alloc ?_ _)); exact BK185.out) hb); have n2_ := Aside0.mk (below_step (by repeat (first | (with_reducible first | exact HB.out | apply below_alloc | apply pw_below_drewN | apply below_drew1 | refine below_set ?_ GE1.out | refine below_set ?_ GE185.out) | exact HB.out)) hb); clear BK1; clear BK185; clear HB; have BK1 := n0_; have BK185 := n1_; have HB := n2_; clear n0_ n1_ n2_; (try clear hb); (try clear hb2); (try clear hk); (try clear hi)))
   go_ret
   exact ⟨by first | rfl | (simp [errW_none, errW_some] <;> rfl) | (simp [*, errW_none, errW_some] <;> rfl), by repeat (first | (with_reducible first | exact HB.out | apply below_alloc | apply pw_below_drewN | apply below_drew1 | refine below_set ?_ GE1.out | refine below_set ?_ GE185.out) | exact HB.out)⟩

/-! ### ho87: slices.ContainsFunc, function 87 -/
set_option maxHeartbeats 2000000 in
theorem ho87 (p : S84 → Option Bool) (g : Nat) (la lb : Array Value) (eg : ∀ args w, (callFunc g args).run Try.prog w = .ok (.enter g args) w) (A0 : Option Addr) (c0 : Nat) (l0 : List S84) (r : Bool) (w : World)
 (hr0 : Kd.C k84 w A0 l0.length l0)
 (hp : ∀ (W : World) (x : S84) (b : Bool), Below w.heap.size w W → p x = some b → Calls Try.prog g (la ++ #[.agg #[.int .i64 x.f0, .int .i64 x.f1, .int .i64 x.f2]] ++ lb) W fun e W' => e = .returned (.bool b) ∧ Below W.heap.size W W')
 (h : anyF p l0 = some r) :
 Calls Try.prog 87 #[.slice A0 l0.length c0, .func (.func g) la lb] w fun e w' => e = .returned (.bool r) ∧ Below w.heap.size w w' := by
 obtain ⟨i, hi, hd⟩ := any_idx l0 0 r (by decide) h
 have hc := Aside0.mk (ho91 p g la lb eg A0 c0 l0 i w hr0 hp hi)
 have HD := Aside0.mk hd
 clear hd hi h hp hr0 eg
 go_enter Try.func87, Try.ntmps87
 go_wp2_with (go_at_call 91; refine hc.out.mono ?_; rintro e w' ⟨rfl, hb⟩)
 go_ret
 exact ⟨by first | rfl | (rw [← HD.out]; rfl) | simp [HD.out], hb⟩

/-! ### any_at_reads_Same_1: function 87 at the function value 88 -/
def any_at_reads_Same_1.f (l0 : List (S84)) (l1 : List (S66)) : Option (Bool) := anyF (fun x => reads_Same_1.f  x.f0 x.f1 x.f2 l1) l0
theorem any_at_reads_Same_1.calls (A0 : Option Addr) (c0 : Nat) (l0 : List (S84)) (g1 : Nat) (A1 : Option Addr) (c1 : Nat) (l1 : List (S66)) (r : Bool) (w : World) (hr0 : Kd.C k84 w A0 l0.length l0) (hc0 : l0.length ≤ c0) (hr1 : Kd.C k66 w A1 l1.length l1) (hc1 : l1.length ≤ c1) (hb1 : w.heap[g1]? = some (.cells #[.slice A1 l1.length c1] 26 (0, 0))) (h : any_at_reads_Same_1.f l0 l1 = some r) :
 Calls Try.prog 87 #[.slice A0 l0.length c0, .func (.func 88) #[] #[.pointer (some ⟨g1, 0, none⟩)]] w fun e w' => e = .returned (.bool r) ∧ Below w.heap.size w w' :=
 ho87 (fun x => reads_Same_1.f  x.f0 x.f1 x.f2 l1) 88 #[] #[.pointer (some ⟨g1, 0, none⟩)] (enters_of Try.func88 (by kernel_rfl) rfl) A0 c0 l0 r w hr0 (fun W x b hW_ hx => by
  show Calls Try.prog 88 #[.agg #[.int .i64 x.f0, .int .i64 x.f1, .int .i64 x.f2], .pointer (some ⟨g1, 0, none⟩)] W _
  exact (reads_Same_1.calls  x.f0 x.f1 x.f2 g1 A1 c1 l1 b W (Kd.C_below hr1 hW_) hc1 (hW_.block g1 (by have := (Array.getElem?_eq_some_iff.1 hb1).1; exact this) ▸ hb1) hx).mono (fun e W' ⟨he, hd⟩ => ⟨he, hd⟩)) h

/-! ### reads_Same: function 77 -/
def reads_Same.f (k : Nat) (l0 : List (S84)) (l1 : List (S66)) : Option (Bool) := (reads_Right.f k l0).bind fun t189 => (if t189 = true then ((heap_Right.f l1).bind fun t190 => (if t190 = true then ((any_at_reads_Same_1.f l0 l1).bind fun t191 => (some (!t191))) else (some false))) else (some false))
theorem reads_Same.mono : ∀ a0 a1 k, LeO (reads_Same.f k a0 a1) (reads_Same.f (k + 1) a0 a1) := by
 intro a0 a1 k
 unfold reads_Same.f
 repeat' first
  | (with_reducible exact reads_Right.mono _ _)
  | (with_reducible exact LeO.refl _)
  | (with_reducible exact LeO.none _)
  | (with_reducible refine LeO.ite ?_ ?_)
  | (with_reducible refine LeO.bind ?_ (fun _ => ?_))
  | exact reads_Right.mono _ _
  | exact LeO.none _
  | refine LeO.ite ?_ ?_
  | refine LeO.bind ?_ (fun _ => ?_)
set_option maxHeartbeats 8000000 in
set_option maxRecDepth 100000 in
theorem reads_Same.calls (k : Nat) (A0 : Option Addr) (c0 : Nat) (l0 : List (S84)) (A1 : Option Addr) (c1 : Nat) (l1 : List (S66)) (r : Bool) (w : World) (hr0 : Kd.C k84 w A0 l0.length l0) (hc0 : l0.length ≤ c0) (hr1 : Kd.C k66 w A1 l1.length l1) (hc1 : l1.length ≤ c1) (h : reads_Same.f k l0 l1 = some r) :
 Calls Try.prog 77 #[.slice A0 l0.length c0, .slice A1 l1.length c1] w fun e w' => e = .returned (.bool r) ∧ Below w.heap.size w w' := by
 have HR0 := Aside0.mk hr0
 have HC0 := Aside0.mk hc0
 clear hr0 hc0
 have HR1 := Aside0.mk hr1
 have HC1 := Aside0.mk hc1
 clear hr1 hc1
 have HB := Aside0.mk (Below.refl w.heap.size w)
 have H : ((reads_Right.f k l0).bind fun t189 => (if t189 = true then ((heap_Right.f l1).bind fun t190 => (if t190 = true then ((any_at_reads_Same_1.f l0 l1).bind fun t191 => (some (!t191))) else (some false))) else (some false))) = some r := h
 clear h
 replace H := Option.bind_eq_some_iff.mp H
 obtain ⟨t189, A30, H⟩ := H
 replace H : (if t189 = true then ((heap_Right.f l1).bind fun t190 => (if t190 = true then ((any_at_reads_Same_1.f l0 l1).bind fun t191 => (some (!t191))) else (some false))) else (some false)) = some r := H
 have A3 := Aside0.mk A30
 clear A30
 by_cases c4 : t189 = true
 · subst c4
   have H1 : ((heap_Right.f l1).bind fun t190 => (if t190 = true then ((any_at_reads_Same_1.f l0 l1).bind fun t191 => (some (!t191))) else (some false))) = some r := by rw [if_pos rfl] at H; exact H
   clear H
   have H := H1
   clear H1
   replace H := Option.bind_eq_some_iff.mp H
   obtain ⟨t190, A50, H⟩ := H
   replace H : (if t190 = true then ((any_at_reads_Same_1.f l0 l1).bind fun t191 => (some (!t191))) else (some false)) = some r := H
   have A5 := Aside0.mk A50
   clear A50
   by_cases c6 : t190 = true
   · subst c6
     have H1 : ((any_at_reads_Same_1.f l0 l1).bind fun t191 => (some (!t191))) = some r := by rw [if_pos rfl] at H; exact H
     clear H
     have H := H1
     clear H1
     replace H := Option.bind_eq_some_iff.mp H
     obtain ⟨t191, A70, H⟩ := H
     replace H : (some (!t191)) = some r := H
     have A7 := Aside0.mk A70
     clear A70
     obtain rfl := Option.some.inj H
     go_enter Try.func77, Try.ntmps77
     go_wp2_with (first | ((with_reducible refine gate_dst (N := 3) rfl ?_); refine box_event ?hg (N := 3) ?hd (cs := #[.slice A1 l1.length c1]) (t := 26) ?hr ?_; (case hd => rfl); (case hg => rfl); (case hr => first | (go_simp; done) | (go_simp; rfl)); intro gb188 hg w8 hbox hb; have n0_ := Aside0.mk (bst_ hb); have n1_ := Aside0.mk (hbox); have n2_ := Aside0.mk ((by rw [hg]; exact bsz_ : w.heap.size ≤ gb188)); have n3_ := n2_; clear HB; have HB := n0_; have BK188 := n1_; have GW188 := n2_; have GE188 := n3_; clear n0_ n1_ n2_ n3_; clear hb hbox hg) | ((with_reducible refine gate_callee (f := 86) rfl ?_); refine goesL_ (some 6) rfl rfl Try.func86 (by kernel_rfl) rfl #[.slice A0 l0.length c0] rfl (by (try simp only [List.map_toArray, List.map_cons, List.map_nil]); first | done | rfl) ?_; (with_reducible refine (reads_Right.calls k _ _ l0 true _ ?side1 ?side2 A3.out).mono ?_); (case side1 => repeat (first | exact (Kd.C_below HR0.out HB.out) | with_reducible first | refine Kd.C_alloc ?_ _ | refine Kd.C_drewN ?_ _ | refine Kd.C_drew ?_)); (case side2 => exact HC0.out); rintro e w9 ⟨rfl, hb⟩; refine ⟨_, rfl, ?_⟩; have n0_ := Aside0.mk (blk_below (g := gb188) (o := .cells #[.slice A1 l1.length c1] 26 (0, 0)) (by (with_reducible repeat (first | refine blk_drewN ?_ _ | refine blk_drew ?_ | refine blk_alloc ?_ _)); exact BK188.out) hb); have n1_ := Aside0.mk (below_step (by repeat (with_reducible first | exact HB.out | apply below_alloc | apply pw_below_drewN | apply below_drew1 | refine below_set ?_ GE188.out)) hb); clear BK188; clear HB; have BK188 := n0_; have HB := n1_; clear n0_ n1_; (try clear hb); (try clear hb2); (try clear hk); (try clear hi); have hcz10_0 : w9.cell? ⟨gb188, 0, none⟩ = some (.slice A1 l1.length c1) := (blk_cell BK188.out 0).trans rfl; have hfz10_0 := blk_frozen BK188.out 0) | (go_at_call 45; (with_reducible refine (heap_Right.calls _ _ l1 true _ ?side1 ?side2 A5.out).mono ?_); (case side1 => repeat (first | exact (Kd.C_below HR1.out HB.out) | with_reducible first | refine Kd.C_alloc ?_ _ | refine Kd.C_drewN ?_ _ | refine Kd.C_drew ?_)); (case side2 => exact HC1.out); rintro e w11 ⟨rfl, hb⟩; have n0_ := Aside0.mk (blk_below (g := gb188) (o := .cells #[.slice A1 l1.length c1] 26 (0, 0)) (by (with_reducible repeat (first | refine blk_drewN ?_ _ | refine blk_drew ?_ | refine blk_alloc ?_ _)); exact BK188.out) hb); have n1_ := Aside0.mk (below_step (by repeat (with_reducible first | exact HB.out | apply below_alloc | apply pw_below_drewN | apply below_drew1 | refine below_set ?_ GE188.out)) hb); clear BK188; clear HB; have BK188 := n0_; have HB := n1_; clear n0_ n1_; (try clear hb); (try clear hb2); (try clear hk); (try clear hi)) | ((with_reducible refine gate_callee (f := 87) rfl ?_); refine goesL_ (some 15) rfl rfl Try.func87 (by kernel_rfl) rfl #[.slice A0 l0.length c0, .func (.func 88) #[] #[.pointer (some ⟨gb188, 0, none⟩)]] rfl (by (try simp only [List.map_toArray, List.map_cons, List.map_nil]); first | done | rfl) ?_; (with_reducible refine (any_at_reads_Same_1.calls _ _ l0 gb188 A1 c1 l1 t191 _ ?side1 ?side2 ?side3 ?side4 ?side5 A7.out).mono ?_); (case side1 => repeat (first | exact (Kd.C_below HR0.out HB.out) | with_reducible first | refine Kd.C_alloc ?_ _ | refine Kd.C_drewN ?_ _ | refine Kd.C_drew ?_)); (case side2 => exact HC0.out); (case side3 => repeat (first | exact (Kd.C_below HR1.out HB.out) | with_reducible first | refine Kd.C_alloc ?_ _ | refine Kd.C_drewN ?_ _ | refine Kd.C_drew ?_)); (case side4 => exact HC1.out); (case side5 => exact (by (with_reducible repeat (first | refine blk_drewN ?_ _ | refine blk_drew ?_ | refine blk_alloc ?_ _)); exact BK188.out)); rintro e w12 ⟨rfl, hb⟩; refine ⟨_, rfl, ?_⟩; have n0_ := Aside0.mk (blk_below (g := gb188) (o := .cells #[.slice A1 l1.length c1] 26 (0, 0)) (by (with_reducible repeat (first | refine blk_drewN ?_ _ | refine blk_drew ?_ | refine blk_alloc ?_ _)); exact BK188.out) hb); have n1_ := Aside0.mk (below_step (by repeat (with_reducible first | exact HB.out | apply below_alloc | apply pw_below_drewN | apply below_drew1 | refine below_set ?_ GE188.out)) hb); clear BK188; clear HB; have BK188 := n0_; have HB := n1_; clear n0_ n1_; (try clear hb); (try clear hb2); (try clear hk); (try clear hi)))
     go_ret
     exact ⟨by first | rfl | (simp [errW_none, errW_some] <;> rfl) | (simp [*, errW_none, errW_some] <;> rfl), by repeat (with_reducible first | exact HB.out | apply below_alloc | apply pw_below_drewN | apply below_drew1 | refine below_set ?_ GE188.out)⟩
   · replace c6 := Bool.eq_false_iff.mpr c6
     subst c6
     have H1 : (some false) = some r := by rw [if_neg (show ¬ (false = true) by decide)] at H; exact H
     clear H
     have H := H1
     clear H1
     obtain rfl := Option.some.inj H
     go_enter Try.func77, Try.ntmps77
     go_wp2_with (first | ((with_reducible refine gate_dst (N := 3) rfl ?_); refine box_event ?hg (N := 3) ?hd (cs := #[.slice A1 l1.length c1]) (t := 26) ?hr ?_; (case hd => rfl); (case hg => rfl); (case hr => first | (go_simp; done) | (go_simp; rfl)); intro gb188 hg w13 hbox hb; have n0_ := Aside0.mk (bst_ hb); have n1_ := Aside0.mk (hbox); have n2_ := Aside0.mk ((by rw [hg]; exact bsz_ : w.heap.size ≤ gb188)); have n3_ := n2_; clear HB; have HB := n0_; have BK188 := n1_; have GW188 := n2_; have GE188 := n3_; clear n0_ n1_ n2_ n3_; clear hb hbox hg) | ((with_reducible refine gate_callee (f := 86) rfl ?_); refine goesL_ (some 6) rfl rfl Try.func86 (by kernel_rfl) rfl #[.slice A0 l0.length c0] rfl (by (try simp only [List.map_toArray, List.map_cons, List.map_nil]); first | done | rfl) ?_; (with_reducible refine (reads_Right.calls k _ _ l0 true _ ?side1 ?side2 A3.out).mono ?_); (case side1 => repeat (first | exact (Kd.C_below HR0.out HB.out) | with_reducible first | refine Kd.C_alloc ?_ _ | refine Kd.C_drewN ?_ _ | refine Kd.C_drew ?_)); (case side2 => exact HC0.out); rintro e w14 ⟨rfl, hb⟩; refine ⟨_, rfl, ?_⟩; have n0_ := Aside0.mk (blk_below (g := gb188) (o := .cells #[.slice A1 l1.length c1] 26 (0, 0)) (by (with_reducible repeat (first | refine blk_drewN ?_ _ | refine blk_drew ?_ | refine blk_alloc ?_ _)); exact BK188.out) hb); have n1_ := Aside0.mk (below_step (by repeat (with_reducible first | exact HB.out | apply below_alloc | apply pw_below_drewN | apply below_drew1 | refine below_set ?_ GE188.out)) hb); clear BK188; clear HB; have BK188 := n0_; have HB := n1_; clear n0_ n1_; (try clear hb); (try clear hb2); (try clear hk); (try clear hi); have hcz15_0 : w14.cell? ⟨gb188, 0, none⟩ = some (.slice A1 l1.length c1) := (blk_cell BK188.out 0).trans rfl; have hfz15_0 := blk_frozen BK188.out 0) | (go_at_call 45; (with_reducible refine (heap_Right.calls _ _ l1 false _ ?side1 ?side2 A5.out).mono ?_); (case side1 => repeat (first | exact (Kd.C_below HR1.out HB.out) | with_reducible first | refine Kd.C_alloc ?_ _ | refine Kd.C_drewN ?_ _ | refine Kd.C_drew ?_)); (case side2 => exact HC1.out); rintro e w16 ⟨rfl, hb⟩; have n0_ := Aside0.mk (blk_below (g := gb188) (o := .cells #[.slice A1 l1.length c1] 26 (0, 0)) (by (with_reducible repeat (first | refine blk_drewN ?_ _ | refine blk_drew ?_ | refine blk_alloc ?_ _)); exact BK188.out) hb); have n1_ := Aside0.mk (below_step (by repeat (with_reducible first | exact HB.out | apply below_alloc | apply pw_below_drewN | apply below_drew1 | refine below_set ?_ GE188.out)) hb); clear BK188; clear HB; have BK188 := n0_; have HB := n1_; clear n0_ n1_; (try clear hb); (try clear hb2); (try clear hk); (try clear hi)))
     go_ret
     exact ⟨by first | rfl | (simp [errW_none, errW_some] <;> rfl) | (simp [*, errW_none, errW_some] <;> rfl), by repeat (with_reducible first | exact HB.out | apply below_alloc | apply pw_below_drewN | apply below_drew1 | refine below_set ?_ GE188.out)⟩
 · replace c4 := Bool.eq_false_iff.mpr c4
   subst c4
   have H1 : (some false) = some r := by rw [if_neg (show ¬ (false = true) by decide)] at H; exact H
   clear H
   have H := H1
   clear H1
   obtain rfl := Option.some.inj H
   go_enter Try.func77, Try.ntmps77
   go_wp2_with (first | ((with_reducible refine gate_dst (N := 3) rfl ?_); refine box_event ?hg (N := 3) ?hd (cs := #[.slice A1 l1.length c1]) (t := 26) ?hr ?_; (case hd => rfl); (case hg => rfl); (case hr => first | (go_simp; done) | (go_simp; rfl)); intro gb188 hg w17 hbox hb; have n0_ := Aside0.mk (bst_ hb); have n1_ := Aside0.mk (hbox); have n2_ := Aside0.mk ((by rw [hg]; exact bsz_ : w.heap.size ≤ gb188)); have n3_ := n2_; clear HB; have HB := n0_; have BK188 := n1_; have GW188 := n2_; have GE188 := n3_; clear n0_ n1_ n2_ n3_; clear hb hbox hg) | ((with_reducible refine gate_callee (f := 86) rfl ?_); refine goesL_ (some 6) rfl rfl Try.func86 (by kernel_rfl) rfl #[.slice A0 l0.length c0] rfl (by (try simp only [List.map_toArray, List.map_cons, List.map_nil]); first | done | rfl) ?_; (with_reducible refine (reads_Right.calls k _ _ l0 false _ ?side1 ?side2 A3.out).mono ?_); (case side1 => repeat (first | exact (Kd.C_below HR0.out HB.out) | with_reducible first | refine Kd.C_alloc ?_ _ | refine Kd.C_drewN ?_ _ | refine Kd.C_drew ?_)); (case side2 => exact HC0.out); rintro e w18 ⟨rfl, hb⟩; refine ⟨_, rfl, ?_⟩; have n0_ := Aside0.mk (blk_below (g := gb188) (o := .cells #[.slice A1 l1.length c1] 26 (0, 0)) (by (with_reducible repeat (first | refine blk_drewN ?_ _ | refine blk_drew ?_ | refine blk_alloc ?_ _)); exact BK188.out) hb); have n1_ := Aside0.mk (below_step (by repeat (with_reducible first | exact HB.out | apply below_alloc | apply pw_below_drewN | apply below_drew1 | refine below_set ?_ GE188.out)) hb); clear BK188; clear HB; have BK188 := n0_; have HB := n1_; clear n0_ n1_; (try clear hb); (try clear hb2); (try clear hk); (try clear hi)))
   go_ret
   exact ⟨by first | rfl | (simp [errW_none, errW_some] <;> rfl) | (simp [*, errW_none, errW_some] <;> rfl), by repeat (with_reducible first | exact HB.out | apply below_alloc | apply pw_below_drewN | apply below_drew1 | refine below_set ?_ GE188.out)⟩

/-! ### opaque_Holds: function 59 -/
def opaque_Holds.f (k : Nat) (l0 : List (S80)) (a1 : Int) (l2 : List (S84)) : Option (Bool) := (opaque_At.f k l0 a1).bind fun bt192 => (if bt192.2 = 0 then ((reads_Same.f k l2 bt192.1).bind fun t196 => (some t196)) else (some false))
theorem opaque_Holds.mono : ∀ a0 a1 a2 k, LeO (opaque_Holds.f k a0 a1 a2) (opaque_Holds.f (k + 1) a0 a1 a2) := by
 intro a0 a1 a2 k
 unfold opaque_Holds.f
 repeat' first
  | (with_reducible exact opaque_At.mono _ _ _)
  | (with_reducible exact reads_Same.mono _ _ _)
  | (with_reducible exact LeO.refl _)
  | (with_reducible exact LeO.none _)
  | (with_reducible refine LeO.ite ?_ ?_)
  | (with_reducible refine LeO.bind ?_ (fun _ => ?_))
  | exact opaque_At.mono _ _ _
  | exact reads_Same.mono _ _ _
  | exact LeO.none _
  | refine LeO.ite ?_ ?_
  | refine LeO.bind ?_ (fun _ => ?_)
set_option maxHeartbeats 8000000 in
set_option maxRecDepth 100000 in
theorem opaque_Holds.calls (k : Nat) (A0 : Option Addr) (c0 : Nat) (l0 : List (S80)) (a1 : Int) (A2 : Option Addr) (c2 : Nat) (l2 : List (S84)) (r : Bool) (w : World) (hr0 : Kd.C k80 w A0 l0.length l0) (hc0 : l0.length ≤ c0) (hr2 : Kd.C k84 w A2 l2.length l2) (hc2 : l2.length ≤ c2) (h : opaque_Holds.f k l0 a1 l2 = some r) :
 Calls Try.prog 59 #[.slice A0 l0.length c0, .int .i64 a1, .slice A2 l2.length c2] w fun e w' => e = .returned (.bool r) ∧ Below w.heap.size w w' := by
 have HR0 := Aside0.mk hr0
 have HC0 := Aside0.mk hc0
 clear hr0 hc0
 have HR2 := Aside0.mk hr2
 have HC2 := Aside0.mk hc2
 clear hr2 hc2
 have HB := Aside0.mk (Below.refl w.heap.size w)
 have H : ((opaque_At.f k l0 a1).bind fun bt192 => (if bt192.2 = 0 then ((reads_Same.f k l2 bt192.1).bind fun t196 => (some t196)) else (some false))) = some r := h
 clear h
 replace H := Option.bind_eq_some_iff.mp H
 obtain ⟨⟨t192, t195⟩, A40, H⟩ := H
 replace H : (if t195 = 0 then ((reads_Same.f k l2 t192).bind fun t196 => (some t196)) else (some false)) = some r := H
 have A4 := Aside0.mk A40
 clear A40
 by_cases c5 : t195 = 0
 · rw [if_pos c5] at H
   have c5b0 : (t195 == 0) = true := beq_iff_eq.mpr c5
   have c5b1 : (t195 != 0) = false := bne_eq_false_iff_eq.mpr c5
   clear c5
   replace H := Option.bind_eq_some_iff.mp H
   obtain ⟨t196, A60, H⟩ := H
   replace H : (some t196) = some r := H
   have A6 := Aside0.mk A60
   clear A60
   obtain rfl := Option.some.inj H
   go_enter Try.func59, Try.ntmps59
   go_wp2_with (first | ((with_reducible refine gate_callee (f := 33) rfl ?_); refine goesL_ (some 12) rfl rfl Try.func33 (by kernel_rfl) rfl #[.slice A0 l0.length c0, .int .i64 a1] rfl (by (try simp only [List.map_toArray, List.map_cons, List.map_nil]); first | done | rfl) ?_; (with_reducible refine (opaque_At.calls k (fun k_ => k_ < w.heap.size) _ _ l0 a1 t192 t195 _ ?side1 A4.out).mono ?_); (case side1 => exact Kd.V_mk HC0.out (Kd.F_below (Kd.C_F k80_heap HR0.out) (by repeat (with_reducible first | exact HB.out | apply below_alloc | apply pw_below_drewN | apply below_drew1)))); rintro e w7 ⟨v193, rfl, ho0, hb⟩; refine ⟨_, rfl, ?_⟩; have n0_ := Aside0.mk (Kd.V_lower (Kd.V_mono (ok' := fun k_ => True) ho0 (fun k_ hk_ => trivial)) bsz_); have n1_ := Aside0.mk (bst_ hb); clear HB; have HO194 := n0_; have HB := n1_; clear n0_ n1_; (try clear hb); (try clear hb2); (try clear hk); (try clear hi); (try clear ho0); obtain ⟨Ao8, co8, eo8⟩ := Kd.V_slice HO194.out; subst eo8) | (go_at_call 77; (with_reducible refine (reads_Same.calls k _ _ l2 _ _ t192 t196 _ ?side1 ?side2 ?side3 ?side4 A6.out).mono ?_); (case side1 => repeat (first | exact (Kd.C_below HR2.out HB.out) | with_reducible first | refine Kd.C_alloc ?_ _ | refine Kd.C_drewN ?_ _ | refine Kd.C_drew ?_)); (case side2 => exact HC2.out); (case side3 => repeat (first | exact (Kd.V_reads' HO194.out).2.2 | with_reducible first | refine Kd.C_alloc ?_ _ | refine Kd.C_drewN ?_ _ | refine Kd.C_drew ?_)); (case side4 => exact (Kd.V_reads' HO194.out).2.1); rintro e w9 ⟨rfl, hb⟩; have n0_ := Aside0.mk (Kd.V_below (by (with_reducible repeat (first | apply Kd.V_alloc | apply Kd.V_drewN | apply Kd.V_drew)); exact HO194.out) hb); have n1_ := Aside0.mk (bst_ hb); clear HO194; clear HB; have HO194 := n0_; have HB := n1_; clear n0_ n1_; (try clear hb); (try clear hb2); (try clear hk); (try clear hi)))
   go_ret
   exact ⟨by first | rfl | (simp [errW_none, errW_some] <;> rfl) | (simp [*, errW_none, errW_some] <;> rfl), by repeat (with_reducible first | exact HB.out | apply below_alloc | apply pw_below_drewN | apply below_drew1)⟩
 · rw [if_neg c5] at H
   have c5b0 : (t195 == 0) = false := beq_eq_false_iff_ne.mpr c5
   have c5b1 : (t195 != 0) = true := bne_iff_ne.mpr c5
   obtain rfl := Option.some.inj H
   go_enter Try.func59, Try.ntmps59
   go_wp2_with (first | ((with_reducible refine gate_callee (f := 33) rfl ?_); refine goesL_ (some 12) rfl rfl Try.func33 (by kernel_rfl) rfl #[.slice A0 l0.length c0, .int .i64 a1] rfl (by (try simp only [List.map_toArray, List.map_cons, List.map_nil]); first | done | rfl) ?_; (with_reducible refine (opaque_At.calls k (fun k_ => k_ < w.heap.size) _ _ l0 a1 t192 t195 _ ?side1 A4.out).mono ?_); (case side1 => exact Kd.V_mk HC0.out (Kd.F_below (Kd.C_F k80_heap HR0.out) (by repeat (with_reducible first | exact HB.out | apply below_alloc | apply pw_below_drewN | apply below_drew1)))); rintro e w10 ⟨v193, rfl, ho0, hb⟩; refine ⟨_, rfl, ?_⟩; have n0_ := Aside0.mk (Kd.V_lower (Kd.V_mono (ok' := fun k_ => True) ho0 (fun k_ hk_ => trivial)) bsz_); have n1_ := Aside0.mk (bst_ hb); clear HB; have HO194 := n0_; have HB := n1_; clear n0_ n1_; (try clear hb); (try clear hb2); (try clear hk); (try clear hi); (try clear ho0)))
   go_ret
   exact ⟨by first | rfl | (simp [errW_none, errW_some] <;> rfl) | (simp [*, errW_none, errW_some] <;> rfl), by repeat (with_reducible first | exact HB.out | apply below_alloc | apply pw_below_drewN | apply below_drew1)⟩

/-! ### opaque_Span: function 36 -/
def opaque_Span.l0 : Nat → List (S80) → List (S84) → List Int → List (S80) → Int → Int → Option (List Int)
 | 0, _, _, _, _, _, _ => none
 | k + 1, x0, x1, x5, x8, x9, x10 => if x10 < x9 then (if 0 ≤ x10 then (if x10 < (x8.length : Int) then ((opaque_Holds.f k x0 ((rd_T80 x8 x10).f0) x1).bind fun t199 => (if t199 = true then (if x5.length < 17592186044416 then (opaque_Span.l0 k x0 x1 (x5 ++ [(rd_T80 x8 x10).f0]) x8 x9 (wrap64 (x10 + 1))) else (none)) else (opaque_Span.l0 k x0 x1 x5 x8 x9 (wrap64 (x10 + 1))))) else (none)) else (none)) else (some x5)
def opaque_Span.f (k : Nat) (l0 : List (S80)) (l1 : List (S84)) : Option (List Int) := opaque_Span.l0 k l0 l1 ([] : List Int) l0 (l0.length : Int) 0
theorem opaque_Span.mono_l : ∀ k, (∀ y0 y1 y2 y3 y4 y5, LeO (opaque_Span.l0 k y0 y1 y2 y3 y4 y5) (opaque_Span.l0 (k + 1) y0 y1 y2 y3 y4 y5))
 | 0 => fun _ _ _ _ _ _ r h => by simp [opaque_Span.l0] at h
 | k + 1 => by
  have ih0 := opaque_Span.mono_l k
  · intro y0 y1 y2 y3 y4 y5
    unfold opaque_Span.l0
    repeat' first
    | (with_reducible exact ih0 _ _ _ _ _ _)
    | (with_reducible exact opaque_Holds.mono _ _ _ _)
    | (with_reducible exact LeO.refl _)
    | (with_reducible exact LeO.none _)
    | (with_reducible refine LeO.ite ?_ ?_)
    | (with_reducible refine LeO.bind ?_ (fun _ => ?_))
    | exact ih0 _ _ _ _ _ _
    | exact opaque_Holds.mono _ _ _ _
    | exact LeO.none _
    | refine LeO.ite ?_ ?_
    | refine LeO.bind ?_ (fun _ => ?_)
theorem opaque_Span.mono : ∀ a0 a1 k, LeO (opaque_Span.f k a0 a1) (opaque_Span.f (k + 1) a0 a1) := by
 intro a0 a1 k
 have ih0 := opaque_Span.mono_l k
 unfold opaque_Span.f
 repeat' first
  | (with_reducible exact ih0 _ _ _ _ _ _)
  | (with_reducible exact opaque_Holds.mono _ _ _ _)
  | (with_reducible exact LeO.refl _)
  | (with_reducible exact LeO.none _)
  | (with_reducible refine LeO.ite ?_ ?_)
  | (with_reducible refine LeO.bind ?_ (fun _ => ?_))
  | exact ih0 _ _ _ _ _ _
  | exact opaque_Holds.mono _ _ _ _
  | exact LeO.none _
  | refine LeO.ite ?_ ?_
  | refine LeO.bind ?_ (fun _ => ?_)
set_option maxHeartbeats 8000000 in
set_option maxRecDepth 100000 in
theorem opaque_Span.calls (k : Nat) (A0 : Option Addr) (c0 : Nat) (l0 : List (S80)) (A1 : Option Addr) (c1 : Nat) (l1 : List (S84)) (r : List Int) (w : World) (hr0 : Kd.C k80 w A0 l0.length l0) (hc0 : l0.length ≤ c0) (hr1 : Kd.C k84 w A1 l1.length l1) (hc1 : l1.length ≤ c1) (h : opaque_Span.f k l0 l1 = some r) :
 Calls Try.prog 36 #[.slice A0 l0.length c0, .slice A1 l1.length c1] w fun e w' => ∃ v0_ : Value, e = .returned (v0_) ∧ Kd.R (Kd.int .i64) 3 w' w.heap.size (fun _ => True) v0_ r ∧ Below w.heap.size w w' := by
 have hu80 := Try.underlying80
 have HR0 := Aside0.mk hr0
 have HC0 := Aside0.mk hc0
 clear hr0 hc0
 have HR1 := Aside0.mk hr1
 have HC1 := Aside0.mk hc1
 clear hr1 hc1
 have HB := Aside0.mk (Below.refl w.heap.size w)
 have H : (opaque_Span.l0 k l0 l1 ([] : List Int) l0 (l0.length : Int) 0) = some r := h
 clear h
 have H' := Aside0.mk H
 clear H
 go_enter Try.func36, Try.ntmps36
 go_wp2
 go_loopg [5, 10] k (fun kq v5 v10 w' => ∃ (x5_1 : List Int) (x10_1 : Int), v10 = .int .i64 x10_1 ∧ Aside0 (opaque_Span.l0 kq l0 l1 x5_1 l0 (l0.length : Int) x10_1 = some r) ∧ Aside0 (kq ≤ k) ∧ Aside0 (Kd.R (Kd.int .i64) 3 w' w.heap.size (fun _ => True) v5 x5_1) ∧ Aside0 (Below w.heap.size w w'))
 case atStart => exact ⟨(([] : List Int)), (0), (by first | rfl | (simp; done) | (simp [*]; done)), H', ⟨Nat.le_refl _⟩, ⟨by first | exact Kd.R_nil _ _ _ _ _ | exact Kd.N_nil _ _ _ _ _ | exact Kd.V_nil _ _ _ _ _ | exact Kd.Q_nil _ _ _ _ _ | exact Kd.S_nil _ _ _ _ _⟩, ⟨by repeat (with_reducible first | exact HB.out | apply below_alloc | apply pw_below_drewN | apply below_drew1)⟩⟩
 case round =>
  clear H'
  try clear c1
  try clear p2
  obtain ⟨x5_1, x10_1, rfl, HA, HK1, HO_5, HB⟩ := hrel
  cases gk with
  | zero => exact absurd HA.out (by simp [opaque_Span.l0])
  | succ k1 =>
   have H := HA.out
   clear HA
   simp only [opaque_Span.l0] at H
   by_cases c3 : x10_1 < (l0.length : Int)
   · rw [if_pos c3] at H
     have c3b0 : decide (x10_1 < (l0.length : Int)) = true := decide_eq_true c3
     clear c3
     by_cases c4 : 0 ≤ x10_1
     · rw [if_pos c4] at H
       have c4b0 : decide (0 ≤ x10_1) = true := decide_eq_true c4
       clear c4
       by_cases c5 : x10_1 < (l0.length : Int)
       · rw [if_pos c5] at H
         have c5b0 : decide (x10_1 < (l0.length : Int)) = true := decide_eq_true c5
         clear c5
         replace H := Option.bind_eq_some_iff.mp H
         obtain ⟨t199, A60, H⟩ := H
         replace H : (if t199 = true then (if x5_1.length < 17592186044416 then (opaque_Span.l0 k1 l0 l1 (x5_1 ++ [(rd_T80 l0 x10_1).f0]) l0 (l0.length : Int) (wrap64 (x10_1 + 1))) else (none)) else (opaque_Span.l0 k1 l0 l1 x5_1 l0 (l0.length : Int) (wrap64 (x10_1 + 1)))) = some r := H
         have A6 := Aside0.mk A60
         clear A60
         by_cases c7 : t199 = true
         · subst c7
           have H1 : (if x5_1.length < 17592186044416 then (opaque_Span.l0 k1 l0 l1 (x5_1 ++ [(rd_T80 l0 x10_1).f0]) l0 (l0.length : Int) (wrap64 (x10_1 + 1))) else (none)) = some r := by rw [if_pos rfl] at H; exact H
           clear H
           have H := H1
           clear H1
           by_cases c8 : x5_1.length < 17592186044416
           · rw [if_pos c8] at H
             have LMc8 := Aside0.mk c8
             clear c8
             obtain ⟨y200, hy200⟩ : ∃ y_ : List Int, y_ = (x5_1 ++ [(rd_T80 l0 x10_1).f0]) := ⟨_, rfl⟩
             replace H : (opaque_Span.l0 k1 l0 l1 y200 l0 (l0.length : Int) (wrap64 (x10_1 + 1))) = some r := by first | (rw [hy200]; with_reducible exact H) | (have H2_ := (Option.bind_some _ _).symm.trans H; rw [hy200]; with_reducible exact H2_) | (have H2_ := (Option.bind_some _ _).symm.trans H; with_reducible exact H2_) | with_reducible exact H | (rw [hy200]; exact H) | exact H
             have Ny200 := Aside0.mk hy200
             clear hy200
             have H' := Aside0.mk H
             clear H
             have p197 : 0 ≤ (x10_1 : Int) := of_decide_eq_true (by first | (with_reducible assumption) | assumption)
             have q197 : x10_1 < (l0.length : Int) := of_decide_eq_true (by first | (with_reducible assumption) | assumption)
             obtain ⟨ad197, A197_1, c197_1, e197, hx197_0, hx197_1, hl197_1, hi197_1⟩ := at_T80 HR0.out x10_1 p197 q197
             cases e197
             replace hx197_0 := (HB.out.cell (World.block_lt_of_cell? w _ hx197_0)).trans hx197_0
             replace hx197_1 := (HB.out.cell (World.block_lt_of_cell? w _ hx197_1)).trans hx197_1
             have HR197_1 := Aside0.mk hi197_1
             have HC197_1 := Aside0.mk hl197_1
             clear hi197_1 hl197_1
             replace p197 := eq_true p197
             replace q197 := eq_true q197
             go_wp2_with (first | ((with_reducible refine gate_dst (N := 7) rfl ?_); refine box_event ?hg (N := 7) ?hd (cs := #[.int .i64 0, .slice none 0 0]) (t := 80) ?hr ?_; (case hd => rfl); (case hg => rfl); (case hr => first | (go_simp; done) | (go_simp; rfl)); intro gb198 hg w9 hbox hb; have n0_ := Aside0.mk (Kd.R_below (by (with_reducible repeat (first | apply Kd.R_alloc | apply Kd.R_drewN | apply Kd.R_drew)); exact HO_5.out) hb); have n1_ := Aside0.mk (bst_ hb); have n2_ := Aside0.mk (hbox); have n3_ := Aside0.mk ((by rw [hg]; exact bsz_ : w.heap.size ≤ gb198)); have n4_ := n3_; clear HO_5; clear HB; have HO_5 := n0_; have HB := n1_; have BK198 := n2_; have GW198 := n3_; have GE198 := n4_; clear n0_ n1_ n2_ n3_ n4_; clear hb hbox hg; have hcz10_0 : w9.cell? ⟨gb198, 0, none⟩ = some (.int .i64 0) := (blk_cell BK198.out 0).trans rfl; have hcz10_1 : w9.cell? ⟨gb198, 1, none⟩ = some (.slice none 0 0) := (blk_cell BK198.out 1).trans rfl; have hfz10_0 := blk_frozen BK198.out 0; have hfz10_1 := blk_frozen BK198.out 1) | ((with_reducible refine gate_callee (f := 59) rfl ?_); refine goesL_ (some 18) rfl rfl Try.func59 (by kernel_rfl) rfl #[.slice (some ad197) l0.length c0, .int .i64 ((rd_T80 l0 x10_1).f0), .slice A1 l1.length c1] rfl (by (try simp only [List.map_toArray, List.map_cons, List.map_nil]); first | done | rfl) ?_; (with_reducible refine (opaque_Holds.calls k1 _ _ l0 ((rd_T80 l0 x10_1).f0) _ _ l1 true _ ?side1 ?side2 ?side3 ?side4 A6.out).mono ?_); (case side1 => exact Kd.C_below HR0.out (by repeat (with_reducible first | exact HB.out | apply below_alloc | apply pw_below_drewN | apply below_drew1 | refine below_set ?_ GE198.out))); (case side2 => exact HC0.out); (case side3 => exact Kd.C_below HR1.out (by repeat (with_reducible first | exact HB.out | apply below_alloc | apply pw_below_drewN | apply below_drew1 | refine below_set ?_ GE198.out))); (case side4 => exact HC1.out); rintro e w11 ⟨rfl, hb⟩; refine ⟨_, rfl, ?_⟩; have n0_ := Aside0.mk (Kd.R_below (by (with_reducible repeat (first | apply Kd.R_alloc | apply Kd.R_drewN | apply Kd.R_drew)); exact (Kd.R_mono (Kd.R_far (p := ⟨gb198, 1, none⟩) (Kd.R_far (p := ⟨gb198, 0, none⟩) (Kd.R_types HO_5.out BK198.out (by decide)) (fun _ hk => hk.2) (.int .i64 ((rd_T80 l0 x10_1).f0))) (fun _ hk => hk.2) (.slice A197_1 ((rd_T80 l0 x10_1).f1).length c197_1)) (fun _ h_ => h_.1))) hb); have n1_ := Aside0.mk (blk_below (g := gb198) (o := .cells #[.int .i64 ((rd_T80 l0 x10_1).f0), .slice A197_1 ((rd_T80 l0 x10_1).f1).length c197_1] 80 (0, 0)) (by (with_reducible repeat (first | refine blk_drewN ?_ _ | refine blk_drew ?_ | refine blk_alloc ?_ _)); refine blk_put (cs := #[.int .i64 ((rd_T80 l0 x10_1).f0), .slice none 0 0]) ?_ 1 _ rfl; (with_reducible repeat (first | refine blk_drewN ?_ _ | refine blk_drew ?_ | refine blk_alloc ?_ _)); refine blk_put (cs := #[.int .i64 0, .slice none 0 0]) ?_ 0 _ rfl; (with_reducible repeat (first | refine blk_drewN ?_ _ | refine blk_drew ?_ | refine blk_alloc ?_ _)); exact BK198.out) hb); have n2_ := Aside0.mk (below_step (by repeat (with_reducible first | exact HB.out | apply below_alloc | apply pw_below_drewN | apply below_drew1 | refine below_set ?_ GE198.out)) hb); clear HO_5; clear BK198; clear HB; have HO_5 := n0_; have BK198 := n1_; have HB := n2_; clear n0_ n1_ n2_; (try clear hb); (try clear hb2); (try clear hk); (try clear hi); have hcz12_0 : w11.cell? ⟨gb198, 0, none⟩ = some (.int .i64 ((rd_T80 l0 x10_1).f0)) := (blk_cell BK198.out 0).trans rfl; have hcz12_1 : w11.cell? ⟨gb198, 1, none⟩ = some (.slice A197_1 ((rd_T80 l0 x10_1).f1).length c197_1) := (blk_cell BK198.out 1).trans rfl; have hfz12_0 := blk_frozen BK198.out 0; have hfz12_1 := blk_frozen BK198.out 1) | ((with_reducible refine gate_builtin (b := .append) (xs := #[.tmp 19, .tmp 22]) rfl ?_); at_builtin; refine Kd.R_append (Kd.int .i64) (w0 := w) w.heap.size rfl (.tmp 19) (.tmp 22) 27 3 (.int .i64 0) 8 rfl Try.underlying27 info3 rfl (by decide) (by omega) u5 x5_1 ((rd_T80 l0 x10_1).f0) [.int .i64 ((rd_T80 l0 x10_1).f0)] (fun _ => True) (fun _ => False) rfl rfl ?aP (fun _ hk => hk.elim) ?aF ?aO ?aB ?aS ?aL ?_; (case aP => exact rfl); (case aB => exact (by repeat (with_reducible first | exact HB.out | apply below_alloc | apply pw_below_drewN | apply below_drew1 | refine below_set ?_ GE198.out))); (case aF => exact (fun _ _ => trivial)); (case aO => exact (by (with_reducible repeat (first | apply Kd.R_alloc | apply Kd.R_drewN | apply Kd.R_drew)); exact HO_5.out)); (case aS => exact (below_size (by repeat (with_reducible first | exact HB.out | apply below_alloc | apply pw_below_drewN | apply below_drew1 | refine below_set ?_ GE198.out)))); (case aL => have := LMc8.out; omega); intro v201 w13 ho hb hg hat; rw [← Ny200.out] at ho; have n0_ := Aside0.mk (blk_grown (g := gb198) (o := .cells #[.int .i64 ((rd_T80 l0 x10_1).f0), .slice A197_1 ((rd_T80 l0 x10_1).f1).length c197_1] 80 (0, 0)) (by (with_reducible repeat (first | refine blk_drewN ?_ _ | refine blk_drew ?_ | refine blk_alloc ?_ _)); exact BK198.out) hg (Kd.R_ne HO_5.out BK198.out (by decide))); have n1_ := Aside0.mk (hb); have n2_ := Aside0.mk (ho); clear BK198; clear HB; clear HO_5; have BK198 := n0_; have HB := n1_; have HO202 := n2_; clear n0_ n1_ n2_; clear ho hb hg hat))
             go_roundg k1
             case measure => have := HK1.out; omega
             case rel => exact ⟨(y200), (wrap64 (x10_1 + 1)), (by first | rfl | (simp; done) | (simp [*]; done)), H', ⟨by have := HK1.out; omega⟩, ⟨by (with_reducible repeat (first | apply Kd.R_alloc | apply Kd.R_drewN | apply Kd.R_drew)); exact HO202.out⟩, ⟨by repeat (with_reducible first | exact HB.out | apply below_alloc | apply pw_below_drewN | apply below_drew1 | refine below_set ?_ GE198.out)⟩⟩
           · rw [if_neg c8] at H
             exact absurd H (by simp)
         · replace c7 := Bool.eq_false_iff.mpr c7
           subst c7
           have H1 : (opaque_Span.l0 k1 l0 l1 x5_1 l0 (l0.length : Int) (wrap64 (x10_1 + 1))) = some r := by rw [if_neg (show ¬ (false = true) by decide)] at H; exact H
           clear H
           have H := H1
           clear H1
           have H' := Aside0.mk H
           clear H
           have p197 : 0 ≤ (x10_1 : Int) := of_decide_eq_true (by first | (with_reducible assumption) | assumption)
           have q197 : x10_1 < (l0.length : Int) := of_decide_eq_true (by first | (with_reducible assumption) | assumption)
           obtain ⟨ad197, A197_1, c197_1, e197, hx197_0, hx197_1, hl197_1, hi197_1⟩ := at_T80 HR0.out x10_1 p197 q197
           cases e197
           replace hx197_0 := (HB.out.cell (World.block_lt_of_cell? w _ hx197_0)).trans hx197_0
           replace hx197_1 := (HB.out.cell (World.block_lt_of_cell? w _ hx197_1)).trans hx197_1
           have HR197_1 := Aside0.mk hi197_1
           have HC197_1 := Aside0.mk hl197_1
           clear hi197_1 hl197_1
           replace p197 := eq_true p197
           replace q197 := eq_true q197
           go_wp2_with (first | ((with_reducible refine gate_dst (N := 7) rfl ?_); refine box_event ?hg (N := 7) ?hd (cs := #[.int .i64 0, .slice none 0 0]) (t := 80) ?hr ?_; (case hd => rfl); (case hg => rfl); (case hr => first | (go_simp; done) | (go_simp; rfl)); intro gb198 hg w14 hbox hb; have n0_ := Aside0.mk (Kd.R_below (by (with_reducible repeat (first | apply Kd.R_alloc | apply Kd.R_drewN | apply Kd.R_drew)); exact HO_5.out) hb); have n1_ := Aside0.mk (bst_ hb); have n2_ := Aside0.mk (hbox); have n3_ := Aside0.mk ((by rw [hg]; exact bsz_ : w.heap.size ≤ gb198)); have n4_ := n3_; clear HO_5; clear HB; have HO_5 := n0_; have HB := n1_; have BK198 := n2_; have GW198 := n3_; have GE198 := n4_; clear n0_ n1_ n2_ n3_ n4_; clear hb hbox hg; have hcz15_0 : w14.cell? ⟨gb198, 0, none⟩ = some (.int .i64 0) := (blk_cell BK198.out 0).trans rfl; have hcz15_1 : w14.cell? ⟨gb198, 1, none⟩ = some (.slice none 0 0) := (blk_cell BK198.out 1).trans rfl; have hfz15_0 := blk_frozen BK198.out 0; have hfz15_1 := blk_frozen BK198.out 1) | ((with_reducible refine gate_callee (f := 59) rfl ?_); refine goesL_ (some 18) rfl rfl Try.func59 (by kernel_rfl) rfl #[.slice (some ad197) l0.length c0, .int .i64 ((rd_T80 l0 x10_1).f0), .slice A1 l1.length c1] rfl (by (try simp only [List.map_toArray, List.map_cons, List.map_nil]); first | done | rfl) ?_; (with_reducible refine (opaque_Holds.calls k1 _ _ l0 ((rd_T80 l0 x10_1).f0) _ _ l1 false _ ?side1 ?side2 ?side3 ?side4 A6.out).mono ?_); (case side1 => exact Kd.C_below HR0.out (by repeat (with_reducible first | exact HB.out | apply below_alloc | apply pw_below_drewN | apply below_drew1 | refine below_set ?_ GE198.out))); (case side2 => exact HC0.out); (case side3 => exact Kd.C_below HR1.out (by repeat (with_reducible first | exact HB.out | apply below_alloc | apply pw_below_drewN | apply below_drew1 | refine below_set ?_ GE198.out))); (case side4 => exact HC1.out); rintro e w16 ⟨rfl, hb⟩; refine ⟨_, rfl, ?_⟩; have n0_ := Aside0.mk (Kd.R_below (by (with_reducible repeat (first | apply Kd.R_alloc | apply Kd.R_drewN | apply Kd.R_drew)); exact (Kd.R_mono (Kd.R_far (p := ⟨gb198, 1, none⟩) (Kd.R_far (p := ⟨gb198, 0, none⟩) (Kd.R_types HO_5.out BK198.out (by decide)) (fun _ hk => hk.2) (.int .i64 ((rd_T80 l0 x10_1).f0))) (fun _ hk => hk.2) (.slice A197_1 ((rd_T80 l0 x10_1).f1).length c197_1)) (fun _ h_ => h_.1))) hb); have n1_ := Aside0.mk (blk_below (g := gb198) (o := .cells #[.int .i64 ((rd_T80 l0 x10_1).f0), .slice A197_1 ((rd_T80 l0 x10_1).f1).length c197_1] 80 (0, 0)) (by (with_reducible repeat (first | refine blk_drewN ?_ _ | refine blk_drew ?_ | refine blk_alloc ?_ _)); refine blk_put (cs := #[.int .i64 ((rd_T80 l0 x10_1).f0), .slice none 0 0]) ?_ 1 _ rfl; (with_reducible repeat (first | refine blk_drewN ?_ _ | refine blk_drew ?_ | refine blk_alloc ?_ _)); refine blk_put (cs := #[.int .i64 0, .slice none 0 0]) ?_ 0 _ rfl; (with_reducible repeat (first | refine blk_drewN ?_ _ | refine blk_drew ?_ | refine blk_alloc ?_ _)); exact BK198.out) hb); have n2_ := Aside0.mk (below_step (by repeat (with_reducible first | exact HB.out | apply below_alloc | apply pw_below_drewN | apply below_drew1 | refine below_set ?_ GE198.out)) hb); clear HO_5; clear BK198; clear HB; have HO_5 := n0_; have BK198 := n1_; have HB := n2_; clear n0_ n1_ n2_; (try clear hb); (try clear hb2); (try clear hk); (try clear hi)))
           go_roundg k1
           case measure => have := HK1.out; omega
           case rel => exact ⟨(x5_1), (wrap64 (x10_1 + 1)), (by first | rfl | (simp; done) | (simp [*]; done)), H', ⟨by have := HK1.out; omega⟩, ⟨by (with_reducible repeat (first | apply Kd.R_alloc | apply Kd.R_drewN | apply Kd.R_drew)); exact HO_5.out⟩, ⟨by repeat (with_reducible first | exact HB.out | apply below_alloc | apply pw_below_drewN | apply below_drew1 | refine below_set ?_ GE198.out)⟩⟩
       · rw [if_neg c5] at H
         exact absurd H (by simp)
     · rw [if_neg c4] at H
       exact absurd H (by simp)
   · rw [if_neg c3] at H
     have c3b0 : decide (x10_1 < (l0.length : Int)) = false := decide_eq_false c3
     clear c3
     obtain rfl := Option.some.inj H
     go_wp2
     go_ret
     exact ⟨_, by first | rfl | (simp [errW_none, errW_some] <;> rfl) | (simp [*, errW_none, errW_some] <;> rfl), by (with_reducible repeat (first | apply Kd.R_alloc | apply Kd.R_drewN | apply Kd.R_drew)); exact HO_5.out, by repeat (with_reducible first | exact HB.out | apply below_alloc | apply pw_below_drewN | apply below_drew1)⟩

/-! ### opaque_Begin: function 58 -/
def opaque_Begin.f (k : Nat) (a0 : Int) (l1 : List (S66)) : Option ((List (S80)) × Int) := (slices_Clone_76.f l1).bind fun t203 => ((some (([(⟨a0, t203⟩ : S80)] : List (S80)) : List (S80))).bind fun y206 => ((opaque_Right.f k y206).bind fun t209 => (if t209 = true then (some (y206, 0)) else (some (([] : List (S80)), 1)))))
theorem opaque_Begin.mono : ∀ a0 a1 k, LeO (opaque_Begin.f k a0 a1) (opaque_Begin.f (k + 1) a0 a1) := by
 intro a0 a1 k
 unfold opaque_Begin.f
 repeat' first
  | (with_reducible exact opaque_Right.mono _ _)
  | (with_reducible exact LeO.refl _)
  | (with_reducible exact LeO.none _)
  | (with_reducible refine LeO.ite ?_ ?_)
  | (with_reducible refine LeO.bind ?_ (fun _ => ?_))
  | exact opaque_Right.mono _ _
  | exact LeO.none _
  | refine LeO.ite ?_ ?_
  | refine LeO.bind ?_ (fun _ => ?_)
set_option maxHeartbeats 8000000 in
set_option maxRecDepth 100000 in
theorem opaque_Begin.calls (k : Nat) (a0 : Int) (A1 : Option Addr) (c1 : Nat) (l1 : List (S66)) (r1 : List (S80)) (r2 : Int) (w : World) (hr1 : Kd.C k66 w A1 l1.length l1) (hc1 : l1.length ≤ c1) (h : opaque_Begin.f k a0 l1 = some (r1, r2)) :
 Calls Try.prog 58 #[.int .i64 a0, .slice A1 l1.length c1] w fun e w' => ∃ v0_ : Value, e = .returned (.tuple #[v0_, .int .i64 r2]) ∧ Kd.N k80 80 w' w.heap.size (fun k_ => (w.heap.size ≤ k_)) v0_ r1 ∧ Below w.heap.size w w' := by
 have hu80 := Try.underlying80
 have HR1 := Aside0.mk hr1
 have HC1 := Aside0.mk hc1
 clear hr1 hc1
 have HB := Aside0.mk (Below.refl w.heap.size w)
 have H : ((slices_Clone_76.f l1).bind fun t203 => ((some (([(⟨a0, t203⟩ : S80)] : List (S80)) : List (S80))).bind fun y206 => ((opaque_Right.f k y206).bind fun t209 => (if t209 = true then (some (y206, 0)) else (some (([] : List (S80)), 1)))))) = some (r1, r2) := h
 clear h
 replace H := Option.bind_eq_some_iff.mp H
 obtain ⟨t203, A30, H⟩ := H
 replace H : ((some (([(⟨a0, t203⟩ : S80)] : List (S80)) : List (S80))).bind fun y206 => ((opaque_Right.f k y206).bind fun t209 => (if t209 = true then (some (y206, 0)) else (some (([] : List (S80)), 1))))) = some (r1, r2) := H
 have A3 := Aside0.mk A30
 clear A30
 obtain ⟨y206, hy206⟩ : ∃ y_ : List (S80), y_ = (([(⟨a0, t203⟩ : S80)] : List (S80))) := ⟨_, rfl⟩
 replace H : ((opaque_Right.f k y206).bind fun t209 => (if t209 = true then (some (y206, 0)) else (some (([] : List (S80)), 1)))) = some (r1, r2) := by first | (rw [hy206]; with_reducible exact H) | (have H2_ := (Option.bind_some _ _).symm.trans H; rw [hy206]; with_reducible exact H2_) | (have H2_ := (Option.bind_some _ _).symm.trans H; with_reducible exact H2_) | with_reducible exact H | (rw [hy206]; exact H) | exact H
 have Ny206 := Aside0.mk hy206
 clear hy206
 replace H := Option.bind_eq_some_iff.mp H
 obtain ⟨t209, A40, H⟩ := H
 replace H : (if t209 = true then (some (y206, 0)) else (some (([] : List (S80)), 1))) = some (r1, r2) := H
 have A4 := Aside0.mk A40
 clear A40
 by_cases c5 : t209 = true
 · subst c5
   have H1 : (some (y206, 0)) = some (r1, r2) := by rw [if_pos rfl] at H; exact H
   clear H
   have H := H1
   clear H1
   simp only [Option.some.injEq, Prod.mk.injEq] at H
   obtain ⟨rfl, rfl⟩ := H
   go_enter Try.func58, Try.ntmps58
   go_wp2_with (first | ((with_reducible refine gate_callee (f := 76) rfl ?_); refine goesL_ (some 9) rfl rfl Try.func76 (by kernel_rfl) rfl #[.slice A1 l1.length c1] rfl (by (try simp only [List.map_toArray, List.map_cons, List.map_nil]); first | done | rfl) ?_; (with_reducible refine (slices_Clone_76.calls _ _ l1 t203 _ ?side1 ?side2 A3.out).mono ?_); (case side1 => repeat (first | exact HR1.out | with_reducible first | refine Kd.C_alloc ?_ _ | refine Kd.C_drewN ?_ _ | refine Kd.C_drew ?_)); (case side2 => exact HC1.out); rintro e w6 ⟨v204, rfl, ho0, hb⟩; refine ⟨_, rfl, ?_⟩; have n0_ := Aside0.mk (Kd.R_lower (Kd.R_newM (M := fun k_ => (w.heap.size ≤ k_)) ho0 bsz_ (fun k_ h_ => h_)) bsz_); have n1_ := Aside0.mk (bst_ hb); clear HB; have HO205 := n0_; have HB := n1_; clear n0_ n1_; (try clear hb); (try clear hb2); (try clear hk); (try clear hi); (try clear ho0); obtain ⟨Ao7, co7, eo7⟩ := Kd.R_slice HO205.out; subst eo7) | ((with_reducible refine gate_dst (N := 11) rfl ?_); refine Kd.N_lit k80 _ 80 ?hg (N' := 11) ?hd (xs := ([(⟨a0, t203⟩ : S80)] : List (S80))) (inner := [.int .i64 a0, .slice Ao7 t203.length co7]) (ok := (fun k_ => (w.heap.size ≤ k_))) (okp := (fun k_ => (w.heap.size ≤ k_))) ?hr ?hp (fun _ hk => hk) ((show ∀ k_, w6.heap.size ≤ k_ → (fun k_ => (w.heap.size ≤ k_)) k_ from fun k_ hk => (Nat.le_trans bsz_ hk)) _ (Nat.le_refl _)) (Below.refl _ _) (Nat.le_refl _) (by simp) ?_; (case hd => rfl); (case hg => rfl); (case hr => first | (go_simp; done) | (go_simp; rfl)); (case hp => exact (Reps.c2 (show Kd.FK k80 _ _ (⟨a0, t203⟩ : S80) [.int .i64 a0, .slice Ao7 t203.length co7] from (k80_mkF _ _ (⟨a0, t203⟩ : S80) (Kd.R_reads' (Kd.R_mono (ok' := (fun k_ => (w.heap.size ≤ k_))) (HO205.out) (fun k_ hk => hk.1))).2.1 (Kd.R_F (Kd.R_mono (ok' := (fun k_ => (w.heap.size ≤ k_))) (HO205.out) (fun k_ hk => hk.1))))) (Reps.none _ _))); intro v207 w8 ho9 hb hg_ hnew_; clear hg_ hnew_; (first | rw [← Ny206.out] at ho9 | (simp only [Int.reduceToNat] at ho9; rw [← Ny206.out] at ho9)); have n0_ := Aside0.mk (Kd.N_lower ho9 bsz_); have n1_ := Aside0.mk (bst_ hb); clear HB; clear HO205; have HO208 := n0_; have HB := n1_; clear n0_ n1_; clear hb ho9; obtain ⟨Ao10, co10, eo10⟩ := Kd.N_slice HO208.out; subst eo10) | ((with_reducible refine gate_callee (f := 34) rfl ?_); refine goesL_ (some 13) rfl rfl Try.func34 (by kernel_rfl) rfl #[.slice Ao10 y206.length co10] rfl (by (try simp only [List.map_toArray, List.map_cons, List.map_nil]); first | done | rfl) ?_; (with_reducible refine (opaque_Right.calls k _ _ y206 true _ ?side1 ?side2 A4.out).mono ?_); (case side1 => repeat (first | exact (Kd.N_reads' HO208.out).2.2 | with_reducible first | refine Kd.C_alloc ?_ _ | refine Kd.C_drewN ?_ _ | refine Kd.C_drew ?_)); (case side2 => exact (Kd.N_reads' HO208.out).2.1); rintro e w11 ⟨rfl, hb⟩; refine ⟨_, rfl, ?_⟩; have n0_ := Aside0.mk (Kd.N_below (by (with_reducible repeat (first | apply Kd.N_alloc | apply Kd.N_drewN | apply Kd.N_drew)); exact HO208.out) hb); have n1_ := Aside0.mk (bst_ hb); clear HO208; clear HB; have HO208 := n0_; have HB := n1_; clear n0_ n1_; (try clear hb); (try clear hb2); (try clear hk); (try clear hi)))
   go_ret2
   exact ⟨_, by first | rfl | (simp [errW_none, errW_some] <;> rfl) | (simp [*, errW_none, errW_some] <;> rfl), by (with_reducible repeat (first | apply Kd.N_alloc | apply Kd.N_drewN | apply Kd.N_drew)); exact HO208.out, by repeat (with_reducible first | exact HB.out | apply below_alloc | apply pw_below_drewN | apply below_drew1)⟩
 · replace c5 := Bool.eq_false_iff.mpr c5
   subst c5
   have H1 : (some (([] : List (S80)), 1)) = some (r1, r2) := by rw [if_neg (show ¬ (false = true) by decide)] at H; exact H
   clear H
   have H := H1
   clear H1
   simp only [Option.some.injEq, Prod.mk.injEq] at H
   obtain ⟨rfl, rfl⟩ := H
   go_enter Try.func58, Try.ntmps58
   go_wp2_with (first | ((with_reducible refine gate_callee (f := 76) rfl ?_); refine goesL_ (some 9) rfl rfl Try.func76 (by kernel_rfl) rfl #[.slice A1 l1.length c1] rfl (by (try simp only [List.map_toArray, List.map_cons, List.map_nil]); first | done | rfl) ?_; (with_reducible refine (slices_Clone_76.calls _ _ l1 t203 _ ?side1 ?side2 A3.out).mono ?_); (case side1 => repeat (first | exact HR1.out | with_reducible first | refine Kd.C_alloc ?_ _ | refine Kd.C_drewN ?_ _ | refine Kd.C_drew ?_)); (case side2 => exact HC1.out); rintro e w12 ⟨v204, rfl, ho0, hb⟩; refine ⟨_, rfl, ?_⟩; have n0_ := Aside0.mk (Kd.R_lower (Kd.R_newM (M := fun k_ => (w.heap.size ≤ k_)) ho0 bsz_ (fun k_ h_ => h_)) bsz_); have n1_ := Aside0.mk (bst_ hb); clear HB; have HO205 := n0_; have HB := n1_; clear n0_ n1_; (try clear hb); (try clear hb2); (try clear hk); (try clear hi); (try clear ho0); obtain ⟨Ao13, co13, eo13⟩ := Kd.R_slice HO205.out; subst eo13) | ((with_reducible refine gate_dst (N := 11) rfl ?_); refine Kd.N_lit k80 _ 80 ?hg (N' := 11) ?hd (xs := ([(⟨a0, t203⟩ : S80)] : List (S80))) (inner := [.int .i64 a0, .slice Ao13 t203.length co13]) (ok := (fun k_ => (w.heap.size ≤ k_))) (okp := (fun k_ => (w.heap.size ≤ k_))) ?hr ?hp (fun _ hk => hk) ((show ∀ k_, w12.heap.size ≤ k_ → (fun k_ => (w.heap.size ≤ k_)) k_ from fun k_ hk => (Nat.le_trans bsz_ hk)) _ (Nat.le_refl _)) (Below.refl _ _) (Nat.le_refl _) (by simp) ?_; (case hd => rfl); (case hg => rfl); (case hr => first | (go_simp; done) | (go_simp; rfl)); (case hp => exact (Reps.c2 (show Kd.FK k80 _ _ (⟨a0, t203⟩ : S80) [.int .i64 a0, .slice Ao13 t203.length co13] from (k80_mkF _ _ (⟨a0, t203⟩ : S80) (Kd.R_reads' (Kd.R_mono (ok' := (fun k_ => (w.heap.size ≤ k_))) (HO205.out) (fun k_ hk => hk.1))).2.1 (Kd.R_F (Kd.R_mono (ok' := (fun k_ => (w.heap.size ≤ k_))) (HO205.out) (fun k_ hk => hk.1))))) (Reps.none _ _))); intro v207 w14 ho15 hb hg_ hnew_; clear hg_ hnew_; (first | rw [← Ny206.out] at ho15 | (simp only [Int.reduceToNat] at ho15; rw [← Ny206.out] at ho15)); have n0_ := Aside0.mk (Kd.N_lower ho15 bsz_); have n1_ := Aside0.mk (bst_ hb); clear HB; clear HO205; have HO208 := n0_; have HB := n1_; clear n0_ n1_; clear hb ho15; obtain ⟨Ao16, co16, eo16⟩ := Kd.N_slice HO208.out; subst eo16) | ((with_reducible refine gate_callee (f := 34) rfl ?_); refine goesL_ (some 13) rfl rfl Try.func34 (by kernel_rfl) rfl #[.slice Ao16 y206.length co16] rfl (by (try simp only [List.map_toArray, List.map_cons, List.map_nil]); first | done | rfl) ?_; (with_reducible refine (opaque_Right.calls k _ _ y206 false _ ?side1 ?side2 A4.out).mono ?_); (case side1 => repeat (first | exact (Kd.N_reads' HO208.out).2.2 | with_reducible first | refine Kd.C_alloc ?_ _ | refine Kd.C_drewN ?_ _ | refine Kd.C_drew ?_)); (case side2 => exact (Kd.N_reads' HO208.out).2.1); rintro e w17 ⟨rfl, hb⟩; refine ⟨_, rfl, ?_⟩; have n0_ := Aside0.mk (Kd.N_below (by (with_reducible repeat (first | apply Kd.N_alloc | apply Kd.N_drewN | apply Kd.N_drew)); exact HO208.out) hb); have n1_ := Aside0.mk (bst_ hb); clear HO208; clear HB; have HO208 := n0_; have HB := n1_; clear n0_ n1_; (try clear hb); (try clear hb2); (try clear hk); (try clear hi)))
   go_ret2
   exact ⟨_, by first | rfl | (simp [errW_none, errW_some] <;> rfl) | (simp [*, errW_none, errW_some] <;> rfl), by first | exact Kd.S_nil _ _ _ _ _ | exact Kd.N_nil _ _ _ _ _ | exact Kd.V_nil _ _ _ _ _ | exact Kd.Q_nil _ _ _ _ _ | exact Kd.R_nil _ _ _ _ _, by repeat (with_reducible first | exact HB.out | apply below_alloc | apply pw_below_drewN | apply below_drew1)⟩

/-! ### handshakerlaw13_awake: function 31 -/
def handshakerlaw13_awake.f (k : Nat)  : Option (Bool) := (opaque_Begin.f k 0 (([(⟨true, 1⟩ : S66)] : List (S66)))).bind fun bt213 => ((opaque_Next.f k bt213.1 5 (([(⟨0, 2⟩ : S77)] : List (S77)))).bind fun bt220 => ((opaque_At.f k bt220.1 4).bind fun bt224 => ((opaque_At.f k bt220.1 (-1)).bind fun bt228 => ((some (([(⟨0, 0, 2⟩ : S84)] : List (S84)) : List (S84))).bind fun y232 => ((opaque_Next.f k bt220.1 5 ([] : List (S77))).bind fun bt235 => (if bt213.2 = 0 then (if bt220.2 = 0 then (if (bt220.1.length : Int) = 2 then (if bt224.2 = 0 then (if (bt224.1.length : Int) = 1 then (if 0 < (bt224.1.length : Int) then (if ((rd_T66 bt224.1 0).f1) = 1 then (if bt228.2 = 3 then ((opaque_Holds.f k bt220.1 9 y232).bind fun t240 => (if t240 = true then ((opaque_Holds.f k bt220.1 4 y232).bind fun t241 => (if t241 = true then (some false) else ((opaque_Span.f k bt220.1 y232).bind fun t242 => ((handshakerref03_Numbers.f k t242 (([5] : List Int))).bind fun t248 => (if t248 = true then (if bt235.2 = 1 then ((opaque_Right.f k bt220.1).bind fun t249 => (some t249)) else (some false)) else (some false)))))) else (some false))) else (some false)) else (some false)) else (none)) else (some false)) else (some false)) else (some false)) else (some false)) else (some false)))))))
theorem handshakerlaw13_awake.mono : ∀ k, LeO (handshakerlaw13_awake.f k ) (handshakerlaw13_awake.f (k + 1) ) := by
 intro  k
 unfold handshakerlaw13_awake.f
 repeat' first
  | (with_reducible exact handshakerref03_Numbers.mono _ _ _)
  | (with_reducible exact opaque_At.mono _ _ _)
  | (with_reducible exact opaque_Begin.mono _ _ _)
  | (with_reducible exact opaque_Holds.mono _ _ _ _)
  | (with_reducible exact opaque_Next.mono _ _ _ _)
  | (with_reducible exact opaque_Right.mono _ _)
  | (with_reducible exact opaque_Span.mono _ _ _)
  | (with_reducible exact LeO.refl _)
  | (with_reducible exact LeO.none _)
  | (with_reducible refine LeO.ite ?_ ?_)
  | (with_reducible refine LeO.bind ?_ (fun _ => ?_))
  | exact handshakerref03_Numbers.mono _ _ _
  | exact opaque_At.mono _ _ _
  | exact opaque_Begin.mono _ _ _
  | exact opaque_Holds.mono _ _ _ _
  | exact opaque_Next.mono _ _ _ _
  | exact opaque_Right.mono _ _
  | exact opaque_Span.mono _ _ _
  | exact LeO.none _
  | refine LeO.ite ?_ ?_
  | refine LeO.bind ?_ (fun _ => ?_)
set_option maxHeartbeats 8000000 in
set_option maxRecDepth 100000 in
theorem handshakerlaw13_awake.callsT (k : Nat)  (r : Bool) (w : World) (HT : Aside0 (r = true)) (h : handshakerlaw13_awake.f k  = some r) :
 Calls Try.prog 31 #[] w fun e w' => e = .returned (.bool r) ∧ Below w.heap.size w w' := by
 have hu66 := Try.underlying66
 have hu77 := Try.underlying77
 have hu84 := Try.underlying84
 have HB := Aside0.mk (Below.refl w.heap.size w)
 have H : ((opaque_Begin.f k 0 (([(⟨true, 1⟩ : S66)] : List (S66)))).bind fun bt213 => ((opaque_Next.f k bt213.1 5 (([(⟨0, 2⟩ : S77)] : List (S77)))).bind fun bt220 => ((opaque_At.f k bt220.1 4).bind fun bt224 => ((opaque_At.f k bt220.1 (-1)).bind fun bt228 => ((some (([(⟨0, 0, 2⟩ : S84)] : List (S84)) : List (S84))).bind fun y232 => ((opaque_Next.f k bt220.1 5 ([] : List (S77))).bind fun bt235 => (if bt213.2 = 0 then (if bt220.2 = 0 then (if (bt220.1.length : Int) = 2 then (if bt224.2 = 0 then (if (bt224.1.length : Int) = 1 then (if 0 < (bt224.1.length : Int) then (if ((rd_T66 bt224.1 0).f1) = 1 then (if bt228.2 = 3 then ((opaque_Holds.f k bt220.1 9 y232).bind fun t240 => (if t240 = true then ((opaque_Holds.f k bt220.1 4 y232).bind fun t241 => (if t241 = true then (some false) else ((opaque_Span.f k bt220.1 y232).bind fun t242 => ((handshakerref03_Numbers.f k t242 (([5] : List Int))).bind fun t248 => (if t248 = true then (if bt235.2 = 1 then ((opaque_Right.f k bt220.1).bind fun t249 => (some t249)) else (some false)) else (some false)))))) else (some false))) else (some false)) else (some false)) else (none)) else (some false)) else (some false)) else (some false)) else (some false)) else (some false)))))))) = some r := h
 clear h
 obtain ⟨y210, hy210⟩ : ∃ y_ : List (S66), y_ = (([(⟨true, 1⟩ : S66)] : List (S66))) := ⟨_, rfl⟩
 replace H : ((opaque_Begin.f k 0 y210).bind fun bt213 => ((opaque_Next.f k bt213.1 5 (([(⟨0, 2⟩ : S77)] : List (S77)))).bind fun bt220 => ((opaque_At.f k bt220.1 4).bind fun bt224 => ((opaque_At.f k bt220.1 (-1)).bind fun bt228 => ((some (([(⟨0, 0, 2⟩ : S84)] : List (S84)) : List (S84))).bind fun y232 => ((opaque_Next.f k bt220.1 5 ([] : List (S77))).bind fun bt235 => (if bt213.2 = 0 then (if bt220.2 = 0 then (if (bt220.1.length : Int) = 2 then (if bt224.2 = 0 then (if (bt224.1.length : Int) = 1 then (if 0 < (bt224.1.length : Int) then (if ((rd_T66 bt224.1 0).f1) = 1 then (if bt228.2 = 3 then ((opaque_Holds.f k bt220.1 9 y232).bind fun t240 => (if t240 = true then ((opaque_Holds.f k bt220.1 4 y232).bind fun t241 => (if t241 = true then (some false) else ((opaque_Span.f k bt220.1 y232).bind fun t242 => ((handshakerref03_Numbers.f k t242 (([5] : List Int))).bind fun t248 => (if t248 = true then (if bt235.2 = 1 then ((opaque_Right.f k bt220.1).bind fun t249 => (some t249)) else (some false)) else (some false)))))) else (some false))) else (some false)) else (some false)) else (none)) else (some false)) else (some false)) else (some false)) else (some false)) else (some false)))))))) = some r := by first | (rw [hy210]; with_reducible exact H) | (have H2_ := (Option.bind_some _ _).symm.trans H; rw [hy210]; with_reducible exact H2_) | (have H2_ := (Option.bind_some _ _).symm.trans H; with_reducible exact H2_) | with_reducible exact H | (rw [hy210]; exact H) | exact H
 have Ny210 := Aside0.mk hy210
 clear hy210
 replace H := Option.bind_eq_some_iff.mp H
 obtain ⟨⟨t213, t216⟩, A10, H⟩ := H
 replace H : ((opaque_Next.f k t213 5 (([(⟨0, 2⟩ : S77)] : List (S77)))).bind fun bt220 => ((opaque_At.f k bt220.1 4).bind fun bt224 => ((opaque_At.f k bt220.1 (-1)).bind fun bt228 => ((some (([(⟨0, 0, 2⟩ : S84)] : List (S84)) : List (S84))).bind fun y232 => ((opaque_Next.f k bt220.1 5 ([] : List (S77))).bind fun bt235 => (if t216 = 0 then (if bt220.2 = 0 then (if (bt220.1.length : Int) = 2 then (if bt224.2 = 0 then (if (bt224.1.length : Int) = 1 then (if 0 < (bt224.1.length : Int) then (if ((rd_T66 bt224.1 0).f1) = 1 then (if bt228.2 = 3 then ((opaque_Holds.f k bt220.1 9 y232).bind fun t240 => (if t240 = true then ((opaque_Holds.f k bt220.1 4 y232).bind fun t241 => (if t241 = true then (some false) else ((opaque_Span.f k bt220.1 y232).bind fun t242 => ((handshakerref03_Numbers.f k t242 (([5] : List Int))).bind fun t248 => (if t248 = true then (if bt235.2 = 1 then ((opaque_Right.f k bt220.1).bind fun t249 => (some t249)) else (some false)) else (some false)))))) else (some false))) else (some false)) else (some false)) else (none)) else (some false)) else (some false)) else (some false)) else (some false)) else (some false))))))) = some r := H
 have A1 := Aside0.mk A10
 clear A10
 obtain ⟨y217, hy217⟩ : ∃ y_ : List (S77), y_ = (([(⟨0, 2⟩ : S77)] : List (S77))) := ⟨_, rfl⟩
 replace H : ((opaque_Next.f k t213 5 y217).bind fun bt220 => ((opaque_At.f k bt220.1 4).bind fun bt224 => ((opaque_At.f k bt220.1 (-1)).bind fun bt228 => ((some (([(⟨0, 0, 2⟩ : S84)] : List (S84)) : List (S84))).bind fun y232 => ((opaque_Next.f k bt220.1 5 ([] : List (S77))).bind fun bt235 => (if t216 = 0 then (if bt220.2 = 0 then (if (bt220.1.length : Int) = 2 then (if bt224.2 = 0 then (if (bt224.1.length : Int) = 1 then (if 0 < (bt224.1.length : Int) then (if ((rd_T66 bt224.1 0).f1) = 1 then (if bt228.2 = 3 then ((opaque_Holds.f k bt220.1 9 y232).bind fun t240 => (if t240 = true then ((opaque_Holds.f k bt220.1 4 y232).bind fun t241 => (if t241 = true then (some false) else ((opaque_Span.f k bt220.1 y232).bind fun t242 => ((handshakerref03_Numbers.f k t242 (([5] : List Int))).bind fun t248 => (if t248 = true then (if bt235.2 = 1 then ((opaque_Right.f k bt220.1).bind fun t249 => (some t249)) else (some false)) else (some false)))))) else (some false))) else (some false)) else (some false)) else (none)) else (some false)) else (some false)) else (some false)) else (some false)) else (some false))))))) = some r := by first | (rw [hy217]; with_reducible exact H) | (have H2_ := (Option.bind_some _ _).symm.trans H; rw [hy217]; with_reducible exact H2_) | (have H2_ := (Option.bind_some _ _).symm.trans H; with_reducible exact H2_) | with_reducible exact H | (rw [hy217]; exact H) | exact H
 have Ny217 := Aside0.mk hy217
 clear hy217
 replace H := Option.bind_eq_some_iff.mp H
 obtain ⟨⟨t220, t223⟩, A20, H⟩ := H
 replace H : ((opaque_At.f k t220 4).bind fun bt224 => ((opaque_At.f k t220 (-1)).bind fun bt228 => ((some (([(⟨0, 0, 2⟩ : S84)] : List (S84)) : List (S84))).bind fun y232 => ((opaque_Next.f k t220 5 ([] : List (S77))).bind fun bt235 => (if t216 = 0 then (if t223 = 0 then (if (t220.length : Int) = 2 then (if bt224.2 = 0 then (if (bt224.1.length : Int) = 1 then (if 0 < (bt224.1.length : Int) then (if ((rd_T66 bt224.1 0).f1) = 1 then (if bt228.2 = 3 then ((opaque_Holds.f k t220 9 y232).bind fun t240 => (if t240 = true then ((opaque_Holds.f k t220 4 y232).bind fun t241 => (if t241 = true then (some false) else ((opaque_Span.f k t220 y232).bind fun t242 => ((handshakerref03_Numbers.f k t242 (([5] : List Int))).bind fun t248 => (if t248 = true then (if bt235.2 = 1 then ((opaque_Right.f k t220).bind fun t249 => (some t249)) else (some false)) else (some false)))))) else (some false))) else (some false)) else (some false)) else (none)) else (some false)) else (some false)) else (some false)) else (some false)) else (some false)))))) = some r := H
 have A2 := Aside0.mk A20
 clear A20
 replace H := Option.bind_eq_some_iff.mp H
 obtain ⟨⟨t224, t227⟩, A30, H⟩ := H
 replace H : ((opaque_At.f k t220 (-1)).bind fun bt228 => ((some (([(⟨0, 0, 2⟩ : S84)] : List (S84)) : List (S84))).bind fun y232 => ((opaque_Next.f k t220 5 ([] : List (S77))).bind fun bt235 => (if t216 = 0 then (if t223 = 0 then (if (t220.length : Int) = 2 then (if t227 = 0 then (if (t224.length : Int) = 1 then (if 0 < (t224.length : Int) then (if ((rd_T66 t224 0).f1) = 1 then (if bt228.2 = 3 then ((opaque_Holds.f k t220 9 y232).bind fun t240 => (if t240 = true then ((opaque_Holds.f k t220 4 y232).bind fun t241 => (if t241 = true then (some false) else ((opaque_Span.f k t220 y232).bind fun t242 => ((handshakerref03_Numbers.f k t242 (([5] : List Int))).bind fun t248 => (if t248 = true then (if bt235.2 = 1 then ((opaque_Right.f k t220).bind fun t249 => (some t249)) else (some false)) else (some false)))))) else (some false))) else (some false)) else (some false)) else (none)) else (some false)) else (some false)) else (some false)) else (some false)) else (some false))))) = some r := H
 have A3 := Aside0.mk A30
 clear A30
 replace H := Option.bind_eq_some_iff.mp H
 obtain ⟨⟨t228, t231⟩, A40, H⟩ := H
 replace H : ((some (([(⟨0, 0, 2⟩ : S84)] : List (S84)) : List (S84))).bind fun y232 => ((opaque_Next.f k t220 5 ([] : List (S77))).bind fun bt235 => (if t216 = 0 then (if t223 = 0 then (if (t220.length : Int) = 2 then (if t227 = 0 then (if (t224.length : Int) = 1 then (if 0 < (t224.length : Int) then (if ((rd_T66 t224 0).f1) = 1 then (if t231 = 3 then ((opaque_Holds.f k t220 9 y232).bind fun t240 => (if t240 = true then ((opaque_Holds.f k t220 4 y232).bind fun t241 => (if t241 = true then (some false) else ((opaque_Span.f k t220 y232).bind fun t242 => ((handshakerref03_Numbers.f k t242 (([5] : List Int))).bind fun t248 => (if t248 = true then (if bt235.2 = 1 then ((opaque_Right.f k t220).bind fun t249 => (some t249)) else (some false)) else (some false)))))) else (some false))) else (some false)) else (some false)) else (none)) else (some false)) else (some false)) else (some false)) else (some false)) else (some false)))) = some r := H
 have A4 := Aside0.mk A40
 clear A40
 obtain ⟨y232, hy232⟩ : ∃ y_ : List (S84), y_ = (([(⟨0, 0, 2⟩ : S84)] : List (S84))) := ⟨_, rfl⟩
 replace H : ((opaque_Next.f k t220 5 ([] : List (S77))).bind fun bt235 => (if t216 = 0 then (if t223 = 0 then (if (t220.length : Int) = 2 then (if t227 = 0 then (if (t224.length : Int) = 1 then (if 0 < (t224.length : Int) then (if ((rd_T66 t224 0).f1) = 1 then (if t231 = 3 then ((opaque_Holds.f k t220 9 y232).bind fun t240 => (if t240 = true then ((opaque_Holds.f k t220 4 y232).bind fun t241 => (if t241 = true then (some false) else ((opaque_Span.f k t220 y232).bind fun t242 => ((handshakerref03_Numbers.f k t242 (([5] : List Int))).bind fun t248 => (if t248 = true then (if bt235.2 = 1 then ((opaque_Right.f k t220).bind fun t249 => (some t249)) else (some false)) else (some false)))))) else (some false))) else (some false)) else (some false)) else (none)) else (some false)) else (some false)) else (some false)) else (some false)) else (some false))) = some r := by first | (rw [hy232]; with_reducible exact H) | (have H2_ := (Option.bind_some _ _).symm.trans H; rw [hy232]; with_reducible exact H2_) | (have H2_ := (Option.bind_some _ _).symm.trans H; with_reducible exact H2_) | with_reducible exact H | (rw [hy232]; exact H) | exact H
 have Ny232 := Aside0.mk hy232
 clear hy232
 replace H := Option.bind_eq_some_iff.mp H
 obtain ⟨⟨t235, t238⟩, A50, H⟩ := H
 replace H : (if t216 = 0 then (if t223 = 0 then (if (t220.length : Int) = 2 then (if t227 = 0 then (if (t224.length : Int) = 1 then (if 0 < (t224.length : Int) then (if ((rd_T66 t224 0).f1) = 1 then (if t231 = 3 then ((opaque_Holds.f k t220 9 y232).bind fun t240 => (if t240 = true then ((opaque_Holds.f k t220 4 y232).bind fun t241 => (if t241 = true then (some false) else ((opaque_Span.f k t220 y232).bind fun t242 => ((handshakerref03_Numbers.f k t242 (([5] : List Int))).bind fun t248 => (if t248 = true then (if t238 = 1 then ((opaque_Right.f k t220).bind fun t249 => (some t249)) else (some false)) else (some false)))))) else (some false))) else (some false)) else (some false)) else (none)) else (some false)) else (some false)) else (some false)) else (some false)) else (some false)) = some r := H
 have A5 := Aside0.mk A50
 clear A50
 by_cases c6 : t216 = 0
 · rw [if_pos c6] at H
   have c6b0 : (t216 == 0) = true := beq_iff_eq.mpr c6
   have c6b1 : (t216 != 0) = false := bne_eq_false_iff_eq.mpr c6
   clear c6
   by_cases c7 : t223 = 0
   · rw [if_pos c7] at H
     have c7b0 : (t223 == 0) = true := beq_iff_eq.mpr c7
     have c7b1 : (t223 != 0) = false := bne_eq_false_iff_eq.mpr c7
     clear c7
     by_cases c8 : (t220.length : Int) = 2
     · rw [if_pos c8] at H
       have c8b0 : ((t220.length : Int) == 2) = true := beq_iff_eq.mpr c8
       have c8b1 : ((t220.length : Int) != 2) = false := bne_eq_false_iff_eq.mpr c8
       clear c8
       by_cases c9 : t227 = 0
       · rw [if_pos c9] at H
         have c9b0 : (t227 == 0) = true := beq_iff_eq.mpr c9
         have c9b1 : (t227 != 0) = false := bne_eq_false_iff_eq.mpr c9
         clear c9
         by_cases c10 : (t224.length : Int) = 1
         · rw [if_pos c10] at H
           have c10b0 : ((t224.length : Int) == 1) = true := beq_iff_eq.mpr c10
           have c10b1 : ((t224.length : Int) != 1) = false := bne_eq_false_iff_eq.mpr c10
           clear c10
           by_cases c11 : 0 < (t224.length : Int)
           · rw [if_pos c11] at H
             have c11b0 : decide (0 < (t224.length : Int)) = true := decide_eq_true c11
             have c11b1 : decide (0 < t224.length) = true := decide_eq_true (by omega)
             clear c11
             by_cases c12 : ((rd_T66 t224 0).f1) = 1
             · rw [if_pos c12] at H
               have c12b0 : (((rd_T66 t224 0).f1) == 1) = true := beq_iff_eq.mpr c12
               have c12b1 : (((rd_T66 t224 0).f1) != 1) = false := bne_eq_false_iff_eq.mpr c12
               clear c12
               by_cases c13 : t231 = 3
               · rw [if_pos c13] at H
                 have c13b0 : (t231 == 3) = true := beq_iff_eq.mpr c13
                 have c13b1 : (t231 != 3) = false := bne_eq_false_iff_eq.mpr c13
                 clear c13
                 replace H := Option.bind_eq_some_iff.mp H
                 obtain ⟨t240, A140, H⟩ := H
                 replace H : (if t240 = true then ((opaque_Holds.f k t220 4 y232).bind fun t241 => (if t241 = true then (some false) else ((opaque_Span.f k t220 y232).bind fun t242 => ((handshakerref03_Numbers.f k t242 (([5] : List Int))).bind fun t248 => (if t248 = true then (if t238 = 1 then ((opaque_Right.f k t220).bind fun t249 => (some t249)) else (some false)) else (some false)))))) else (some false)) = some r := H
                 have A14 := Aside0.mk A140
                 clear A140
                 by_cases c15 : t240 = true
                 · subst c15
                   have H1 : ((opaque_Holds.f k t220 4 y232).bind fun t241 => (if t241 = true then (some false) else ((opaque_Span.f k t220 y232).bind fun t242 => ((handshakerref03_Numbers.f k t242 (([5] : List Int))).bind fun t248 => (if t248 = true then (if t238 = 1 then ((opaque_Right.f k t220).bind fun t249 => (some t249)) else (some false)) else (some false)))))) = some r := by rw [if_pos rfl] at H; exact H
                   clear H
                   have H := H1
                   clear H1
                   replace H := Option.bind_eq_some_iff.mp H
                   obtain ⟨t241, A160, H⟩ := H
                   replace H : (if t241 = true then (some false) else ((opaque_Span.f k t220 y232).bind fun t242 => ((handshakerref03_Numbers.f k t242 (([5] : List Int))).bind fun t248 => (if t248 = true then (if t238 = 1 then ((opaque_Right.f k t220).bind fun t249 => (some t249)) else (some false)) else (some false))))) = some r := H
                   have A16 := Aside0.mk A160
                   clear A160
                   by_cases c17 : t241 = true
                   · subst c17
                     have H1 : (some false) = some r := by rw [if_pos rfl] at H; exact H
                     clear H
                     have H := H1
                     clear H1
                     exact absurd (Option.some.inj H) (by rw [HT.out]; decide)
                   · replace c17 := Bool.eq_false_iff.mpr c17
                     subst c17
                     have H1 : ((opaque_Span.f k t220 y232).bind fun t242 => ((handshakerref03_Numbers.f k t242 (([5] : List Int))).bind fun t248 => (if t248 = true then (if t238 = 1 then ((opaque_Right.f k t220).bind fun t249 => (some t249)) else (some false)) else (some false)))) = some r := by rw [if_neg (show ¬ (false = true) by decide)] at H; exact H
                     clear H
                     have H := H1
                     clear H1
                     replace H := Option.bind_eq_some_iff.mp H
                     obtain ⟨t242, A180, H⟩ := H
                     replace H : ((handshakerref03_Numbers.f k t242 (([5] : List Int))).bind fun t248 => (if t248 = true then (if t238 = 1 then ((opaque_Right.f k t220).bind fun t249 => (some t249)) else (some false)) else (some false))) = some r := H
                     have A18 := Aside0.mk A180
                     clear A180
                     obtain ⟨y245, hy245⟩ : ∃ y_ : List Int, y_ = (([5] : List Int)) := ⟨_, rfl⟩
                     replace H : ((handshakerref03_Numbers.f k t242 y245).bind fun t248 => (if t248 = true then (if t238 = 1 then ((opaque_Right.f k t220).bind fun t249 => (some t249)) else (some false)) else (some false))) = some r := by first | (rw [hy245]; with_reducible exact H) | (have H2_ := (Option.bind_some _ _).symm.trans H; rw [hy245]; with_reducible exact H2_) | (have H2_ := (Option.bind_some _ _).symm.trans H; with_reducible exact H2_) | with_reducible exact H | (rw [hy245]; exact H) | exact H
                     have Ny245 := Aside0.mk hy245
                     clear hy245
                     replace H := Option.bind_eq_some_iff.mp H
                     obtain ⟨t248, A190, H⟩ := H
                     replace H : (if t248 = true then (if t238 = 1 then ((opaque_Right.f k t220).bind fun t249 => (some t249)) else (some false)) else (some false)) = some r := H
                     have A19 := Aside0.mk A190
                     clear A190
                     by_cases c20 : t248 = true
                     · subst c20
                       have H1 : (if t238 = 1 then ((opaque_Right.f k t220).bind fun t249 => (some t249)) else (some false)) = some r := by rw [if_pos rfl] at H; exact H
                       clear H
                       have H := H1
                       clear H1
                       by_cases c21 : t238 = 1
                       · rw [if_pos c21] at H
                         have c21b0 : (t238 == 1) = true := beq_iff_eq.mpr c21
                         have c21b1 : (t238 != 1) = false := bne_eq_false_iff_eq.mpr c21
                         clear c21
                         replace H := Option.bind_eq_some_iff.mp H
                         obtain ⟨t249, A220, H⟩ := H
                         replace H : (some t249) = some r := H
                         have A22 := Aside0.mk A220
                         clear A220
                         obtain rfl := Option.some.inj H
                         go_enter Try.func31, Try.ntmps31
                         go_wp2_with (first | ((with_reducible refine gate_dst (N := 13) rfl ?_); (try (refine gate_guard (by rfl) ?_; dsimp only)); refine Kd.R_lit k66 _ 66 ?hg (N := 13) ?hd (xs := ([(⟨true, 1⟩ : S66)] : List (S66))) (inner := [.bool true, .int .i64 1]) (ok := fun _ => True) (okp := fun _ => True) ?hr ?hp (fun _ hk => hk) trivial (Below.refl _ _) (Nat.le_refl _) (by simp) ?_; (case hd => rfl); (case hg => rfl); (case hr => first | (go_simp; done) | (go_simp; rfl)); (case hp => exact (Reps.c2 (show Kd.M k66 _ _ _ (⟨true, 1⟩ : S66) [.bool true, .int .i64 1] from (k66_mkM _ _ _ (⟨true, 1⟩ : S66) )) (Reps.none _ _))); intro v211 w23 ho24 hb hg_ hnew_; clear hg_ hnew_; (first | rw [← Ny210.out] at ho24 | (simp only [Int.reduceToNat] at ho24; rw [← Ny210.out] at ho24)); have n0_ := Aside0.mk (Kd.R_lower ho24 bsz_); have n1_ := Aside0.mk (bst_ hb); clear HB; have HO212 := n0_; have HB := n1_; clear n0_ n1_; clear hb ho24; obtain ⟨Ao25, co25, eo25⟩ := Kd.R_slice HO212.out; subst eo25) | ((with_reducible refine gate_callee (f := 58) rfl ?_); refine goesL_ (some 14) rfl rfl Try.func58 (by kernel_rfl) rfl #[.int .i64 0, .slice Ao25 y210.length co25] rfl (by (try simp only [List.map_toArray, List.map_cons, List.map_nil]); first | done | rfl) ?_; (with_reducible refine (opaque_Begin.calls k 0 _ _ y210 t213 t216 _ ?side1 ?side2 A1.out).mono ?_); (case side1 => repeat (first | exact (Kd.R_reads' HO212.out).2.2 | with_reducible first | refine Kd.C_alloc ?_ _ | refine Kd.C_drewN ?_ _ | refine Kd.C_drew ?_)); (case side2 => exact (Kd.R_reads' HO212.out).2.1); rintro e w26 ⟨v214, rfl, ho0, hb⟩; refine ⟨_, rfl, ?_⟩; have n0_ := Aside0.mk (Kd.R_below (by (with_reducible repeat (first | apply Kd.R_alloc | apply Kd.R_drewN | apply Kd.R_drew)); exact HO212.out) hb); have n1_ := Aside0.mk (Kd.N_lower (Kd.N_mono (ok' := fun k_ => some k_ ≠ (.slice Ao25 y210.length co25 : Value).ownBlock) ho0 (fun k_ hk_ => (Kd.fresh' (Kd.R_lt (by (with_reducible repeat (first | apply Kd.R_alloc | apply Kd.R_drewN | apply Kd.R_drew)); exact HO212.out)) k_ hk_))) bsz_); have n2_ := Aside0.mk (bst_ hb); clear HO212; clear HB; have HO212 := n0_; have HO215 := n1_; have HB := n2_; clear n0_ n1_ n2_; (try clear hb); (try clear hb2); (try clear hk); (try clear hi); (try clear ho0)) | ((with_reducible refine gate_dst (N := 20) rfl ?_); (try (refine gate_guard (by rfl) ?_; dsimp only)); refine Kd.R_lit k77 _ 77 ?hg (N := 20) ?hd (xs := ([(⟨0, 2⟩ : S77)] : List (S77))) (inner := [.int .i64 0, .int .i64 2]) (ok := fun _ => True) (okp := fun _ => True) ?hr ?hp (fun _ hk => hk) trivial (Below.refl _ _) (Nat.le_refl _) (by simp) ?_; (case hd => rfl); (case hg => rfl); (case hr => first | (go_simp; done) | (go_simp; rfl)); (case hp => exact (Reps.c2 (show Kd.M k77 _ _ _ (⟨0, 2⟩ : S77) [.int .i64 0, .int .i64 2] from (k77_mkM _ _ _ (⟨0, 2⟩ : S77) )) (Reps.none _ _))); intro v218 w27 ho28 hb hg_ hnew_; clear hg_ hnew_; (first | rw [← Ny217.out] at ho28 | (simp only [Int.reduceToNat] at ho28; rw [← Ny217.out] at ho28)); have n0_ := Aside0.mk (Kd.R_below (by (with_reducible repeat (first | apply Kd.R_alloc | apply Kd.R_drewN | apply Kd.R_drew)); exact HO212.out) hb); have n1_ := Aside0.mk (Kd.N_elder' (by (with_reducible repeat (first | apply Kd.N_alloc | apply Kd.N_drewN | apply Kd.N_drew)); exact HO215.out) (Kd.R_base ho28) hb); have n2_ := Aside0.mk (Kd.R_lower ho28 bsz_); have n3_ := Aside0.mk (bst_ hb); clear HO212; clear HO215; clear HB; have HO212 := n0_; have HO215 := n1_; have HO219 := n2_; have HB := n3_; clear n0_ n1_ n2_ n3_; clear hb ho28; obtain ⟨Ao29, co29, eo29⟩ := Kd.N_slice HO215.out; subst eo29; obtain ⟨Ao30, co30, eo30⟩ := Kd.R_slice HO219.out; subst eo30) | ((with_reducible refine gate_callee (f := 32) rfl ?_); refine goesL_ (some 21) rfl rfl Try.func32 (by kernel_rfl) rfl #[.slice Ao29 t213.length co29, .int .i64 5, .slice Ao30 y217.length co30] rfl (by (try simp only [List.map_toArray, List.map_cons, List.map_nil]); first | done | rfl) ?_; (with_reducible refine (opaque_Next.calls k (fun k_ => (some k_ ≠ (.slice Ao25 y210.length co25 : Value).ownBlock ∧ some k_ ≠ (.slice Ao30 y217.length co30 : Value).ownBlock)) _ _ t213 5 _ _ y217 t220 t223 _ ?side1 ?side2 ?side3 A2.out).mono ?_); (case side1 => exact Kd.N_V (HO215.out)); (case side2 => repeat (first | exact (Kd.R_reads' HO219.out).2.2 | with_reducible first | refine Kd.C_alloc ?_ _ | refine Kd.C_drewN ?_ _ | refine Kd.C_drew ?_)); (case side3 => exact (Kd.R_reads' HO219.out).2.1); rintro e w31 ⟨v221, rfl, ho0, hb⟩; refine ⟨_, rfl, ?_⟩; have n0_ := Aside0.mk (Kd.R_below (by (with_reducible repeat (first | apply Kd.R_alloc | apply Kd.R_drewN | apply Kd.R_drew)); exact HO212.out) hb); have n1_ := Aside0.mk (Kd.N_below (by (with_reducible repeat (first | apply Kd.N_alloc | apply Kd.N_drewN | apply Kd.N_drew)); exact HO215.out) hb); have n2_ := Aside0.mk (Kd.R_below (by (with_reducible repeat (first | apply Kd.R_alloc | apply Kd.R_drewN | apply Kd.R_drew)); exact HO219.out) hb); have n3_ := Aside0.mk (Kd.V_lower (Kd.V_mono (ok' := fun k_ => some k_ ≠ (.slice Ao25 y210.length co25 : Value).ownBlock ∧ some k_ ≠ (.slice Ao30 y217.length co30 : Value).ownBlock) ho0 (fun k_ hk_ => ⟨Or.elim hk_ (fun hs_ => hs_.1) (fun hn_ => (Kd.fresh' (Kd.R_lt (by (with_reducible repeat (first | apply Kd.R_alloc | apply Kd.R_drewN | apply Kd.R_drew)); exact HO212.out)) k_ hn_)), Or.elim hk_ (fun hs_ => hs_.2) (fun hn_ => (Kd.fresh' (Kd.R_lt (by (with_reducible repeat (first | apply Kd.R_alloc | apply Kd.R_drewN | apply Kd.R_drew)); exact HO219.out)) k_ hn_))⟩)) bsz_); have n4_ := Aside0.mk (bst_ hb); clear HO212; clear HO215; clear HO219; clear HB; have HO212 := n0_; have HO215 := n1_; have HO219 := n2_; have HO222 := n3_; have HB := n4_; clear n0_ n1_ n2_ n3_ n4_; (try clear hb); (try clear hb2); (try clear hk); (try clear hi); (try clear ho0); obtain ⟨Ao32, co32, eo32⟩ := Kd.V_slice HO222.out; subst eo32) | ((with_reducible refine gate_callee (f := 33) rfl ?_); refine goesL_ (some 26) rfl rfl Try.func33 (by kernel_rfl) rfl #[.slice Ao32 t220.length co32, .int .i64 4] rfl (by (try simp only [List.map_toArray, List.map_cons, List.map_nil]); first | done | rfl) ?_; (with_reducible refine (opaque_At.calls k (fun k_ => (some k_ ≠ (.slice Ao25 y210.length co25 : Value).ownBlock ∧ some k_ ≠ (.slice Ao30 y217.length co30 : Value).ownBlock)) _ _ t220 4 t224 t227 _ ?side1 A3.out).mono ?_); (case side1 => exact HO222.out); rintro e w33 ⟨v225, rfl, ho0, hb⟩; refine ⟨_, rfl, ?_⟩; have n0_ := Aside0.mk (Kd.R_below (by (with_reducible repeat (first | apply Kd.R_alloc | apply Kd.R_drewN | apply Kd.R_drew)); exact HO212.out) hb); have n1_ := Aside0.mk (Kd.N_below (by (with_reducible repeat (first | apply Kd.N_alloc | apply Kd.N_drewN | apply Kd.N_drew)); exact HO215.out) hb); have n2_ := Aside0.mk (Kd.R_below (by (with_reducible repeat (first | apply Kd.R_alloc | apply Kd.R_drewN | apply Kd.R_drew)); exact HO219.out) hb); have n3_ := Aside0.mk (Kd.V_below (by (with_reducible repeat (first | apply Kd.V_alloc | apply Kd.V_drewN | apply Kd.V_drew)); exact HO222.out) hb); have n4_ := Aside0.mk (Kd.V_lower (Kd.V_mono (ok' := fun k_ => some k_ ≠ (.slice Ao25 y210.length co25 : Value).ownBlock ∧ some k_ ≠ (.slice Ao30 y217.length co30 : Value).ownBlock) ho0 (fun k_ hk_ => ⟨Or.elim hk_ (fun hs_ => hs_.1) (fun hn_ => (Kd.fresh' (Kd.R_lt (by (with_reducible repeat (first | apply Kd.R_alloc | apply Kd.R_drewN | apply Kd.R_drew)); exact HO212.out)) k_ hn_)), Or.elim hk_ (fun hs_ => hs_.2) (fun hn_ => (Kd.fresh' (Kd.R_lt (by (with_reducible repeat (first | apply Kd.R_alloc | apply Kd.R_drewN | apply Kd.R_drew)); exact HO219.out)) k_ hn_))⟩)) bsz_); have n5_ := Aside0.mk (bst_ hb); clear HO212; clear HO215; clear HO219; clear HO222; clear HB; have HO212 := n0_; have HO215 := n1_; have HO219 := n2_; have HO222 := n3_; have HO226 := n4_; have HB := n5_; clear n0_ n1_ n2_ n3_ n4_ n5_; (try clear hb); (try clear hb2); (try clear hk); (try clear hi); (try clear ho0)) | ((with_reducible refine gate_callee (f := 33) rfl ?_); refine goesL_ (some 31) rfl rfl Try.func33 (by kernel_rfl) rfl #[.slice Ao32 t220.length co32, .int .i64 (-1)] rfl (by (try simp only [List.map_toArray, List.map_cons, List.map_nil]); first | done | rfl) ?_; (with_reducible refine (opaque_At.calls k (fun k_ => (some k_ ≠ (.slice Ao25 y210.length co25 : Value).ownBlock ∧ some k_ ≠ (.slice Ao30 y217.length co30 : Value).ownBlock)) _ _ t220 (-1) t228 t231 _ ?side1 A4.out).mono ?_); (case side1 => exact HO222.out); rintro e w34 ⟨v229, rfl, ho0, hb⟩; refine ⟨_, rfl, ?_⟩; have n0_ := Aside0.mk (Kd.R_below (by (with_reducible repeat (first | apply Kd.R_alloc | apply Kd.R_drewN | apply Kd.R_drew)); exact HO212.out) hb); have n1_ := Aside0.mk (Kd.N_below (by (with_reducible repeat (first | apply Kd.N_alloc | apply Kd.N_drewN | apply Kd.N_drew)); exact HO215.out) hb); have n2_ := Aside0.mk (Kd.R_below (by (with_reducible repeat (first | apply Kd.R_alloc | apply Kd.R_drewN | apply Kd.R_drew)); exact HO219.out) hb); have n3_ := Aside0.mk (Kd.V_below (by (with_reducible repeat (first | apply Kd.V_alloc | apply Kd.V_drewN | apply Kd.V_drew)); exact HO222.out) hb); have n4_ := Aside0.mk (Kd.V_below (by (with_reducible repeat (first | apply Kd.V_alloc | apply Kd.V_drewN | apply Kd.V_drew)); exact HO226.out) hb); have n5_ := Aside0.mk (Kd.V_lower (Kd.V_mono (ok' := fun k_ => some k_ ≠ (.slice Ao25 y210.length co25 : Value).ownBlock ∧ some k_ ≠ (.slice Ao30 y217.length co30 : Value).ownBlock) ho0 (fun k_ hk_ => ⟨Or.elim hk_ (fun hs_ => hs_.1) (fun hn_ => (Kd.fresh' (Kd.R_lt (by (with_reducible repeat (first | apply Kd.R_alloc | apply Kd.R_drewN | apply Kd.R_drew)); exact HO212.out)) k_ hn_)), Or.elim hk_ (fun hs_ => hs_.2) (fun hn_ => (Kd.fresh' (Kd.R_lt (by (with_reducible repeat (first | apply Kd.R_alloc | apply Kd.R_drewN | apply Kd.R_drew)); exact HO219.out)) k_ hn_))⟩)) bsz_); have n6_ := Aside0.mk (bst_ hb); clear HO212; clear HO215; clear HO219; clear HO222; clear HO226; clear HB; have HO212 := n0_; have HO215 := n1_; have HO219 := n2_; have HO222 := n3_; have HO226 := n4_; have HO230 := n5_; have HB := n6_; clear n0_ n1_ n2_ n3_ n4_ n5_ n6_; (try clear hb); (try clear hb2); (try clear hk); (try clear hi); (try clear ho0)) | ((with_reducible refine gate_dst (N := 35) rfl ?_); (try (refine gate_guard (by rfl) ?_; dsimp only)); refine Kd.R_lit k84 _ 84 ?hg (N := 35) ?hd (xs := ([(⟨0, 0, 2⟩ : S84)] : List (S84))) (inner := [.int .i64 0, .int .i64 0, .int .i64 2]) (ok := fun _ => True) (okp := fun _ => True) ?hr ?hp (fun _ hk => hk) trivial (Below.refl _ _) (Nat.le_refl _) (by simp) ?_; (case hd => rfl); (case hg => rfl); (case hr => first | (go_simp; done) | (go_simp; rfl)); (case hp => exact (Reps.c3 (show Kd.M k84 _ _ _ (⟨0, 0, 2⟩ : S84) [.int .i64 0, .int .i64 0, .int .i64 2] from (k84_mkM _ _ _ (⟨0, 0, 2⟩ : S84) )) (Reps.none _ _))); intro v233 w35 ho36 hb hg_ hnew_; clear hg_ hnew_; (first | rw [← Ny232.out] at ho36 | (simp only [Int.reduceToNat] at ho36; rw [← Ny232.out] at ho36)); have n0_ := Aside0.mk (Kd.R_below (by (with_reducible repeat (first | apply Kd.R_alloc | apply Kd.R_drewN | apply Kd.R_drew)); exact HO212.out) hb); have n1_ := Aside0.mk (Kd.N_elder' (by (with_reducible repeat (first | apply Kd.N_alloc | apply Kd.N_drewN | apply Kd.N_drew)); exact HO215.out) (Kd.R_base ho36) hb); have n2_ := Aside0.mk (Kd.R_below (by (with_reducible repeat (first | apply Kd.R_alloc | apply Kd.R_drewN | apply Kd.R_drew)); exact HO219.out) hb); have n3_ := Aside0.mk (Kd.V_elder' (by (with_reducible repeat (first | apply Kd.V_alloc | apply Kd.V_drewN | apply Kd.V_drew)); exact HO222.out) (Kd.R_base ho36) hb); have n4_ := Aside0.mk (Kd.V_elder' (by (with_reducible repeat (first | apply Kd.V_alloc | apply Kd.V_drewN | apply Kd.V_drew)); exact HO226.out) (Kd.R_base ho36) hb); have n5_ := Aside0.mk (Kd.V_elder' (by (with_reducible repeat (first | apply Kd.V_alloc | apply Kd.V_drewN | apply Kd.V_drew)); exact HO230.out) (Kd.R_base ho36) hb); have n6_ := Aside0.mk (Kd.R_lower ho36 bsz_); have n7_ := Aside0.mk (bst_ hb); clear HO212; clear HO215; clear HO219; clear HO222; clear HO226; clear HO230; clear HB; have HO212 := n0_; have HO215 := n1_; have HO219 := n2_; have HO222 := n3_; have HO226 := n4_; have HO230 := n5_; have HO234 := n6_; have HB := n7_; clear n0_ n1_ n2_ n3_ n4_ n5_ n6_ n7_; clear hb ho36) | ((with_reducible refine gate_callee (f := 32) rfl ?_); refine goesL_ (some 38) rfl rfl Try.func32 (by kernel_rfl) rfl #[.slice Ao32 t220.length co32, .int .i64 5, .slice none 0 0] rfl (by (try simp only [List.map_toArray, List.map_cons, List.map_nil]); first | done | rfl) ?_; (refine (opaque_Next.calls k (fun k_ => ((some k_ ≠ (.slice Ao25 y210.length co25 : Value).ownBlock ∧ some k_ ≠ (.slice Ao30 y217.length co30 : Value).ownBlock) ∧ some k_ ≠ (v233 : Value).ownBlock)) _ _ t220 5 _ _ ([] : List (S77)) t235 t238 _ ?side1 ?side2 ?side3 A5.out).mono ?_); (case side1 => exact HO222.out); (case side2 => exact Kd.C_nil _ _); (case side3 => exact Nat.le_refl _); rintro e w37 ⟨v236, rfl, ho0, hb⟩; refine ⟨_, rfl, ?_⟩; have n0_ := Aside0.mk (Kd.R_below (by (with_reducible repeat (first | apply Kd.R_alloc | apply Kd.R_drewN | apply Kd.R_drew)); exact HO212.out) hb); have n1_ := Aside0.mk (Kd.N_below (by (with_reducible repeat (first | apply Kd.N_alloc | apply Kd.N_drewN | apply Kd.N_drew)); exact HO215.out) hb); have n2_ := Aside0.mk (Kd.R_below (by (with_reducible repeat (first | apply Kd.R_alloc | apply Kd.R_drewN | apply Kd.R_drew)); exact HO219.out) hb); have n3_ := Aside0.mk (Kd.V_below (by (with_reducible repeat (first | apply Kd.V_alloc | apply Kd.V_drewN | apply Kd.V_drew)); exact HO222.out) hb); have n4_ := Aside0.mk (Kd.V_below (by (with_reducible repeat (first | apply Kd.V_alloc | apply Kd.V_drewN | apply Kd.V_drew)); exact HO226.out) hb); have n5_ := Aside0.mk (Kd.V_below (by (with_reducible repeat (first | apply Kd.V_alloc | apply Kd.V_drewN | apply Kd.V_drew)); exact HO230.out) hb); have n6_ := Aside0.mk (Kd.R_below (by (with_reducible repeat (first | apply Kd.R_alloc | apply Kd.R_drewN | apply Kd.R_drew)); exact HO234.out) hb); have n7_ := Aside0.mk (Kd.V_lower (Kd.V_mono (ok' := fun k_ => some k_ ≠ (.slice Ao25 y210.length co25 : Value).ownBlock ∧ some k_ ≠ (.slice Ao30 y217.length co30 : Value).ownBlock ∧ some k_ ≠ (v233 : Value).ownBlock) ho0 (fun k_ hk_ => ⟨Or.elim hk_ (fun hs_ => hs_.1.1) (fun hn_ => (Kd.fresh' (Kd.R_lt (by (with_reducible repeat (first | apply Kd.R_alloc | apply Kd.R_drewN | apply Kd.R_drew)); exact HO212.out)) k_ hn_)), Or.elim hk_ (fun hs_ => hs_.1.2) (fun hn_ => (Kd.fresh' (Kd.R_lt (by (with_reducible repeat (first | apply Kd.R_alloc | apply Kd.R_drewN | apply Kd.R_drew)); exact HO219.out)) k_ hn_)), Or.elim hk_ (fun hs_ => hs_.2) (fun hn_ => (Kd.fresh' (Kd.R_lt (by (with_reducible repeat (first | apply Kd.R_alloc | apply Kd.R_drewN | apply Kd.R_drew)); exact HO234.out)) k_ hn_))⟩)) bsz_); have n8_ := Aside0.mk (bst_ hb); clear HO212; clear HO215; clear HO219; clear HO222; clear HO226; clear HO230; clear HO234; clear HB; have HO212 := n0_; have HO215 := n1_; have HO219 := n2_; have HO222 := n3_; have HO226 := n4_; have HO230 := n5_; have HO234 := n6_; have HO237 := n7_; have HB := n8_; clear n0_ n1_ n2_ n3_ n4_ n5_ n6_ n7_ n8_; (try clear hb); (try clear hb2); (try clear hk); (try clear hi); (try clear ho0); obtain ⟨Ao38, co38, eo38⟩ := Kd.V_slice HO226.out; subst eo38; have p239 : 0 ≤ (0 : Int) := (by omega); have q239 : 0 < (t224.length : Int) := of_decide_eq_true (by first | (with_reducible assumption) | assumption); obtain ⟨ad239, e239, hx239_0, hx239_1⟩ := at_T66 (Kd.V_reads' HO226.out).2.2 0 p239 q239; cases e239; have qi239 : (0 < t224.length) = True := eq_true (by omega); (try rw [show ((0 : Int)).toNat = 0 from rfl] at hx239_0); (try rw [show 0 * 2 = 0 from rfl] at hx239_0); (try rw [Addr.add_zero'] at hx239_0); (try rw [show ((0 : Int)).toNat = 0 from rfl] at hx239_1); (try rw [show 0 * 2 = 0 from rfl] at hx239_1); (try rw [Addr.add_zero'] at hx239_1); replace p239 := eq_true p239; replace q239 := eq_true q239; obtain ⟨Ao39, co39, eo39⟩ := Kd.R_slice HO234.out; subst eo39) | (go_at_call 59; (with_reducible refine (opaque_Holds.calls k _ _ t220 9 _ _ y232 true _ ?side1 ?side2 ?side3 ?side4 A14.out).mono ?_); (case side1 => repeat (first | exact (Kd.V_reads' HO222.out).2.2 | with_reducible first | refine Kd.C_alloc ?_ _ | refine Kd.C_drewN ?_ _ | refine Kd.C_drew ?_)); (case side2 => exact (Kd.V_reads' HO222.out).2.1); (case side3 => repeat (first | exact (Kd.R_reads' HO234.out).2.2 | with_reducible first | refine Kd.C_alloc ?_ _ | refine Kd.C_drewN ?_ _ | refine Kd.C_drew ?_)); (case side4 => exact (Kd.R_reads' HO234.out).2.1); rintro e w40 ⟨rfl, hb⟩; have n0_ := Aside0.mk (Kd.R_below (by (with_reducible repeat (first | apply Kd.R_alloc | apply Kd.R_drewN | apply Kd.R_drew)); exact HO212.out) hb); have n1_ := Aside0.mk (Kd.N_below (by (with_reducible repeat (first | apply Kd.N_alloc | apply Kd.N_drewN | apply Kd.N_drew)); exact HO215.out) hb); have n2_ := Aside0.mk (Kd.R_below (by (with_reducible repeat (first | apply Kd.R_alloc | apply Kd.R_drewN | apply Kd.R_drew)); exact HO219.out) hb); have n3_ := Aside0.mk (Kd.V_below (by (with_reducible repeat (first | apply Kd.V_alloc | apply Kd.V_drewN | apply Kd.V_drew)); exact HO222.out) hb); have n4_ := Aside0.mk (Kd.V_below (by (with_reducible repeat (first | apply Kd.V_alloc | apply Kd.V_drewN | apply Kd.V_drew)); exact HO226.out) hb); have n5_ := Aside0.mk (Kd.V_below (by (with_reducible repeat (first | apply Kd.V_alloc | apply Kd.V_drewN | apply Kd.V_drew)); exact HO230.out) hb); have n6_ := Aside0.mk (Kd.R_below (by (with_reducible repeat (first | apply Kd.R_alloc | apply Kd.R_drewN | apply Kd.R_drew)); exact HO234.out) hb); have n7_ := Aside0.mk (Kd.V_below (by (with_reducible repeat (first | apply Kd.V_alloc | apply Kd.V_drewN | apply Kd.V_drew)); exact HO237.out) hb); have n8_ := Aside0.mk (bst_ hb); clear HO212; clear HO215; clear HO219; clear HO222; clear HO226; clear HO230; clear HO234; clear HO237; clear HB; have HO212 := n0_; have HO215 := n1_; have HO219 := n2_; have HO222 := n3_; have HO226 := n4_; have HO230 := n5_; have HO234 := n6_; have HO237 := n7_; have HB := n8_; clear n0_ n1_ n2_ n3_ n4_ n5_ n6_ n7_ n8_; (try clear hb); (try clear hb2); (try clear hk); (try clear hi)) | (go_at_call 59; (with_reducible refine (opaque_Holds.calls k _ _ t220 4 _ _ y232 false _ ?side1 ?side2 ?side3 ?side4 A16.out).mono ?_); (case side1 => repeat (first | exact (Kd.V_reads' HO222.out).2.2 | with_reducible first | refine Kd.C_alloc ?_ _ | refine Kd.C_drewN ?_ _ | refine Kd.C_drew ?_)); (case side2 => exact (Kd.V_reads' HO222.out).2.1); (case side3 => repeat (first | exact (Kd.R_reads' HO234.out).2.2 | with_reducible first | refine Kd.C_alloc ?_ _ | refine Kd.C_drewN ?_ _ | refine Kd.C_drew ?_)); (case side4 => exact (Kd.R_reads' HO234.out).2.1); rintro e w41 ⟨rfl, hb⟩; have n0_ := Aside0.mk (Kd.R_below (by (with_reducible repeat (first | apply Kd.R_alloc | apply Kd.R_drewN | apply Kd.R_drew)); exact HO212.out) hb); have n1_ := Aside0.mk (Kd.N_below (by (with_reducible repeat (first | apply Kd.N_alloc | apply Kd.N_drewN | apply Kd.N_drew)); exact HO215.out) hb); have n2_ := Aside0.mk (Kd.R_below (by (with_reducible repeat (first | apply Kd.R_alloc | apply Kd.R_drewN | apply Kd.R_drew)); exact HO219.out) hb); have n3_ := Aside0.mk (Kd.V_below (by (with_reducible repeat (first | apply Kd.V_alloc | apply Kd.V_drewN | apply Kd.V_drew)); exact HO222.out) hb); have n4_ := Aside0.mk (Kd.V_below (by (with_reducible repeat (first | apply Kd.V_alloc | apply Kd.V_drewN | apply Kd.V_drew)); exact HO226.out) hb); have n5_ := Aside0.mk (Kd.V_below (by (with_reducible repeat (first | apply Kd.V_alloc | apply Kd.V_drewN | apply Kd.V_drew)); exact HO230.out) hb); have n6_ := Aside0.mk (Kd.R_below (by (with_reducible repeat (first | apply Kd.R_alloc | apply Kd.R_drewN | apply Kd.R_drew)); exact HO234.out) hb); have n7_ := Aside0.mk (Kd.V_below (by (with_reducible repeat (first | apply Kd.V_alloc | apply Kd.V_drewN | apply Kd.V_drew)); exact HO237.out) hb); have n8_ := Aside0.mk (bst_ hb); clear HO212; clear HO215; clear HO219; clear HO222; clear HO226; clear HO230; clear HO234; clear HO237; clear HB; have HO212 := n0_; have HO215 := n1_; have HO219 := n2_; have HO222 := n3_; have HO226 := n4_; have HO230 := n5_; have HO234 := n6_; have HO237 := n7_; have HB := n8_; clear n0_ n1_ n2_ n3_ n4_ n5_ n6_ n7_ n8_; (try clear hb); (try clear hb2); (try clear hk); (try clear hi)) | (go_at_call 36; (with_reducible refine (opaque_Span.calls k _ _ t220 _ _ y232 t242 _ ?side1 ?side2 ?side3 ?side4 A18.out).mono ?_); (case side1 => repeat (first | exact (Kd.V_reads' HO222.out).2.2 | with_reducible first | refine Kd.C_alloc ?_ _ | refine Kd.C_drewN ?_ _ | refine Kd.C_drew ?_)); (case side2 => exact (Kd.V_reads' HO222.out).2.1); (case side3 => repeat (first | exact (Kd.R_reads' HO234.out).2.2 | with_reducible first | refine Kd.C_alloc ?_ _ | refine Kd.C_drewN ?_ _ | refine Kd.C_drew ?_)); (case side4 => exact (Kd.R_reads' HO234.out).2.1); rintro e w42 ⟨v243, rfl, ho0, hb⟩; have n0_ := Aside0.mk (Kd.R_below (by (with_reducible repeat (first | apply Kd.R_alloc | apply Kd.R_drewN | apply Kd.R_drew)); exact HO212.out) hb); have n1_ := Aside0.mk (Kd.N_elder' (by (with_reducible repeat (first | apply Kd.N_alloc | apply Kd.N_drewN | apply Kd.N_drew)); exact HO215.out) (Kd.R_base ho0) hb); have n2_ := Aside0.mk (Kd.R_below (by (with_reducible repeat (first | apply Kd.R_alloc | apply Kd.R_drewN | apply Kd.R_drew)); exact HO219.out) hb); have n3_ := Aside0.mk (Kd.V_elder' (by (with_reducible repeat (first | apply Kd.V_alloc | apply Kd.V_drewN | apply Kd.V_drew)); exact HO222.out) (Kd.R_base ho0) hb); have n4_ := Aside0.mk (Kd.V_elder' (by (with_reducible repeat (first | apply Kd.V_alloc | apply Kd.V_drewN | apply Kd.V_drew)); exact HO226.out) (Kd.R_base ho0) hb); have n5_ := Aside0.mk (Kd.V_elder' (by (with_reducible repeat (first | apply Kd.V_alloc | apply Kd.V_drewN | apply Kd.V_drew)); exact HO230.out) (Kd.R_base ho0) hb); have n6_ := Aside0.mk (Kd.R_below (by (with_reducible repeat (first | apply Kd.R_alloc | apply Kd.R_drewN | apply Kd.R_drew)); exact HO234.out) hb); have n7_ := Aside0.mk (Kd.V_elder' (by (with_reducible repeat (first | apply Kd.V_alloc | apply Kd.V_drewN | apply Kd.V_drew)); exact HO237.out) (Kd.R_base ho0) hb); have n8_ := Aside0.mk (Kd.R_lower ho0 bsz_); have n9_ := Aside0.mk (bst_ hb); clear HO212; clear HO215; clear HO219; clear HO222; clear HO226; clear HO230; clear HO234; clear HO237; clear HB; have HO212 := n0_; have HO215 := n1_; have HO219 := n2_; have HO222 := n3_; have HO226 := n4_; have HO230 := n5_; have HO234 := n6_; have HO237 := n7_; have HO244 := n8_; have HB := n9_; clear n0_ n1_ n2_ n3_ n4_ n5_ n6_ n7_ n8_ n9_; (try clear hb); (try clear hb2); (try clear hk); (try clear hi); (try clear ho0)) | ((with_reducible refine gate_dst (N := 87) rfl ?_); (try (refine gate_guard (by rfl) ?_; dsimp only)); refine Kd.R_lit (Kd.int .i64) _ 3 ?hg (N := 87) ?hd (xs := ([5] : List Int)) (inner := [.int .i64 5]) (ok := fun _ => True) (okp := fun _ => True) ?hr ?hp (fun _ hk => hk) trivial (Below.refl _ _) (Nat.le_refl _) (by simp) ?_; (case hd => rfl); (case hg => rfl); (case hr => first | (go_simp; done) | (go_simp; rfl)); (case hp => exact (Reps.one (show Kd.M (Kd.int .i64) _ _ _ 5 [.int .i64 5] from rfl) (Reps.none _ _))); intro v246 w43 ho44 hb hg_ hnew_; clear hg_ hnew_; (first | rw [← Ny245.out] at ho44 | (simp only [Int.reduceToNat] at ho44; rw [← Ny245.out] at ho44)); have n0_ := Aside0.mk (Kd.R_below (by (with_reducible repeat (first | apply Kd.R_alloc | apply Kd.R_drewN | apply Kd.R_drew)); exact HO212.out) hb); have n1_ := Aside0.mk (Kd.N_elder' (by (with_reducible repeat (first | apply Kd.N_alloc | apply Kd.N_drewN | apply Kd.N_drew)); exact HO215.out) (Kd.R_base ho44) hb); have n2_ := Aside0.mk (Kd.R_below (by (with_reducible repeat (first | apply Kd.R_alloc | apply Kd.R_drewN | apply Kd.R_drew)); exact HO219.out) hb); have n3_ := Aside0.mk (Kd.V_elder' (by (with_reducible repeat (first | apply Kd.V_alloc | apply Kd.V_drewN | apply Kd.V_drew)); exact HO222.out) (Kd.R_base ho44) hb); have n4_ := Aside0.mk (Kd.V_elder' (by (with_reducible repeat (first | apply Kd.V_alloc | apply Kd.V_drewN | apply Kd.V_drew)); exact HO226.out) (Kd.R_base ho44) hb); have n5_ := Aside0.mk (Kd.V_elder' (by (with_reducible repeat (first | apply Kd.V_alloc | apply Kd.V_drewN | apply Kd.V_drew)); exact HO230.out) (Kd.R_base ho44) hb); have n6_ := Aside0.mk (Kd.R_below (by (with_reducible repeat (first | apply Kd.R_alloc | apply Kd.R_drewN | apply Kd.R_drew)); exact HO234.out) hb); have n7_ := Aside0.mk (Kd.V_elder' (by (with_reducible repeat (first | apply Kd.V_alloc | apply Kd.V_drewN | apply Kd.V_drew)); exact HO237.out) (Kd.R_base ho44) hb); have n8_ := Aside0.mk (Kd.R_elder' (by (with_reducible repeat (first | apply Kd.R_alloc | apply Kd.R_drewN | apply Kd.R_drew)); exact HO244.out) (Kd.R_base ho44) hb); have n9_ := Aside0.mk (Kd.R_lower (Kd.R_new' ho44 (Kd.R_lt (by (with_reducible repeat (first | apply Kd.R_alloc | apply Kd.R_drewN | apply Kd.R_drew)); exact HO244.out))) bsz_); have n10_ := Aside0.mk (bst_ hb); clear HO212; clear HO215; clear HO219; clear HO222; clear HO226; clear HO230; clear HO234; clear HO237; clear HO244; clear HB; have HO212 := n0_; have HO215 := n1_; have HO219 := n2_; have HO222 := n3_; have HO226 := n4_; have HO230 := n5_; have HO234 := n6_; have HO237 := n7_; have HO244 := n8_; have HO247 := n9_; have HB := n10_; clear n0_ n1_ n2_ n3_ n4_ n5_ n6_ n7_ n8_ n9_ n10_; clear hb ho44; obtain ⟨Ao45, co45, eo45⟩ := Kd.R_slice HO244.out; subst eo45; obtain ⟨Ao46, co46, eo46⟩ := Kd.R_slice HO247.out; subst eo46) | (go_at_call 35; (with_reducible refine (handshakerref03_Numbers.calls k _ _ t242 _ _ y245 true _ ?side1 ?side2 ?side3 ?side4 A19.out).mono ?_); (case side1 => repeat (first | exact (Kd.R_reads' HO244.out).2.2 | with_reducible first | refine Kd.C_alloc ?_ _ | refine Kd.C_drewN ?_ _ | refine Kd.C_drew ?_)); (case side2 => exact (Kd.R_reads' HO244.out).2.1); (case side3 => repeat (first | exact (Kd.R_reads' HO247.out).2.2 | with_reducible first | refine Kd.C_alloc ?_ _ | refine Kd.C_drewN ?_ _ | refine Kd.C_drew ?_)); (case side4 => exact (Kd.R_reads' HO247.out).2.1); rintro e w' ⟨rfl, ⟨nd, rfl⟩⟩) | (go_at_call 34; (with_reducible refine (opaque_Right.calls k _ _ t220 t249 _ ?side1 ?side2 A22.out).mono ?_); (case side1 => repeat (first | exact (Kd.V_reads' HO222.out).2.2 | with_reducible first | refine Kd.C_alloc ?_ _ | refine Kd.C_drewN ?_ _ | refine Kd.C_drew ?_)); (case side2 => exact (Kd.V_reads' HO222.out).2.1); rintro e w47 ⟨rfl, hb⟩; have n0_ := Aside0.mk (Kd.R_below (by (with_reducible repeat (first | apply Kd.R_alloc | apply Kd.R_drewN | apply Kd.R_drew)); exact HO212.out) hb); have n1_ := Aside0.mk (Kd.N_below (by (with_reducible repeat (first | apply Kd.N_alloc | apply Kd.N_drewN | apply Kd.N_drew)); exact HO215.out) hb); have n2_ := Aside0.mk (Kd.R_below (by (with_reducible repeat (first | apply Kd.R_alloc | apply Kd.R_drewN | apply Kd.R_drew)); exact HO219.out) hb); have n3_ := Aside0.mk (Kd.V_below (by (with_reducible repeat (first | apply Kd.V_alloc | apply Kd.V_drewN | apply Kd.V_drew)); exact HO222.out) hb); have n4_ := Aside0.mk (Kd.V_below (by (with_reducible repeat (first | apply Kd.V_alloc | apply Kd.V_drewN | apply Kd.V_drew)); exact HO226.out) hb); have n5_ := Aside0.mk (Kd.V_below (by (with_reducible repeat (first | apply Kd.V_alloc | apply Kd.V_drewN | apply Kd.V_drew)); exact HO230.out) hb); have n6_ := Aside0.mk (Kd.R_below (by (with_reducible repeat (first | apply Kd.R_alloc | apply Kd.R_drewN | apply Kd.R_drew)); exact HO234.out) hb); have n7_ := Aside0.mk (Kd.V_below (by (with_reducible repeat (first | apply Kd.V_alloc | apply Kd.V_drewN | apply Kd.V_drew)); exact HO237.out) hb); have n8_ := Aside0.mk (Kd.R_below (by (with_reducible repeat (first | apply Kd.R_alloc | apply Kd.R_drewN | apply Kd.R_drew)); exact HO244.out) hb); have n9_ := Aside0.mk (Kd.R_below (by (with_reducible repeat (first | apply Kd.R_alloc | apply Kd.R_drewN | apply Kd.R_drew)); exact HO247.out) hb); have n10_ := Aside0.mk (bst_ hb); clear HO212; clear HO215; clear HO219; clear HO222; clear HO226; clear HO230; clear HO234; clear HO237; clear HO244; clear HO247; clear HB; have HO212 := n0_; have HO215 := n1_; have HO219 := n2_; have HO222 := n3_; have HO226 := n4_; have HO230 := n5_; have HO234 := n6_; have HO237 := n7_; have HO244 := n8_; have HO247 := n9_; have HB := n10_; clear n0_ n1_ n2_ n3_ n4_ n5_ n6_ n7_ n8_ n9_ n10_; (try clear hb); (try clear hb2); (try clear hk); (try clear hi)))
                         go_ret
                         exact ⟨by first | rfl | (simp [errW_none, errW_some] <;> rfl) | (simp [*, errW_none, errW_some] <;> rfl), by repeat (with_reducible first | exact HB.out | apply below_alloc | apply pw_below_drewN | apply below_drew1)⟩
                       · rw [if_neg c21] at H
                         have c21b0 : (t238 == 1) = false := beq_eq_false_iff_ne.mpr c21
                         have c21b1 : (t238 != 1) = true := bne_iff_ne.mpr c21
                         exact absurd (Option.some.inj H) (by rw [HT.out]; decide)
                     · replace c20 := Bool.eq_false_iff.mpr c20
                       subst c20
                       have H1 : (some false) = some r := by rw [if_neg (show ¬ (false = true) by decide)] at H; exact H
                       clear H
                       have H := H1
                       clear H1
                       exact absurd (Option.some.inj H) (by rw [HT.out]; decide)
                 · replace c15 := Bool.eq_false_iff.mpr c15
                   subst c15
                   have H1 : (some false) = some r := by rw [if_neg (show ¬ (false = true) by decide)] at H; exact H
                   clear H
                   have H := H1
                   clear H1
                   exact absurd (Option.some.inj H) (by rw [HT.out]; decide)
               · rw [if_neg c13] at H
                 have c13b0 : (t231 == 3) = false := beq_eq_false_iff_ne.mpr c13
                 have c13b1 : (t231 != 3) = true := bne_iff_ne.mpr c13
                 exact absurd (Option.some.inj H) (by rw [HT.out]; decide)
             · rw [if_neg c12] at H
               have c12b0 : (((rd_T66 t224 0).f1) == 1) = false := beq_eq_false_iff_ne.mpr c12
               have c12b1 : (((rd_T66 t224 0).f1) != 1) = true := bne_iff_ne.mpr c12
               exact absurd (Option.some.inj H) (by rw [HT.out]; decide)
           · rw [if_neg c11] at H
             exact absurd H (by simp)
         · rw [if_neg c10] at H
           have c10b0 : ((t224.length : Int) == 1) = false := beq_eq_false_iff_ne.mpr c10
           have c10b1 : ((t224.length : Int) != 1) = true := bne_iff_ne.mpr c10
           exact absurd (Option.some.inj H) (by rw [HT.out]; decide)
       · rw [if_neg c9] at H
         have c9b0 : (t227 == 0) = false := beq_eq_false_iff_ne.mpr c9
         have c9b1 : (t227 != 0) = true := bne_iff_ne.mpr c9
         exact absurd (Option.some.inj H) (by rw [HT.out]; decide)
     · rw [if_neg c8] at H
       have c8b0 : ((t220.length : Int) == 2) = false := beq_eq_false_iff_ne.mpr c8
       have c8b1 : ((t220.length : Int) != 2) = true := bne_iff_ne.mpr c8
       exact absurd (Option.some.inj H) (by rw [HT.out]; decide)
   · rw [if_neg c7] at H
     have c7b0 : (t223 == 0) = false := beq_eq_false_iff_ne.mpr c7
     have c7b1 : (t223 != 0) = true := bne_iff_ne.mpr c7
     exact absurd (Option.some.inj H) (by rw [HT.out]; decide)
 · rw [if_neg c6] at H
   have c6b0 : (t216 == 0) = false := beq_eq_false_iff_ne.mpr c6
   have c6b1 : (t216 != 0) = true := bne_iff_ne.mpr c6
   exact absurd (Option.some.inj H) (by rw [HT.out]; decide)

theorem handshakerlaw13_awake.only (k : Nat) (r : Bool) (h : handshakerlaw13_awake.f k = some r) : r = true := by
 have h1 : handshakerlaw13_awake.f 60 = some true := by decide +kernel
 have h2 := at_rounds (g := handshakerlaw13_awake.f) handshakerlaw13_awake.mono (Nat.le_max_left k 60) h
 have h3 := at_rounds (g := handshakerlaw13_awake.f) handshakerlaw13_awake.mono (Nat.le_max_right k 60) h1
 rw [h2] at h3
 exact Option.some.inj h3
theorem handshakerlaw13_awake.calls (k : Nat) (r : Bool) (w : World) (h : handshakerlaw13_awake.f k = some r) :
 Calls Try.prog 31 #[] w fun e w' => e = .returned (.bool r) ∧ Below w.heap.size w w' :=
 handshakerlaw13_awake.callsT k r w ⟨handshakerlaw13_awake.only k r h⟩ h

/-! ### wfS66 -/
def wfS66 (x : S66) : Prop := True ∧ (Lit.int .i64 x.f1).wf = true

/-! ### wfS80 -/
def wfS80 (x : S80) : Prop := (Lit.int .i64 x.f0).wf = true ∧ (x.f1.length ≤ maxLen ∧ ∀ y ∈ x.f1, wfS66 y)

end Go.Proofs.Ytihcnbhcemkncaa.O
