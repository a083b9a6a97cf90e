-- PRINTED by print.py (a twelfth state) out of the translation. Not trusted: Lean checks it.
import Derived.Test.YtjnkpocfmpbpoaaSex0
import Derived.Test.YtjnkpocfmpbpoaaSex2
import Derived.Test.YtjnkpocfmpbpoaaSex3
import Derived.Test.YtjnkpocfmpbpoaaSex5
import Derived.Test.YtjnkpocfmpbpoaaSex7
import Derived.Test.YtjnkpocfmpbpoaaSex8
namespace Go.Proofs.Ytjnkpocfmpbpoaa.Se
open Go.Proofs.Ytjnkpocfmpbpoaa.Ho
open Go.RowKit Go.Proofs.YtjnkpocfmpbpoaaW.PrintWords Go.Proofs.YtjnkpocfmpbpoaaW.PrintLast Go.Proofs.YtjnkpocfmpbpoaaW.PrintMore
attribute [local go_sem] max2_int min2_int max_two min_two max_three min_three max_four min_four   -- for this text's walks alone
set_option linter.unusedVariables false
set_option linter.unusedSimpArgs false

/-! ### reads_Right: function 34 -/
def reads_Right.l0 : Nat → List (S57) → List (S57) → Int → Int → Option (Bool)
 | 0, _, _, _, _ => none
 | k + 1, x0, x5, x6, x7 => if x7 < x6 then (if 0 ≤ x7 then (if x7 < (x5.length : Int) then (if ((rd_T57 x5 x7).f0) < 0 then (some false) else ((tick_Right.f ((rd_T57 x5 x7).f1)).bind fun t219 => (if t219 = true then ((span_Right.f ((rd_T57 x5 x7).f2)).bind fun t220 => (if t220 = true then ((reads_place.f x0 ((rd_T57 x5 x7).f0)).bind fun t221 => (if t221 = x7 then (reads_Right.l0 k x0 x5 x6 (wrap64 (x7 + 1))) else (some false))) else (some false))) else (some false)))) else (none)) else (none)) else (some (decide ((x0.length : Int) ≤ 24)))
def reads_Right.f (k : Nat) (l0 : List (S57)) : Option (Bool) := reads_Right.l0 k l0 l0 (l0.length : Int) 0
theorem reads_Right.mono_l : ∀ k, (∀ y0 y1 y2 y3, LeO (reads_Right.l0 k y0 y1 y2 y3) (reads_Right.l0 (k + 1) y0 y1 y2 y3))
 | 0 => fun _ _ _ _ r h => by simp [reads_Right.l0] at h
 | k + 1 => by
  have ih0 := reads_Right.mono_l k
  · intro y0 y1 y2 y3
    unfold reads_Right.l0
    repeat' first
    | (with_reducible exact ih0 _ _ _ _)
    | (with_reducible exact LeO.refl _)
    | (with_reducible exact LeO.none _)
    | (with_reducible refine LeO.ite ?_ ?_)
    | (with_reducible refine LeO.bind ?_ (fun _ => ?_))
    | exact ih0 _ _ _ _
    | exact LeO.none _
    | refine LeO.ite ?_ ?_
    | refine LeO.bind ?_ (fun _ => ?_)
theorem reads_Right.mono : ∀ a0 k, LeO (reads_Right.f k a0) (reads_Right.f (k + 1) a0) := by
 intro a0 k
 have ih0 := reads_Right.mono_l k
 unfold reads_Right.f
 repeat' first
  | (with_reducible exact ih0 _ _ _ _)
  | (with_reducible exact LeO.refl _)
  | (with_reducible exact LeO.none _)
  | (with_reducible refine LeO.ite ?_ ?_)
  | (with_reducible refine LeO.bind ?_ (fun _ => ?_))
  | exact ih0 _ _ _ _
  | exact LeO.none _
  | refine LeO.ite ?_ ?_
  | refine LeO.bind ?_ (fun _ => ?_)
set_option maxHeartbeats 8000000 in
set_option maxRecDepth 100000 in
theorem reads_Right.calls (k : Nat) (A0 : Option Addr) (c0 : Nat) (l0 : List (S57)) (r : Bool) (w : World) (hr0 : Kd.C k57 w A0 l0.length l0) (hc0 : l0.length ≤ c0) (h : reads_Right.f k l0 = some r) :
 Calls Try.prog 34 #[.slice A0 l0.length c0] w fun e w' => e = .returned (.bool r) ∧ Below w.heap.size w w' := by
 have hu57 := Try.underlying57
 have HR0 := Aside0.mk hr0
 have HC0 := Aside0.mk hc0
 clear hr0 hc0
 have HB := Aside0.mk (Below.refl w.heap.size w)
 have H : (reads_Right.l0 k l0 l0 (l0.length : Int) 0) = some r := h
 clear h
 have H' := Aside0.mk H
 clear H
 go_enter Try.func34, Try.ntmps34
 go_wp2
 go_loopg [7] k (fun kq v7 w' => ∃ (x7_1 : Int), v7 = .int .i64 x7_1 ∧ Aside0 (reads_Right.l0 kq l0 l0 (l0.length : Int) x7_1 = some r) ∧ Aside0 (kq ≤ k) ∧ Aside0 (Below w.heap.size w w'))
 case atStart => exact ⟨(0), (by first | rfl | (simp; done) | (simp [*]; done)), H', ⟨Nat.le_refl _⟩, ⟨bsv_⟩⟩
 case round =>
  clear H'
  obtain ⟨x7_1, rfl, HA, HK1, HB⟩ := hrel
  cases gk with
  | zero => exact absurd HA.out (by simp [reads_Right.l0])
  | succ k1 =>
   have H := HA.out
   clear HA
   simp only [reads_Right.l0] at H
   by_cases c2 : x7_1 < (l0.length : Int)
   · rw [if_pos c2] at H
     have c2b0 : decide (x7_1 < (l0.length : Int)) = true := decide_eq_true c2
     clear c2
     by_cases c3 : 0 ≤ x7_1
     · rw [if_pos c3] at H
       have c3b0 : decide (0 ≤ x7_1) = true := decide_eq_true c3
       clear c3
       by_cases c4 : x7_1 < (l0.length : Int)
       · rw [if_pos c4] at H
         have c4b0 : decide (x7_1 < (l0.length : Int)) = true := decide_eq_true c4
         clear c4
         by_cases c5 : ((rd_T57 l0 x7_1).f0) < 0
         · rw [if_pos c5] at H
           have c5b0 : decide (((rd_T57 l0 x7_1).f0) < 0) = true := decide_eq_true c5
           clear c5
           obtain rfl := Option.some.inj H
           have p217 : 0 ≤ (x7_1 : Int) := oda_
           have q217 : x7_1 < (l0.length : Int) := oda_
           obtain ⟨ad217, e217, hx217_0, hx217_1, hx217_2⟩ := at_T57 HR0.out x7_1 p217 q217
           cases e217
           replace hx217_0 := (HB.out.cell (World.block_lt_of_cell? w _ hx217_0)).trans hx217_0
           replace hx217_1 := (HB.out.cell (World.block_lt_of_cell? w _ hx217_1)).trans hx217_1
           replace hx217_2 := (HB.out.cell (World.block_lt_of_cell? w _ hx217_2)).trans hx217_2
           replace p217 := eq_true p217
           replace q217 := eq_true q217
           go_wp2_with (first | ((with_reducible refine gate_dst (N := 4) rfl ?_); refine box_event ?hg (N := 4) ?hd (cs := #[.int .i64 0, .int .i64 0, .int .i64 0]) (t := 57) ?hr ?_; (case hd => rfl); (case hg => rfl); (case hr => first | (go_simp; done) | (go_simp; rfl)); intro gb218 hg w6 hbox hb; replace BK218 := Aside0.mk (hbox); replace GW218 := Aside0.mk ((by rw [hg]; exact bsz_ : w.heap.size ≤ gb218)); replace HB := Aside0.mk (bst_ hb); replace GE218 := GW218; clear hb hbox hg; have hcz7_0 : w6.cell? ⟨gb218, 0, none⟩ = some (.int .i64 0) := (blk_cell BK218.out 0).trans rfl; have hcz7_1 : w6.cell? ⟨gb218, 1, none⟩ = some (.int .i64 0) := (blk_cell BK218.out 1).trans rfl; have hcz7_2 : w6.cell? ⟨gb218, 2, none⟩ = some (.int .i64 0) := (blk_cell BK218.out 2).trans rfl; have hfz7_0 := blk_frozen BK218.out 0; have hfz7_1 := blk_frozen BK218.out 1; have hfz7_2 := blk_frozen BK218.out 2))
           go_ret
           exact ⟨by first | rfl | (simp [errW_none, errW_some] <;> rfl) | (simp [*, errW_none, errW_some] <;> rfl), bsw_⟩
         · rw [if_neg c5] at H
           have c5b0 : decide (((rd_T57 l0 x7_1).f0) < 0) = false := decide_eq_false c5
           clear c5
           replace H := Option.bind_eq_some_iff.mp H
           obtain ⟨t219, A80, H⟩ := H
           have A8 := Aside0.mk A80
           clear A80
           by_cases c9 : t219 = true
           · subst c9
             rw [if_pos rfl] at H
             replace H := Option.bind_eq_some_iff.mp H
             obtain ⟨t220, A100, H⟩ := H
             have A10 := Aside0.mk A100
             clear A100
             by_cases c11 : t220 = true
             · subst c11
               rw [if_pos rfl] at H
               replace H := Option.bind_eq_some_iff.mp H
               obtain ⟨t221, A120, H⟩ := H
               have A12 := Aside0.mk A120
               clear A120
               by_cases c13 : t221 = x7_1
               · rw [if_pos c13] at H
                 have c13b0 : (t221 == x7_1) = true := beq_iff_eq.mpr c13
                 have c13b1 : (t221 != x7_1) = false := bne_eq_false_iff_eq.mpr c13
                 clear c13
                 have H' := Aside0.mk H
                 clear H
                 have p217 : 0 ≤ (x7_1 : Int) := oda_
                 have q217 : x7_1 < (l0.length : Int) := oda_
                 obtain ⟨ad217, e217, hx217_0, hx217_1, hx217_2⟩ := at_T57 HR0.out x7_1 p217 q217
                 cases e217
                 replace hx217_0 := (HB.out.cell (World.block_lt_of_cell? w _ hx217_0)).trans hx217_0
                 replace hx217_1 := (HB.out.cell (World.block_lt_of_cell? w _ hx217_1)).trans hx217_1
                 replace hx217_2 := (HB.out.cell (World.block_lt_of_cell? w _ hx217_2)).trans hx217_2
                 replace p217 := eq_true p217
                 replace q217 := eq_true q217
                 go_wp2_with (first | ((with_reducible refine gate_dst (N := 4) rfl ?_); refine box_event ?hg (N := 4) ?hd (cs := #[.int .i64 0, .int .i64 0, .int .i64 0]) (t := 57) ?hr ?_; (case hd => rfl); (case hg => rfl); (case hr => first | (go_simp; done) | (go_simp; rfl)); intro gb218 hg w14 hbox hb; replace BK218 := Aside0.mk (hbox); replace GW218 := Aside0.mk ((by rw [hg]; exact bsz_ : w.heap.size ≤ gb218)); replace HB := Aside0.mk (bst_ hb); replace GE218 := GW218; clear hb hbox hg; have hcz15_0 : w14.cell? ⟨gb218, 0, none⟩ = some (.int .i64 0) := (blk_cell BK218.out 0).trans rfl; have hcz15_1 : w14.cell? ⟨gb218, 1, none⟩ = some (.int .i64 0) := (blk_cell BK218.out 1).trans rfl; have hcz15_2 : w14.cell? ⟨gb218, 2, none⟩ = some (.int .i64 0) := (blk_cell BK218.out 2).trans rfl; have hfz15_0 := blk_frozen BK218.out 0; have hfz15_1 := blk_frozen BK218.out 1; have hfz15_2 := blk_frozen BK218.out 2) | (go_at_call 58; (with_reducible refine (tick_Right.calls ((rd_T57 l0 x7_1).f1) true _ A8.out).mono ?_); rintro e w' ⟨rfl, ⟨nd, rfl⟩⟩) | (go_at_call 59; (with_reducible refine (span_Right.calls ((rd_T57 l0 x7_1).f2) true _ A10.out).mono ?_); rintro e w' ⟨rfl, ⟨nd, rfl⟩⟩) | (go_at_call 60; (with_reducible refine (reads_place.calls _ _ l0 ((rd_T57 l0 x7_1).f0) t221 _ ?side1 ?side2 A12.out).mono ?_); (case side1 => exact Kd.C_below HR0.out bsw_); (case side2 => exact HC0.out); rintro e w16 ⟨rfl, hb⟩; replace BK218 := Aside0.mk (blk_below (g := gb218) (o := .cells #[.int .i64 ((rd_T57 l0 x7_1).f0), .int .i64 ((rd_T57 l0 x7_1).f1), .int .i64 ((rd_T57 l0 x7_1).f2)] 57 (0, 0)) (by (with_reducible repeat (first | refine blk_drewN ?_ _ | refine blk_drew ?_ | refine blk_alloc ?_ _)); refine blk_put (cs := #[.int .i64 ((rd_T57 l0 x7_1).f0), .int .i64 ((rd_T57 l0 x7_1).f1), .int .i64 0]) ?_ 2 _ rfl; (with_reducible repeat (first | refine blk_drewN ?_ _ | refine blk_drew ?_ | refine blk_alloc ?_ _)); refine blk_put (cs := #[.int .i64 ((rd_T57 l0 x7_1).f0), .int .i64 0, .int .i64 0]) ?_ 1 _ rfl; (with_reducible repeat (first | refine blk_drewN ?_ _ | refine blk_drew ?_ | refine blk_alloc ?_ _)); refine blk_put (cs := #[.int .i64 0, .int .i64 0, .int .i64 0]) ?_ 0 _ rfl; (with_reducible repeat (first | refine blk_drewN ?_ _ | refine blk_drew ?_ | refine blk_alloc ?_ _)); exact BK218.out) hb); replace HB := Aside0.mk (below_step bsw_ hb); (try clear hb); (try clear hb2); (try clear hk); (try clear hi)))
                 go_roundg k1
                 case measure => have := HK1.out; omega
                 case rel => exact ⟨(wrap64 (x7_1 + 1)), (by first | rfl | (simp; done) | (simp [*]; done)), H', ⟨by have := HK1.out; omega⟩, ⟨bsw_⟩⟩
               · rw [if_neg c13] at H
                 have c13b0 : (t221 == x7_1) = false := beq_eq_false_iff_ne.mpr c13
                 have c13b1 : (t221 != x7_1) = true := bne_iff_ne.mpr c13
                 obtain rfl := Option.some.inj H
                 have p217 : 0 ≤ (x7_1 : Int) := oda_
                 have q217 : x7_1 < (l0.length : Int) := oda_
                 obtain ⟨ad217, e217, hx217_0, hx217_1, hx217_2⟩ := at_T57 HR0.out x7_1 p217 q217
                 cases e217
                 replace hx217_0 := (HB.out.cell (World.block_lt_of_cell? w _ hx217_0)).trans hx217_0
                 replace hx217_1 := (HB.out.cell (World.block_lt_of_cell? w _ hx217_1)).trans hx217_1
                 replace hx217_2 := (HB.out.cell (World.block_lt_of_cell? w _ hx217_2)).trans hx217_2
                 replace p217 := eq_true p217
                 replace q217 := eq_true q217
                 go_wp2_with (first | ((with_reducible refine gate_dst (N := 4) rfl ?_); refine box_event ?hg (N := 4) ?hd (cs := #[.int .i64 0, .int .i64 0, .int .i64 0]) (t := 57) ?hr ?_; (case hd => rfl); (case hg => rfl); (case hr => first | (go_simp; done) | (go_simp; rfl)); intro gb218 hg w17 hbox hb; replace BK218 := Aside0.mk (hbox); replace GW218 := Aside0.mk ((by rw [hg]; exact bsz_ : w.heap.size ≤ gb218)); replace HB := Aside0.mk (bst_ hb); replace GE218 := GW218; clear hb hbox hg; have hcz18_0 : w17.cell? ⟨gb218, 0, none⟩ = some (.int .i64 0) := (blk_cell BK218.out 0).trans rfl; have hcz18_1 : w17.cell? ⟨gb218, 1, none⟩ = some (.int .i64 0) := (blk_cell BK218.out 1).trans rfl; have hcz18_2 : w17.cell? ⟨gb218, 2, none⟩ = some (.int .i64 0) := (blk_cell BK218.out 2).trans rfl; have hfz18_0 := blk_frozen BK218.out 0; have hfz18_1 := blk_frozen BK218.out 1; have hfz18_2 := blk_frozen BK218.out 2) | (go_at_call 58; (with_reducible refine (tick_Right.calls ((rd_T57 l0 x7_1).f1) true _ A8.out).mono ?_); rintro e w' ⟨rfl, ⟨nd, rfl⟩⟩) | (go_at_call 59; (with_reducible refine (span_Right.calls ((rd_T57 l0 x7_1).f2) true _ A10.out).mono ?_); rintro e w' ⟨rfl, ⟨nd, rfl⟩⟩) | (go_at_call 60; (with_reducible refine (reads_place.calls _ _ l0 ((rd_T57 l0 x7_1).f0) t221 _ ?side1 ?side2 A12.out).mono ?_); (case side1 => exact Kd.C_below HR0.out bsw_); (case side2 => exact HC0.out); rintro e w19 ⟨rfl, hb⟩; replace BK218 := Aside0.mk (blk_below (g := gb218) (o := .cells #[.int .i64 ((rd_T57 l0 x7_1).f0), .int .i64 ((rd_T57 l0 x7_1).f1), .int .i64 ((rd_T57 l0 x7_1).f2)] 57 (0, 0)) (by (with_reducible repeat (first | refine blk_drewN ?_ _ | refine blk_drew ?_ | refine blk_alloc ?_ _)); refine blk_put (cs := #[.int .i64 ((rd_T57 l0 x7_1).f0), .int .i64 ((rd_T57 l0 x7_1).f1), .int .i64 0]) ?_ 2 _ rfl; (with_reducible repeat (first | refine blk_drewN ?_ _ | refine blk_drew ?_ | refine blk_alloc ?_ _)); refine blk_put (cs := #[.int .i64 ((rd_T57 l0 x7_1).f0), .int .i64 0, .int .i64 0]) ?_ 1 _ rfl; (with_reducible repeat (first | refine blk_drewN ?_ _ | refine blk_drew ?_ | refine blk_alloc ?_ _)); refine blk_put (cs := #[.int .i64 0, .int .i64 0, .int .i64 0]) ?_ 0 _ rfl; (with_reducible repeat (first | refine blk_drewN ?_ _ | refine blk_drew ?_ | refine blk_alloc ?_ _)); exact BK218.out) hb); replace HB := Aside0.mk (below_step bsw_ hb); (try clear hb); (try clear hb2); (try clear hk); (try clear hi)))
                 go_ret
                 exact ⟨by first | rfl | (simp [errW_none, errW_some] <;> rfl) | (simp [*, errW_none, errW_some] <;> rfl), bsw_⟩
             · replace c11 := Bool.eq_false_iff.mpr c11
               subst c11
               rw [if_neg (show ¬ (false = true) by decide)] at H
               obtain rfl := Option.some.inj H
               have p217 : 0 ≤ (x7_1 : Int) := oda_
               have q217 : x7_1 < (l0.length : Int) := oda_
               obtain ⟨ad217, e217, hx217_0, hx217_1, hx217_2⟩ := at_T57 HR0.out x7_1 p217 q217
               cases e217
               replace hx217_0 := (HB.out.cell (World.block_lt_of_cell? w _ hx217_0)).trans hx217_0
               replace hx217_1 := (HB.out.cell (World.block_lt_of_cell? w _ hx217_1)).trans hx217_1
               replace hx217_2 := (HB.out.cell (World.block_lt_of_cell? w _ hx217_2)).trans hx217_2
               replace p217 := eq_true p217
               replace q217 := eq_true q217
               go_wp2_with (first | ((with_reducible refine gate_dst (N := 4) rfl ?_); refine box_event ?hg (N := 4) ?hd (cs := #[.int .i64 0, .int .i64 0, .int .i64 0]) (t := 57) ?hr ?_; (case hd => rfl); (case hg => rfl); (case hr => first | (go_simp; done) | (go_simp; rfl)); intro gb218 hg w20 hbox hb; replace BK218 := Aside0.mk (hbox); replace GW218 := Aside0.mk ((by rw [hg]; exact bsz_ : w.heap.size ≤ gb218)); replace HB := Aside0.mk (bst_ hb); replace GE218 := GW218; clear hb hbox hg; have hcz21_0 : w20.cell? ⟨gb218, 0, none⟩ = some (.int .i64 0) := (blk_cell BK218.out 0).trans rfl; have hcz21_1 : w20.cell? ⟨gb218, 1, none⟩ = some (.int .i64 0) := (blk_cell BK218.out 1).trans rfl; have hcz21_2 : w20.cell? ⟨gb218, 2, none⟩ = some (.int .i64 0) := (blk_cell BK218.out 2).trans rfl; have hfz21_0 := blk_frozen BK218.out 0; have hfz21_1 := blk_frozen BK218.out 1; have hfz21_2 := blk_frozen BK218.out 2) | (go_at_call 58; (with_reducible refine (tick_Right.calls ((rd_T57 l0 x7_1).f1) true _ A8.out).mono ?_); rintro e w' ⟨rfl, ⟨nd, rfl⟩⟩) | (go_at_call 59; (with_reducible refine (span_Right.calls ((rd_T57 l0 x7_1).f2) false _ A10.out).mono ?_); rintro e w' ⟨rfl, ⟨nd, rfl⟩⟩))
               go_ret
               exact ⟨by first | rfl | (simp [errW_none, errW_some] <;> rfl) | (simp [*, errW_none, errW_some] <;> rfl), bsw_⟩
           · replace c9 := Bool.eq_false_iff.mpr c9
             subst c9
             rw [if_neg (show ¬ (false = true) by decide)] at H
             obtain rfl := Option.some.inj H
             have p217 : 0 ≤ (x7_1 : Int) := oda_
             have q217 : x7_1 < (l0.length : Int) := oda_
             obtain ⟨ad217, e217, hx217_0, hx217_1, hx217_2⟩ := at_T57 HR0.out x7_1 p217 q217
             cases e217
             replace hx217_0 := (HB.out.cell (World.block_lt_of_cell? w _ hx217_0)).trans hx217_0
             replace hx217_1 := (HB.out.cell (World.block_lt_of_cell? w _ hx217_1)).trans hx217_1
             replace hx217_2 := (HB.out.cell (World.block_lt_of_cell? w _ hx217_2)).trans hx217_2
             replace p217 := eq_true p217
             replace q217 := eq_true q217
             go_wp2_with (first | ((with_reducible refine gate_dst (N := 4) rfl ?_); refine box_event ?hg (N := 4) ?hd (cs := #[.int .i64 0, .int .i64 0, .int .i64 0]) (t := 57) ?hr ?_; (case hd => rfl); (case hg => rfl); (case hr => first | (go_simp; done) | (go_simp; rfl)); intro gb218 hg w22 hbox hb; replace BK218 := Aside0.mk (hbox); replace GW218 := Aside0.mk ((by rw [hg]; exact bsz_ : w.heap.size ≤ gb218)); replace HB := Aside0.mk (bst_ hb); replace GE218 := GW218; clear hb hbox hg; have hcz23_0 : w22.cell? ⟨gb218, 0, none⟩ = some (.int .i64 0) := (blk_cell BK218.out 0).trans rfl; have hcz23_1 : w22.cell? ⟨gb218, 1, none⟩ = some (.int .i64 0) := (blk_cell BK218.out 1).trans rfl; have hcz23_2 : w22.cell? ⟨gb218, 2, none⟩ = some (.int .i64 0) := (blk_cell BK218.out 2).trans rfl; have hfz23_0 := blk_frozen BK218.out 0; have hfz23_1 := blk_frozen BK218.out 1; have hfz23_2 := blk_frozen BK218.out 2) | (go_at_call 58; (with_reducible refine (tick_Right.calls ((rd_T57 l0 x7_1).f1) false _ A8.out).mono ?_); rintro e w' ⟨rfl, ⟨nd, rfl⟩⟩))
             go_ret
             exact ⟨by first | rfl | (simp [errW_none, errW_some] <;> rfl) | (simp [*, errW_none, errW_some] <;> rfl), bsw_⟩
       · rw [if_neg c4] at H
         exact absurd H (by simp)
     · rw [if_neg c3] at H
       exact absurd H (by simp)
   · rw [if_neg c2] at H
     have c2b0 : decide (x7_1 < (l0.length : Int)) = false := decide_eq_false c2
     clear c2
     obtain rfl := Option.some.inj H
     go_wp2
     go_ret
     exact ⟨by first | rfl | (simp [errW_none, errW_some] <;> rfl) | (simp [*, errW_none, errW_some] <;> rfl), bsv_⟩

/-! ### reads_Cells: function 53 -/
def reads_Cells.l0 : Nat → List (S57) → List Int → List (S57) → Int → Int → Option (List Int)
 | 0, _, _, _, _, _ => none
 | k + 1, x0, x3, x6, x7, x8 => if x8 < x7 then (if 0 ≤ x8 then (if x8 < (x6.length : Int) then (if x3.length < 17592186044416 then (reads_Cells.l0 k x0 (x3 ++ [(rd_T57 x6 x8).f0]) x6 x7 (wrap64 (x8 + 1))) else (none)) else (none)) else (none)) else ((reads_Right.f k x0).bind fun t227 => (if t227 = true then ((slices_Sort.f x3).bind fun t228 => (some t228)) else (some ([] : List Int))))
def reads_Cells.f (k : Nat) (l0 : List (S57)) : Option (List Int) := reads_Cells.l0 k l0 ([] : List Int) l0 (l0.length : Int) 0
theorem reads_Cells.mono_l : ∀ k, (∀ y0 y1 y2 y3 y4, LeO (reads_Cells.l0 k y0 y1 y2 y3 y4) (reads_Cells.l0 (k + 1) y0 y1 y2 y3 y4))
 | 0 => fun _ _ _ _ _ r h => by simp [reads_Cells.l0] at h
 | k + 1 => by
  have ih0 := reads_Cells.mono_l k
  · intro y0 y1 y2 y3 y4
    unfold reads_Cells.l0
    repeat' first
    | (with_reducible exact ih0 _ _ _ _ _)
    | (with_reducible exact reads_Right.mono _ _)
    | (with_reducible exact LeO.refl _)
    | (with_reducible exact LeO.none _)
    | (with_reducible refine LeO.ite ?_ ?_)
    | (with_reducible refine LeO.bind ?_ (fun _ => ?_))
    | exact ih0 _ _ _ _ _
    | exact reads_Right.mono _ _
    | exact LeO.none _
    | refine LeO.ite ?_ ?_
    | refine LeO.bind ?_ (fun _ => ?_)
theorem reads_Cells.mono : ∀ a0 k, LeO (reads_Cells.f k a0) (reads_Cells.f (k + 1) a0) := by
 intro a0 k
 have ih0 := reads_Cells.mono_l k
 unfold reads_Cells.f
 repeat' first
  | (with_reducible exact ih0 _ _ _ _ _)
  | (with_reducible exact reads_Right.mono _ _)
  | (with_reducible exact LeO.refl _)
  | (with_reducible exact LeO.none _)
  | (with_reducible refine LeO.ite ?_ ?_)
  | (with_reducible refine LeO.bind ?_ (fun _ => ?_))
  | exact ih0 _ _ _ _ _
  | exact reads_Right.mono _ _
  | exact LeO.none _
  | refine LeO.ite ?_ ?_
  | refine LeO.bind ?_ (fun _ => ?_)
set_option maxHeartbeats 8000000 in
set_option maxRecDepth 100000 in
theorem reads_Cells.calls (k : Nat) (A0 : Option Addr) (c0 : Nat) (l0 : List (S57)) (r : List Int) (w : World) (hr0 : Kd.C k57 w A0 l0.length l0) (hc0 : l0.length ≤ c0) (h : reads_Cells.f k l0 = some r) :
 Calls Try.prog 53 #[.slice A0 l0.length c0] w fun e w' => ∃ v0_ : Value, e = .returned (v0_) ∧ Kd.R (Kd.int .i64) 3 w' w.heap.size (fun _ => True) v0_ r ∧ Below w.heap.size w w' := by
 have hu57 := Try.underlying57
 have HR0 := Aside0.mk hr0
 have HC0 := Aside0.mk hc0
 clear hr0 hc0
 have HB := Aside0.mk (Below.refl w.heap.size w)
 have H : (reads_Cells.l0 k l0 ([] : List Int) l0 (l0.length : Int) 0) = some r := h
 clear h
 have H' := Aside0.mk H
 clear H
 go_enter Try.func53, Try.ntmps53
 go_wp2
 go_loopg [3, 8] k (fun kq v3 v8 w' => ∃ (x3_1 : List Int) (x8_1 : Int), v8 = .int .i64 x8_1 ∧ Aside0 (reads_Cells.l0 kq l0 x3_1 l0 (l0.length : Int) x8_1 = some r) ∧ Aside0 (kq ≤ k) ∧ Aside0 (Kd.R (Kd.int .i64) 3 w' w.heap.size (fun _ => True) v3 x3_1) ∧ Aside0 (Below w.heap.size w w'))
 case atStart => exact ⟨(([] : List Int)), (0), (by first | rfl | (simp; done) | (simp [*]; done)), H', ⟨Nat.le_refl _⟩, ⟨by first | exact Kd.R_nil _ _ _ _ _ | exact Kd.N_nil _ _ _ _ _ | exact Kd.V_nil _ _ _ _ _ | exact Kd.Q_nil _ _ _ _ _ | exact Kd.S_nil _ _ _ _ _⟩, ⟨bsv_⟩⟩
 case round =>
  clear H'
  obtain ⟨x3_1, x8_1, rfl, HA, HK1, HO_3, HB⟩ := hrel
  cases gk with
  | zero => exact absurd HA.out (by simp [reads_Cells.l0])
  | succ k1 =>
   have H := HA.out
   clear HA
   simp only [reads_Cells.l0] at H
   by_cases c2 : x8_1 < (l0.length : Int)
   · rw [if_pos c2] at H
     have c2b0 : decide (x8_1 < (l0.length : Int)) = true := decide_eq_true c2
     clear c2
     by_cases c3 : 0 ≤ x8_1
     · rw [if_pos c3] at H
       have c3b0 : decide (0 ≤ x8_1) = true := decide_eq_true c3
       clear c3
       by_cases c4 : x8_1 < (l0.length : Int)
       · rw [if_pos c4] at H
         have c4b0 : decide (x8_1 < (l0.length : Int)) = true := decide_eq_true c4
         clear c4
         by_cases c5 : x3_1.length < 17592186044416
         · rw [if_pos c5] at H
           have LMc5 := Aside0.mk c5
           clear c5
           obtain ⟨y224, hy224⟩ : ∃ y_ : List Int, y_ = (x3_1 ++ [(rd_T57 l0 x8_1).f0]) := ⟨_, rfl⟩
           replace H : (reads_Cells.l0 k1 l0 y224 l0 (l0.length : Int) (wrap64 (x8_1 + 1))) = some r := by first | (rw [hy224]; with_reducible exact H) | (have H2_ := (Option.bind_some _ _).symm.trans H; rw [hy224]; with_reducible exact H2_) | (have H2_ := (Option.bind_some _ _).symm.trans H; with_reducible exact H2_) | with_reducible exact H | (rw [hy224]; exact H) | exact H
           have Ny224 := Aside0.mk hy224
           clear hy224
           have H' := Aside0.mk H
           clear H
           have p222 : 0 ≤ (x8_1 : Int) := oda_
           have q222 : x8_1 < (l0.length : Int) := oda_
           obtain ⟨ad222, e222, hx222_0, hx222_1, hx222_2⟩ := at_T57 HR0.out x8_1 p222 q222
           cases e222
           replace hx222_0 := (HB.out.cell (World.block_lt_of_cell? w _ hx222_0)).trans hx222_0
           replace hx222_1 := (HB.out.cell (World.block_lt_of_cell? w _ hx222_1)).trans hx222_1
           replace hx222_2 := (HB.out.cell (World.block_lt_of_cell? w _ hx222_2)).trans hx222_2
           replace p222 := eq_true p222
           replace q222 := eq_true q222
           go_wp2_with (first | ((with_reducible refine gate_dst (N := 5) rfl ?_); refine box_event ?hg (N := 5) ?hd (cs := #[.int .i64 0, .int .i64 0, .int .i64 0]) (t := 57) ?hr ?_; (case hd => rfl); (case hg => rfl); (case hr => first | (go_simp; done) | (go_simp; rfl)); intro gb223 hg w6 hbox hb; replace HO_3 := rb_ HO_3 hb; replace BK223 := Aside0.mk (hbox); replace GW223 := Aside0.mk ((by rw [hg]; exact bsz_ : w.heap.size ≤ gb223)); replace HB := Aside0.mk (bst_ hb); replace GE223 := GW223; clear hb hbox hg; have hcz7_0 : w6.cell? ⟨gb223, 0, none⟩ = some (.int .i64 0) := (blk_cell BK223.out 0).trans rfl; have hcz7_1 : w6.cell? ⟨gb223, 1, none⟩ = some (.int .i64 0) := (blk_cell BK223.out 1).trans rfl; have hcz7_2 : w6.cell? ⟨gb223, 2, none⟩ = some (.int .i64 0) := (blk_cell BK223.out 2).trans rfl; have hfz7_0 := blk_frozen BK223.out 0; have hfz7_1 := blk_frozen BK223.out 1; have hfz7_2 := blk_frozen BK223.out 2) | ((with_reducible refine gate_builtin (b := .append) (xs := #[.tmp 12, .tmp 15]) rfl ?_); at_builtin; refine Kd.R_append (Kd.int .i64) (w0 := w) w.heap.size rfl (.tmp 12) (.tmp 15) 27 3 (.int .i64 0) 8 rfl Try.underlying27 info3 rfl (by decide) (by omega) u3 x3_1 ((rd_T57 l0 x8_1).f0) [.int .i64 ((rd_T57 l0 x8_1).f0)] (fun _ => True) (fun _ => False) rfl (by first | (go_simp; done) | (go_simp; rfl)) ?aP (fun _ hk => hk.elim) ?aF ?aO ?aB ?aS ?aL ?_; (case aP => exact rfl); (case aB => exact bsw_); (case aF => exact (fun _ _ => trivial)); (case aO => exact (by (with_reducible repeat (first | apply Kd.R_alloc | apply Kd.R_drewN | apply Kd.R_drew)); exact Kd.R_mono (Kd.R_far (p := ⟨gb223, 2, none⟩) (Kd.R_far (p := ⟨gb223, 1, none⟩) (Kd.R_far (p := ⟨gb223, 0, none⟩) (Kd.R_types HO_3.out BK223.out (by decide)) (fun _ hk => hk.2) (.int .i64 ((rd_T57 l0 x8_1).f0))) (fun _ hk => hk.2) (.int .i64 ((rd_T57 l0 x8_1).f1))) (fun _ hk => hk.2) (.int .i64 ((rd_T57 l0 x8_1).f2))) (fun _ hk => trivial))); (case aS => exact (below_size bsw_)); (case aL => have := LMc5.out; omega); intro v225 w8 ho hb hg hat; rw [← Ny224.out] at ho; replace BK223 := Aside0.mk (blk_grown (g := gb223) (o := .cells #[.int .i64 ((rd_T57 l0 x8_1).f0), .int .i64 ((rd_T57 l0 x8_1).f1), .int .i64 ((rd_T57 l0 x8_1).f2)] 57 (0, 0)) (by (with_reducible repeat (first | refine blk_drewN ?_ _ | refine blk_drew ?_ | refine blk_alloc ?_ _)); refine blk_put (cs := #[.int .i64 ((rd_T57 l0 x8_1).f0), .int .i64 ((rd_T57 l0 x8_1).f1), .int .i64 0]) ?_ 2 _ rfl; (with_reducible repeat (first | refine blk_drewN ?_ _ | refine blk_drew ?_ | refine blk_alloc ?_ _)); refine blk_put (cs := #[.int .i64 ((rd_T57 l0 x8_1).f0), .int .i64 0, .int .i64 0]) ?_ 1 _ rfl; (with_reducible repeat (first | refine blk_drewN ?_ _ | refine blk_drew ?_ | refine blk_alloc ?_ _)); refine blk_put (cs := #[.int .i64 0, .int .i64 0, .int .i64 0]) ?_ 0 _ rfl; (with_reducible repeat (first | refine blk_drewN ?_ _ | refine blk_drew ?_ | refine blk_alloc ?_ _)); exact BK223.out) hg (Kd.R_ne HO_3.out BK223.out (by decide))); replace HB := Aside0.mk (hb); replace HO226 := Aside0.mk (ho); clear HO_3; clear ho hb hg hat))
           go_roundg k1
           case measure => have := HK1.out; omega
           case rel => exact ⟨(y224), (wrap64 (x8_1 + 1)), (by first | rfl | (simp; done) | (simp [*]; done)), H', ⟨by have := HK1.out; omega⟩, ⟨rq_ HO226⟩, ⟨bsw_⟩⟩
         · rw [if_neg c5] at H
           exact absurd H (by simp)
       · rw [if_neg c4] at H
         exact absurd H (by simp)
     · rw [if_neg c3] at H
       exact absurd H (by simp)
   · rw [if_neg c2] at H
     have c2b0 : decide (x8_1 < (l0.length : Int)) = false := decide_eq_false c2
     clear c2
     replace H := Option.bind_eq_some_iff.mp H
     obtain ⟨t227, A90, H⟩ := H
     have A9 := Aside0.mk A90
     clear A90
     by_cases c10 : t227 = true
     · subst c10
       rw [if_pos rfl] at H
       replace H := Option.bind_eq_some_iff.mp H
       obtain ⟨t228, A110, H⟩ := H
       have A11 := Aside0.mk A110
       clear A110
       obtain rfl := Option.some.inj H
       go_wp2_with (first | ((with_reducible refine gate_callee (f := 34) rfl ?_); refine goesL_ (some 19) rfl rfl Try.func34 (by kernel_rfl) rfl #[.slice A0 l0.length c0] rfl mp_ ?_; (with_reducible refine (reads_Right.calls k1 _ _ l0 true _ ?side1 ?side2 A9.out).mono ?_); (case side1 => repeat (first | exact (Kd.C_below HR0.out HB.out) | with_reducible first | refine Kd.C_alloc ?_ _ | refine Kd.C_drewN ?_ _ | refine Kd.C_drew ?_)); (case side2 => exact HC0.out); rintro e w12 ⟨rfl, hb⟩; refine ⟨_, rfl, ?_⟩; replace HO_3 := rb_ HO_3 hb; replace HB := Aside0.mk (bst_ hb); (try clear hb); (try clear hb2); (try clear hk); (try clear hi); obtain ⟨Ao13, co13, eo13⟩ := Kd.R_slice HO_3.out; subst eo13) | ((with_reducible refine gate_callee (f := 84) rfl ?_); refine goesL_ (some 22) rfl rfl Try.func84 (by kernel_rfl) rfl #[.slice Ao13 x3_1.length co13] rfl mp_ ?_; (with_reducible refine (slices_Sort.calls (fun k_ => some k_ = (.slice Ao13 x3_1.length co13 : Value).ownBlock) (.slice Ao13 x3_1.length co13) x3_1 t228 w _ ?side1 ?side2 A11.out).mono ?_); (case side1 => repeat (with_reducible first | exact HB.out | apply below_alloc | apply pw_below_drewN | apply below_drew1)); (case side2 => exact Kd.R_tight rfl HO_3.out); rintro e w14 ⟨rfl, hy0, hb, hkp⟩; refine ⟨_, rfl, ?_⟩; replace HO_3 := Aside0.mk (Kd.R_reok rfl hy0 (fun k_ e_ => HO_3.out.1 k_ e_)); replace HB := Aside0.mk (hb); (try clear hb); (try clear hkp); (try clear hy0)))
       go_ret
       exact ⟨_, by first | rfl | (simp [errW_none, errW_some] <;> rfl) | (simp [*, errW_none, errW_some] <;> rfl), rq_ HO_3, bsv_⟩
     · replace c10 := Bool.eq_false_iff.mpr c10
       subst c10
       rw [if_neg (show ¬ (false = true) by decide)] at H
       obtain rfl := Option.some.inj H
       go_wp2_with (first | ((with_reducible refine gate_callee (f := 34) rfl ?_); refine goesL_ (some 19) rfl rfl Try.func34 (by kernel_rfl) rfl #[.slice A0 l0.length c0] rfl mp_ ?_; (with_reducible refine (reads_Right.calls k1 _ _ l0 false _ ?side1 ?side2 A9.out).mono ?_); (case side1 => repeat (first | exact (Kd.C_below HR0.out HB.out) | with_reducible first | refine Kd.C_alloc ?_ _ | refine Kd.C_drewN ?_ _ | refine Kd.C_drew ?_)); (case side2 => exact HC0.out); rintro e w15 ⟨rfl, hb⟩; refine ⟨_, rfl, ?_⟩; replace HO_3 := rb_ HO_3 hb; replace HB := Aside0.mk (bst_ hb); (try clear hb); (try clear hb2); (try clear hk); (try clear hi)))
       go_ret
       exact ⟨_, by first | rfl | (simp [errW_none, errW_some] <;> rfl) | (simp [*, errW_none, errW_some] <;> rfl), by first | exact Kd.R_nil _ _ _ _ _ | exact Kd.N_nil _ _ _ _ _ | exact Kd.V_nil _ _ _ _ _ | exact Kd.Q_nil _ _ _ _ _ | exact Kd.S_nil _ _ _ _ _, bsv_⟩

/-! ### reads_Find: function 54 -/
def reads_Find.f (k : Nat) (l0 : List (S57)) (a1 : Int) : Option (Int × Int × Int × Bool) := (reads_place.f l0 a1).bind fun t230 => (if t230 < 0 then (some (0, 0, 0, false)) else ((reads_Right.f k l0).bind fun t231 => (if t231 = true then (if 0 ≤ t230 then (if t230 < (l0.length : Int) then (some ((rd_T57 l0 t230).f0, (rd_T57 l0 t230).f1, (rd_T57 l0 t230).f2, true)) else (none)) else (none)) else (some (0, 0, 0, false)))))
theorem reads_Find.mono : ∀ a0 a1 k, LeO (reads_Find.f k a0 a1) (reads_Find.f (k + 1) a0 a1) := by
 intro a0 a1 k
 unfold reads_Find.f
 repeat' first
  | (with_reducible exact reads_Right.mono _ _)
  | (with_reducible exact LeO.refl _)
  | (with_reducible exact LeO.none _)
  | (with_reducible refine LeO.ite ?_ ?_)
  | (with_reducible refine LeO.bind ?_ (fun _ => ?_))
  | exact reads_Right.mono _ _
  | exact LeO.none _
  | refine LeO.ite ?_ ?_
  | refine LeO.bind ?_ (fun _ => ?_)
set_option maxHeartbeats 8000000 in
set_option maxRecDepth 100000 in
theorem reads_Find.calls (k : Nat) (A0 : Option Addr) (c0 : Nat) (l0 : List (S57)) (a1 : Int) (r1 : Int) (r2 : Int) (r3 : Int) (r4 : Bool) (w : World) (hr0 : Kd.C k57 w A0 l0.length l0) (hc0 : l0.length ≤ c0) (h : reads_Find.f k l0 a1 = some (r1, r2, r3, r4)) :
 Calls Try.prog 54 #[.slice A0 l0.length c0, .int .i64 a1] w fun e w' => e = .returned (.tuple #[.agg #[.int .i64 r1, .int .i64 r2, .int .i64 r3], .bool r4]) ∧ Below w.heap.size w w' := by
 have hu57 := Try.underlying57
 have HR0 := Aside0.mk hr0
 have HC0 := Aside0.mk hc0
 clear hr0 hc0
 have HB := Aside0.mk (Below.refl w.heap.size w)
 have H : ((reads_place.f l0 a1).bind fun t230 => (if t230 < 0 then (some (0, 0, 0, false)) else ((reads_Right.f k l0).bind fun t231 => (if t231 = true then (if 0 ≤ t230 then (if t230 < (l0.length : Int) then (some ((rd_T57 l0 t230).f0, (rd_T57 l0 t230).f1, (rd_T57 l0 t230).f2, true)) else (none)) else (none)) else (some (0, 0, 0, false)))))) = some (r1, r2, r3, r4) := h
 clear h
 replace H := Option.bind_eq_some_iff.mp H
 obtain ⟨t230, A30, H⟩ := H
 have A3 := Aside0.mk A30
 clear A30
 by_cases c4 : t230 < 0
 · rw [if_pos c4] at H
   have c4b0 : decide (t230 < 0) = true := decide_eq_true c4
   clear c4
   simp only [Option.some.injEq, Prod.mk.injEq] at H
   obtain ⟨rfl, rfl, rfl, rfl⟩ := H
   go_enter Try.func54, Try.ntmps54
   go_wp2_with (first | ((with_reducible refine gate_dst (N := 4) rfl ?_); refine box_event ?hg (N := 4) ?hd (cs := #[.int .i64 0, .int .i64 0, .int .i64 0]) (t := 57) ?hr ?_; (case hd => rfl); (case hg => rfl); (case hr => first | (go_simp; done) | (go_simp; rfl)); intro gb229 hg w5 hbox hb; replace BK229 := Aside0.mk (hbox); replace GW229 := Aside0.mk ((by rw [hg]; exact bsz_ : w.heap.size ≤ gb229)); replace HB := Aside0.mk (bst_ hb); replace GE229 := GW229; clear hb hbox hg) | ((with_reducible refine gate_callee (f := 60) rfl ?_); refine goesL_ (some 9) rfl rfl Try.func60 (by kernel_rfl) rfl #[.slice A0 l0.length c0, .int .i64 a1] rfl mp_ ?_; (with_reducible refine (reads_place.calls _ _ l0 a1 t230 _ ?side1 ?side2 A3.out).mono ?_); (case side1 => repeat (first | exact (Kd.C_below HR0.out HB.out) | with_reducible first | refine Kd.C_alloc ?_ _ | refine Kd.C_drewN ?_ _ | refine Kd.C_drew ?_)); (case side2 => exact HC0.out); rintro e w6 ⟨rfl, hb⟩; refine ⟨_, rfl, ?_⟩; replace BK229 := bb_ BK229 hb; replace HB := Aside0.mk (below_step bsw_ hb); (try clear hb); (try clear hb2); (try clear hk); (try clear hi); have hcz7_0 : w6.cell? ⟨gb229, 0, none⟩ = some (.int .i64 0) := (blk_cell BK229.out 0).trans rfl; have hcz7_1 : w6.cell? ⟨gb229, 1, none⟩ = some (.int .i64 0) := (blk_cell BK229.out 1).trans rfl; have hcz7_2 : w6.cell? ⟨gb229, 2, none⟩ = some (.int .i64 0) := (blk_cell BK229.out 2).trans rfl; have hfz7_0 := blk_frozen BK229.out 0; have hfz7_1 := blk_frozen BK229.out 1; have hfz7_2 := blk_frozen BK229.out 2))
   refine bodyPost_ret (results_ct rfl _ _ gb229 57 #[.int .i64 0, .int .i64 0, .int .i64 0] (0, 0) _ rfl (by (with_reducible repeat (first | refine blk_drewN ?_ _ | refine blk_drew ?_ | refine blk_alloc ?_ _)); refine blk_put (cs := #[.int .i64 0, .int .i64 0, .int .i64 0]) ?_ 2 _ rfl; (with_reducible repeat (first | refine blk_drewN ?_ _ | refine blk_drew ?_ | refine blk_alloc ?_ _)); refine blk_put (cs := #[.int .i64 0, .int .i64 0, .int .i64 0]) ?_ 1 _ rfl; (with_reducible repeat (first | refine blk_drewN ?_ _ | refine blk_drew ?_ | refine blk_alloc ?_ _)); refine blk_put (cs := #[.int .i64 0, .int .i64 0, .int .i64 0]) ?_ 0 _ rfl; (with_reducible repeat (first | refine blk_drewN ?_ _ | refine blk_drew ?_ | refine blk_alloc ?_ _)); exact BK229.out) Try.underlying57 rfl (by kernel_rfl)) rfl ?_
   exact ⟨by first | rfl | (simp [errW_none, errW_some] <;> rfl) | (simp [*, errW_none, errW_some] <;> rfl), bsw_⟩
 · rw [if_neg c4] at H
   have c4b0 : decide (t230 < 0) = false := decide_eq_false c4
   clear c4
   replace H := Option.bind_eq_some_iff.mp H
   obtain ⟨t231, A80, H⟩ := H
   have A8 := Aside0.mk A80
   clear A80
   by_cases c9 : t231 = true
   · subst c9
     rw [if_pos rfl] at H
     by_cases c10 : 0 ≤ t230
     · rw [if_pos c10] at H
       have c10b0 : decide (0 ≤ t230) = true := decide_eq_true c10
       clear c10
       by_cases c11 : t230 < (l0.length : Int)
       · rw [if_pos c11] at H
         have c11b0 : decide (t230 < (l0.length : Int)) = true := decide_eq_true c11
         clear c11
         simp only [Option.some.injEq, Prod.mk.injEq] at H
         obtain ⟨rfl, rfl, rfl, rfl⟩ := H
         go_enter Try.func54, Try.ntmps54
         go_wp2_with (first | ((with_reducible refine gate_dst (N := 4) rfl ?_); refine box_event ?hg (N := 4) ?hd (cs := #[.int .i64 0, .int .i64 0, .int .i64 0]) (t := 57) ?hr ?_; (case hd => rfl); (case hg => rfl); (case hr => first | (go_simp; done) | (go_simp; rfl)); intro gb229 hg w12 hbox hb; replace BK229 := Aside0.mk (hbox); replace GW229 := Aside0.mk ((by rw [hg]; exact bsz_ : w.heap.size ≤ gb229)); replace HB := Aside0.mk (bst_ hb); replace GE229 := GW229; clear hb hbox hg) | ((with_reducible refine gate_callee (f := 60) rfl ?_); refine goesL_ (some 9) rfl rfl Try.func60 (by kernel_rfl) rfl #[.slice A0 l0.length c0, .int .i64 a1] rfl mp_ ?_; (with_reducible refine (reads_place.calls _ _ l0 a1 t230 _ ?side1 ?side2 A3.out).mono ?_); (case side1 => repeat (first | exact (Kd.C_below HR0.out HB.out) | with_reducible first | refine Kd.C_alloc ?_ _ | refine Kd.C_drewN ?_ _ | refine Kd.C_drew ?_)); (case side2 => exact HC0.out); rintro e w13 ⟨rfl, hb⟩; refine ⟨_, rfl, ?_⟩; replace BK229 := bb_ BK229 hb; replace HB := Aside0.mk (below_step bsw_ hb); (try clear hb); (try clear hb2); (try clear hk); (try clear hi)) | (go_at_call 34; (with_reducible refine (reads_Right.calls k _ _ l0 true _ ?side1 ?side2 A8.out).mono ?_); (case side1 => repeat (first | exact (Kd.C_below HR0.out HB.out) | with_reducible first | refine Kd.C_alloc ?_ _ | refine Kd.C_drewN ?_ _ | refine Kd.C_drew ?_)); (case side2 => exact HC0.out); rintro e w14 ⟨rfl, hb⟩; replace BK229 := bb_ BK229 hb; replace HB := Aside0.mk (below_step bsw_ hb); (try clear hb); (try clear hb2); (try clear hk); (try clear hi); have p232 : 0 ≤ (t230 : Int) := oda_; have q232 : t230 < (l0.length : Int) := oda_; obtain ⟨ad232, e232, hx232_0, hx232_1, hx232_2⟩ := at_T57 HR0.out t230 p232 q232; cases e232; replace hx232_0 := (HB.out.cell (World.block_lt_of_cell? w _ hx232_0)).trans hx232_0; replace hx232_1 := (HB.out.cell (World.block_lt_of_cell? w _ hx232_1)).trans hx232_1; replace hx232_2 := (HB.out.cell (World.block_lt_of_cell? w _ hx232_2)).trans hx232_2; replace p232 := eq_true p232; replace q232 := eq_true q232; have hcz15_0 : w14.cell? ⟨gb229, 0, none⟩ = some (.int .i64 0) := (blk_cell BK229.out 0).trans rfl; have hcz15_1 : w14.cell? ⟨gb229, 1, none⟩ = some (.int .i64 0) := (blk_cell BK229.out 1).trans rfl; have hcz15_2 : w14.cell? ⟨gb229, 2, none⟩ = some (.int .i64 0) := (blk_cell BK229.out 2).trans rfl; have hfz15_0 := blk_frozen BK229.out 0; have hfz15_1 := blk_frozen BK229.out 1; have hfz15_2 := blk_frozen BK229.out 2))
         refine bodyPost_ret (results_ct rfl _ _ gb229 57 #[.int .i64 ((rd_T57 l0 t230).f0), .int .i64 ((rd_T57 l0 t230).f1), .int .i64 ((rd_T57 l0 t230).f2)] (0, 0) _ rfl (by (with_reducible repeat (first | refine blk_drewN ?_ _ | refine blk_drew ?_ | refine blk_alloc ?_ _)); refine blk_put (cs := #[.int .i64 ((rd_T57 l0 t230).f0), .int .i64 ((rd_T57 l0 t230).f1), .int .i64 0]) ?_ 2 _ rfl; (with_reducible repeat (first | refine blk_drewN ?_ _ | refine blk_drew ?_ | refine blk_alloc ?_ _)); refine blk_put (cs := #[.int .i64 ((rd_T57 l0 t230).f0), .int .i64 0, .int .i64 0]) ?_ 1 _ rfl; (with_reducible repeat (first | refine blk_drewN ?_ _ | refine blk_drew ?_ | refine blk_alloc ?_ _)); refine blk_put (cs := #[.int .i64 0, .int .i64 0, .int .i64 0]) ?_ 0 _ rfl; (with_reducible repeat (first | refine blk_drewN ?_ _ | refine blk_drew ?_ | refine blk_alloc ?_ _)); exact BK229.out) Try.underlying57 rfl (by kernel_rfl)) rfl ?_
         exact ⟨by first | rfl | (simp [errW_none, errW_some] <;> rfl) | (simp [*, errW_none, errW_some] <;> rfl), bsw_⟩
       · rw [if_neg c11] at H
         exact absurd H (by simp)
     · rw [if_neg c10] at H
       exact absurd H (by simp)
   · replace c9 := Bool.eq_false_iff.mpr c9
     subst c9
     rw [if_neg (show ¬ (false = true) by decide)] at H
     simp only [Option.some.injEq, Prod.mk.injEq] at H
     obtain ⟨rfl, rfl, rfl, rfl⟩ := H
     go_enter Try.func54, Try.ntmps54
     go_wp2_with (first | ((with_reducible refine gate_dst (N := 4) rfl ?_); refine box_event ?hg (N := 4) ?hd (cs := #[.int .i64 0, .int .i64 0, .int .i64 0]) (t := 57) ?hr ?_; (case hd => rfl); (case hg => rfl); (case hr => first | (go_simp; done) | (go_simp; rfl)); intro gb229 hg w16 hbox hb; replace BK229 := Aside0.mk (hbox); replace GW229 := Aside0.mk ((by rw [hg]; exact bsz_ : w.heap.size ≤ gb229)); replace HB := Aside0.mk (bst_ hb); replace GE229 := GW229; clear hb hbox hg) | ((with_reducible refine gate_callee (f := 60) rfl ?_); refine goesL_ (some 9) rfl rfl Try.func60 (by kernel_rfl) rfl #[.slice A0 l0.length c0, .int .i64 a1] rfl mp_ ?_; (with_reducible refine (reads_place.calls _ _ l0 a1 t230 _ ?side1 ?side2 A3.out).mono ?_); (case side1 => repeat (first | exact (Kd.C_below HR0.out HB.out) | with_reducible first | refine Kd.C_alloc ?_ _ | refine Kd.C_drewN ?_ _ | refine Kd.C_drew ?_)); (case side2 => exact HC0.out); rintro e w17 ⟨rfl, hb⟩; refine ⟨_, rfl, ?_⟩; replace BK229 := bb_ BK229 hb; replace HB := Aside0.mk (below_step bsw_ hb); (try clear hb); (try clear hb2); (try clear hk); (try clear hi)) | (go_at_call 34; (with_reducible refine (reads_Right.calls k _ _ l0 false _ ?side1 ?side2 A8.out).mono ?_); (case side1 => repeat (first | exact (Kd.C_below HR0.out HB.out) | with_reducible first | refine Kd.C_alloc ?_ _ | refine Kd.C_drewN ?_ _ | refine Kd.C_drew ?_)); (case side2 => exact HC0.out); rintro e w18 ⟨rfl, hb⟩; replace BK229 := bb_ BK229 hb; replace HB := Aside0.mk (below_step bsw_ hb); (try clear hb); (try clear hb2); (try clear hk); (try clear hi); have hcz19_0 : w18.cell? ⟨gb229, 0, none⟩ = some (.int .i64 0) := (blk_cell BK229.out 0).trans rfl; have hcz19_1 : w18.cell? ⟨gb229, 1, none⟩ = some (.int .i64 0) := (blk_cell BK229.out 1).trans rfl; have hcz19_2 : w18.cell? ⟨gb229, 2, none⟩ = some (.int .i64 0) := (blk_cell BK229.out 2).trans rfl; have hfz19_0 := blk_frozen BK229.out 0; have hfz19_1 := blk_frozen BK229.out 1; have hfz19_2 := blk_frozen BK229.out 2))
     refine bodyPost_ret (results_ct rfl _ _ gb229 57 #[.int .i64 0, .int .i64 0, .int .i64 0] (0, 0) _ rfl (by (with_reducible repeat (first | refine blk_drewN ?_ _ | refine blk_drew ?_ | refine blk_alloc ?_ _)); refine blk_put (cs := #[.int .i64 0, .int .i64 0, .int .i64 0]) ?_ 2 _ rfl; (with_reducible repeat (first | refine blk_drewN ?_ _ | refine blk_drew ?_ | refine blk_alloc ?_ _)); refine blk_put (cs := #[.int .i64 0, .int .i64 0, .int .i64 0]) ?_ 1 _ rfl; (with_reducible repeat (first | refine blk_drewN ?_ _ | refine blk_drew ?_ | refine blk_alloc ?_ _)); refine blk_put (cs := #[.int .i64 0, .int .i64 0, .int .i64 0]) ?_ 0 _ rfl; (with_reducible repeat (first | refine blk_drewN ?_ _ | refine blk_drew ?_ | refine blk_alloc ?_ _)); exact BK229.out) Try.underlying57 rfl (by kernel_rfl)) rfl ?_
     exact ⟨by first | rfl | (simp [errW_none, errW_some] <;> rfl) | (simp [*, errW_none, errW_some] <;> rfl), bsw_⟩

/-! ### sleep_Watched: function 31 -/
def sleep_Watched.l0 : Nat → List (S57) → List (S62) → List Int → Int → Int → Option ((List (S62)))
 | 0, _, _, _, _, _ => none
 | k + 1, x0, x3, x9, x10, x11 => if x11 < x10 then (if 0 ≤ x11 then (if x11 < (x9.length : Int) then ((reads_Find.f k x0 (rd x9 x11)).bind fun bt237 => (if x3.length < 8796093022208 then (sleep_Watched.l0 k x0 (x3 ++ [(⟨rd x9 x11, bt237.2.2.1⟩ : S62)]) x9 x10 (wrap64 (x11 + 1))) else (none))) else (none)) else (none)) else (some x3)
def sleep_Watched.f (k : Nat) (l0 : List (S57)) : Option ((List (S62))) := (reads_Cells.f k l0).bind fun t233 => (sleep_Watched.l0 k l0 ([] : List (S62)) t233 (t233.length : Int) 0)
theorem sleep_Watched.mono_l : ∀ k, (∀ y0 y1 y2 y3 y4, LeO (sleep_Watched.l0 k y0 y1 y2 y3 y4) (sleep_Watched.l0 (k + 1) y0 y1 y2 y3 y4))
 | 0 => fun _ _ _ _ _ r h => by simp [sleep_Watched.l0] at h
 | k + 1 => by
  have ih0 := sleep_Watched.mono_l k
  · intro y0 y1 y2 y3 y4
    unfold sleep_Watched.l0
    repeat' first
    | (with_reducible exact ih0 _ _ _ _ _)
    | (with_reducible exact reads_Cells.mono _ _)
    | (with_reducible exact reads_Find.mono _ _ _)
    | (with_reducible exact LeO.refl _)
    | (with_reducible exact LeO.none _)
    | (with_reducible refine LeO.ite ?_ ?_)
    | (with_reducible refine LeO.bind ?_ (fun _ => ?_))
    | exact ih0 _ _ _ _ _
    | exact reads_Cells.mono _ _
    | exact reads_Find.mono _ _ _
    | exact LeO.none _
    | refine LeO.ite ?_ ?_
    | refine LeO.bind ?_ (fun _ => ?_)
theorem sleep_Watched.mono : ∀ a0 k, LeO (sleep_Watched.f k a0) (sleep_Watched.f (k + 1) a0) := by
 intro a0 k
 have ih0 := sleep_Watched.mono_l k
 unfold sleep_Watched.f
 repeat' first
  | (with_reducible exact ih0 _ _ _ _ _)
  | (with_reducible exact reads_Cells.mono _ _)
  | (with_reducible exact reads_Find.mono _ _ _)
  | (with_reducible exact LeO.refl _)
  | (with_reducible exact LeO.none _)
  | (with_reducible refine LeO.ite ?_ ?_)
  | (with_reducible refine LeO.bind ?_ (fun _ => ?_))
  | exact ih0 _ _ _ _ _
  | exact reads_Cells.mono _ _
  | exact reads_Find.mono _ _ _
  | exact LeO.none _
  | refine LeO.ite ?_ ?_
  | refine LeO.bind ?_ (fun _ => ?_)
set_option maxHeartbeats 8000000 in
set_option maxRecDepth 100000 in
theorem sleep_Watched.calls (k : Nat) (A0 : Option Addr) (c0 : Nat) (l0 : List (S57)) (r : List (S62)) (w : World) (hr0 : Kd.C k57 w A0 l0.length l0) (hc0 : l0.length ≤ c0) (h : sleep_Watched.f k l0 = some r) :
 Calls Try.prog 31 #[.slice A0 l0.length c0] w fun e w' => ∃ v0_ : Value, e = .returned (v0_) ∧ Kd.R k62 62 w' w.heap.size (fun _ => True) v0_ r ∧ Below w.heap.size w w' := by
 have hu57 := Try.underlying57
 have hu62 := Try.underlying62
 have HR0 := Aside0.mk hr0
 have HC0 := Aside0.mk hc0
 clear hr0 hc0
 have HB := Aside0.mk (Below.refl w.heap.size w)
 have H : ((reads_Cells.f k l0).bind fun t233 => (sleep_Watched.l0 k l0 ([] : List (S62)) t233 (t233.length : Int) 0)) = some r := h
 clear h
 replace H := Option.bind_eq_some_iff.mp H
 obtain ⟨t233, A20, H⟩ := H
 have A2 := Aside0.mk A20
 clear A20
 have H' := Aside0.mk H
 clear H
 go_enter Try.func31, Try.ntmps31
 go_wp2_with (first | ((with_reducible refine gate_callee (f := 53) rfl ?_); refine goesL_ (some 9) rfl rfl Try.func53 (by kernel_rfl) rfl #[.slice A0 l0.length c0] rfl mp_ ?_; (with_reducible refine (reads_Cells.calls k _ _ l0 t233 _ ?side1 ?side2 A2.out).mono ?_); (case side1 => repeat (first | exact HR0.out | with_reducible first | refine Kd.C_alloc ?_ _ | refine Kd.C_drewN ?_ _ | refine Kd.C_drew ?_)); (case side2 => exact HC0.out); rintro e w3 ⟨v234, rfl, ho0, hb⟩; refine ⟨_, rfl, ?_⟩; replace HO235 := Aside0.mk (Kd.R_lower ho0 bsz_); replace HB := Aside0.mk (bst_ hb); (try clear hb); (try clear hb2); (try clear hk); (try clear hi); (try clear ho0); obtain ⟨Ao4, co4, eo4⟩ := Kd.R_slice HO235.out; subst eo4))
 go_loopg [3, 11] k (fun kq v3 v11 w' => ∃ (x3_1 : List (S62)) (x11_1 : Int), v11 = .int .i64 x11_1 ∧ Aside0 (sleep_Watched.l0 kq l0 x3_1 t233 (t233.length : Int) x11_1 = some r) ∧ Aside0 (kq ≤ k) ∧ Aside0 (Kd.R k62 62 w' w.heap.size (fun _ => True) v3 x3_1) ∧ Aside0 (Kd.R (Kd.int .i64) 3 w' w.heap.size (fun _ => True) (.slice Ao4 t233.length co4) t233) ∧ Aside0 (Below w.heap.size w w'))
 case atStart => exact ⟨(([] : List (S62))), (0), (by first | rfl | (simp; done) | (simp [*]; done)), H', ⟨Nat.le_refl _⟩, ⟨by first | exact Kd.R_nil _ _ _ _ _ | exact Kd.N_nil _ _ _ _ _ | exact Kd.V_nil _ _ _ _ _ | exact Kd.Q_nil _ _ _ _ _ | exact Kd.S_nil _ _ _ _ _⟩, ⟨rq_ HO235⟩, ⟨bsv_⟩⟩
 case round =>
  clear H'
  try clear p2
  try clear c3
  obtain ⟨x3_1, x11_1, rfl, HA, HK1, HO_3, HO_9, HB⟩ := hrel
  cases gk with
  | zero => exact absurd HA.out (by simp [sleep_Watched.l0])
  | succ k1 =>
   have H := HA.out
   clear HA
   simp only [sleep_Watched.l0] at H
   by_cases c5 : x11_1 < (t233.length : Int)
   · rw [if_pos c5] at H
     have c5b0 : decide (x11_1 < (t233.length : Int)) = true := decide_eq_true c5
     clear c5
     by_cases c6 : 0 ≤ x11_1
     · rw [if_pos c6] at H
       have c6b0 : decide (0 ≤ x11_1) = true := decide_eq_true c6
       clear c6
       by_cases c7 : x11_1 < (t233.length : Int)
       · rw [if_pos c7] at H
         have c7b0 : decide (x11_1 < (t233.length : Int)) = true := decide_eq_true c7
         clear c7
         replace H := Option.bind_eq_some_iff.mp H
         obtain ⟨⟨t237, t238, t239, t240⟩, A80, H⟩ := H
         have A8 := Aside0.mk A80
         clear A80
         by_cases c9 : x3_1.length < 8796093022208
         · rw [if_pos c9] at H
           have LMc9 := Aside0.mk c9
           clear c9
           obtain ⟨y242, hy242⟩ : ∃ y_ : List (S62), y_ = (x3_1 ++ [(⟨rd t233 x11_1, t239⟩ : S62)]) := ⟨_, rfl⟩
           replace H : (sleep_Watched.l0 k1 l0 y242 t233 (t233.length : Int) (wrap64 (x11_1 + 1))) = some r := by first | (rw [hy242]; with_reducible exact H) | (have H2_ := (Option.bind_some _ _).symm.trans H; rw [hy242]; with_reducible exact H2_) | (have H2_ := (Option.bind_some _ _).symm.trans H; with_reducible exact H2_) | with_reducible exact H | (rw [hy242]; exact H) | exact H
           have Ny242 := Aside0.mk hy242
           clear hy242
           have H' := Aside0.mk H
           clear H
           have p236 : 0 ≤ (x11_1 : Int) := oda_
           have q236 : x11_1 < (t233.length : Int) := oda_
           obtain ⟨ad236, e236, hx236_0⟩ := Kd.at_int (Kd.R_reads' HO_9.out).2.2 x11_1 p236 q236
           cases e236
           replace p236 := eq_true p236
           replace q236 := eq_true q236
           go_wp2_with (first | ((with_reducible refine gate_callee (f := 54) rfl ?_); refine goesL_ (some 18) rfl rfl Try.func54 (by kernel_rfl) rfl #[.slice A0 l0.length c0, .int .i64 (rd t233 x11_1)] rfl mp_ ?_; (with_reducible refine (reads_Find.calls k1 _ _ l0 (rd t233 x11_1) t237 t238 t239 t240 _ ?side1 ?side2 A8.out).mono ?_); (case side1 => repeat (first | exact (Kd.C_below HR0.out HB.out) | with_reducible first | refine Kd.C_alloc ?_ _ | refine Kd.C_drewN ?_ _ | refine Kd.C_drew ?_)); (case side2 => exact HC0.out); rintro e w10 ⟨rfl, hb⟩; refine ⟨_, rfl, ?_⟩; replace HO_3 := rb_ HO_3 hb; replace HO_9 := rb_ HO_9 hb; replace HB := Aside0.mk (bst_ hb); (try clear hb); (try clear hb2); (try clear hk); (try clear hi)) | ((with_reducible refine gate_dst (N := 6) rfl ?_); refine box_event ?hg (N := 6) ?hd (cs := #[.int .i64 0, .int .i64 0, .int .i64 0]) (t := 57) ?hr ?_; (case hd => rfl); (case hg => rfl); (case hr => first | (go_simp; done) | (go_simp; rfl)); intro gb241 hg w11 hbox hb; replace HO_3 := rb_ HO_3 hb; replace HO_9 := rb_ HO_9 hb; replace BK241 := Aside0.mk (hbox); replace GW241 := Aside0.mk ((by rw [hg]; exact bsz_ : w.heap.size ≤ gb241)); replace HB := Aside0.mk (bst_ hb); replace GE241 := GW241; clear hb hbox hg; have hcz12_0 : w11.cell? ⟨gb241, 0, none⟩ = some (.int .i64 0) := (blk_cell BK241.out 0).trans rfl; have hcz12_1 : w11.cell? ⟨gb241, 1, none⟩ = some (.int .i64 0) := (blk_cell BK241.out 1).trans rfl; have hcz12_2 : w11.cell? ⟨gb241, 2, none⟩ = some (.int .i64 0) := (blk_cell BK241.out 2).trans rfl; have hfz12_0 := blk_frozen BK241.out 0; have hfz12_1 := blk_frozen BK241.out 1; have hfz12_2 := blk_frozen BK241.out 2) | ((with_reducible refine gate_builtin (b := .append) (xs := #[.tmp 21, .tmp 26]) rfl ?_); at_builtin; refine Kd.R_append k62 (w0 := w) w.heap.size rfl (.tmp 21) (.tmp 26) 23 62 (.agg #[(.int .i64 0), (.int .i64 0)]) 16 rfl Try.underlying23 info62 rfl (by decide) (by omega) u3 x3_1 (⟨rd t233 x11_1, t239⟩ : S62) [.int .i64 (rd t233 x11_1), .int .i64 t239] (fun _ => True) (fun _ => False) rfl (by first | (go_simp; done) | (go_simp; rfl)) ?aP (fun _ hk => hk.elim) ?aF ?aO ?aB ?aS ?aL ?_; (case aP => exact k62_mkM _ _ _ (⟨rd t233 x11_1, t239⟩ : S62)); (case aB => exact bsw_); (case aF => exact (fun _ _ => trivial)); (case aO => exact (by (with_reducible repeat (first | apply Kd.R_alloc | apply Kd.R_drewN | apply Kd.R_drew)); exact Kd.R_mono (Kd.R_far (p := ⟨gb241, 2, none⟩) (Kd.R_far (p := ⟨gb241, 1, none⟩) (Kd.R_far (p := ⟨gb241, 0, none⟩) (Kd.R_types HO_3.out BK241.out (by decide)) (fun _ hk => hk.2) (.int .i64 t237)) (fun _ hk => hk.2) (.int .i64 t238)) (fun _ hk => hk.2) (.int .i64 t239)) (fun _ hk => trivial))); (case aS => exact (below_size bsw_)); (case aL => have := LMc9.out; omega); intro v243 w13 ho hb hg hat; rw [← Ny242.out] at ho; replace HO_9 := Aside0.mk (Kd.R_over' (by (with_reducible repeat (first | apply Kd.R_alloc | apply Kd.R_drewN | apply Kd.R_drew)); exact (Kd.R_mono (Kd.R_far (p := ⟨gb241, 2, none⟩) (Kd.R_far (p := ⟨gb241, 1, none⟩) (Kd.R_far (p := ⟨gb241, 0, none⟩) (Kd.R_types HO_9.out BK241.out (by decide)) (fun _ hk => hk.2) (.int .i64 t237)) (fun _ hk => hk.2) (.int .i64 t238)) (fun _ hk => hk.2) (.int .i64 t239)) (fun _ h_ => h_.1))) (Kd.R_typed (by (with_reducible repeat (first | apply Kd.R_alloc | apply Kd.R_drewN | apply Kd.R_drew)); exact (Kd.R_mono (Kd.R_far (p := ⟨gb241, 2, none⟩) (Kd.R_far (p := ⟨gb241, 1, none⟩) (Kd.R_far (p := ⟨gb241, 0, none⟩) (Kd.R_types HO_3.out BK241.out (by decide)) (fun _ hk => hk.2) (.int .i64 t237)) (fun _ hk => hk.2) (.int .i64 t238)) (fun _ hk => hk.2) (.int .i64 t239)) (fun _ h_ => h_.1)))) (by decide) hg); replace BK241 := Aside0.mk (blk_grown (g := gb241) (o := .cells #[.int .i64 t237, .int .i64 t238, .int .i64 t239] 57 (0, 0)) (by (with_reducible repeat (first | refine blk_drewN ?_ _ | refine blk_drew ?_ | refine blk_alloc ?_ _)); refine blk_put (cs := #[.int .i64 t237, .int .i64 t238, .int .i64 0]) ?_ 2 _ rfl; (with_reducible repeat (first | refine blk_drewN ?_ _ | refine blk_drew ?_ | refine blk_alloc ?_ _)); refine blk_put (cs := #[.int .i64 t237, .int .i64 0, .int .i64 0]) ?_ 1 _ rfl; (with_reducible repeat (first | refine blk_drewN ?_ _ | refine blk_drew ?_ | refine blk_alloc ?_ _)); refine blk_put (cs := #[.int .i64 0, .int .i64 0, .int .i64 0]) ?_ 0 _ rfl; (with_reducible repeat (first | refine blk_drewN ?_ _ | refine blk_drew ?_ | refine blk_alloc ?_ _)); exact BK241.out) hg (Kd.R_ne HO_3.out BK241.out (by decide))); replace HB := Aside0.mk (hb); replace HO244 := Aside0.mk (ho); clear HO_3; clear ho hb hg hat))
           go_roundg k1
           case measure => have := HK1.out; omega
           case rel => exact ⟨(y242), (wrap64 (x11_1 + 1)), (by first | rfl | (simp; done) | (simp [*]; done)), H', ⟨by have := HK1.out; omega⟩, ⟨rq_ HO244⟩, ⟨rq_ HO_9⟩, ⟨bsw_⟩⟩
         · rw [if_neg c9] at H
           exact absurd H (by simp)
       · rw [if_neg c7] at H
         exact absurd H (by simp)
     · rw [if_neg c6] at H
       exact absurd H (by simp)
   · rw [if_neg c5] at H
     have c5b0 : decide (x11_1 < (t233.length : Int)) = false := decide_eq_false c5
     clear c5
     obtain rfl := Option.some.inj H
     go_wp2
     go_ret
     exact ⟨_, by first | rfl | (simp [errW_none, errW_some] <;> rfl) | (simp [*, errW_none, errW_some] <;> rfl), rq_ HO_3, bsv_⟩

/-! ### handshakerlaw15_awake: function 15 -/
def handshakerlaw15_awake.f (k : Nat)  : Option (Bool) := (some (([(⟨2, 5⟩ : S62)] : List (S62)) : List (S62))).bind fun y245 => ((sleep_Add.f k ([] : List (S26)) 3 2 0 y245 ([] : List (S80))).bind fun bt256 => ((sleep_Add.f k bt256.1 1 3 0 (([(⟨4, 0⟩ : S62)] : List (S62))) (([(⟨2, 4⟩ : S80)] : List (S80)))).bind fun bt260 => ((sleep_Add.f k bt260.1 3 2 0 y245 ([] : List (S80))).bind fun bt264 => ((sleep_Find.f k bt260.1 3).bind fun bt268 => ((sleep_Drop.f k bt260.1 (([3] : List Int))).bind fun bt282 => ((sleep_Drop.f k bt260.1 (([2] : List Int))).bind fun bt289 => (if bt256.2 = 0 then (if bt260.2 = 0 then (if (bt260.1.length : Int) = 2 then (if 0 < (bt260.1.length : Int) then (if ((rd_T26 bt260.1 0).f0) = 1 then (if bt264.2 = 9 then (if bt268.2.2.2.2.2 = 0 then (if (bt268.2.2.2.1.length : Int) = 1 then (if bt282.2 = 0 then (if (bt282.1.length : Int) = 1 then (if bt289.2 = 3 then ((sleep_Of.f k bt260.1 (([4, 2] : List Int))).bind fun t297 => ((handshakerref03_Numbers.f k t297 (([1, 3] : List Int))).bind fun t303 => (if t303 = true then ((sleep_Watched.f k (([(⟨9, 0, 1⟩ : S57)] : List (S57)))).bind fun t307 => (if (t307.length : Int) = 1 then ((sleep_Right.f k bt260.1).bind fun t310 => (if t310 = true then (some true) else (some false))) else (some false))) else (some false)))) else (some false)) else (some false)) else (some false)) else (some false)) else (some false)) else (some false)) else (some false)) else (none)) else (some false)) else (some false)) else (some false))))))))
theorem handshakerlaw15_awake.mono : ∀ k, LeO (handshakerlaw15_awake.f k ) (handshakerlaw15_awake.f (k + 1) ) := by
 intro  k
 unfold handshakerlaw15_awake.f
 repeat' first
  | (with_reducible exact handshakerref03_Numbers.mono _ _ _)
  | (with_reducible exact sleep_Add.mono _ _ _ _ _ _ _)
  | (with_reducible exact sleep_Drop.mono _ _ _)
  | (with_reducible exact sleep_Find.mono _ _ _)
  | (with_reducible exact sleep_Of.mono _ _ _)
  | (with_reducible exact sleep_Right.mono _ _)
  | (with_reducible exact sleep_Watched.mono _ _)
  | (with_reducible exact LeO.refl _)
  | (with_reducible exact LeO.none _)
  | (with_reducible refine LeO.ite ?_ ?_)
  | (with_reducible refine LeO.bind ?_ (fun _ => ?_))
  | exact handshakerref03_Numbers.mono _ _ _
  | exact sleep_Add.mono _ _ _ _ _ _ _
  | exact sleep_Drop.mono _ _ _
  | exact sleep_Find.mono _ _ _
  | exact sleep_Of.mono _ _ _
  | exact sleep_Right.mono _ _
  | exact sleep_Watched.mono _ _
  | exact LeO.none _
  | refine LeO.ite ?_ ?_
  | refine LeO.bind ?_ (fun _ => ?_)
set_option maxHeartbeats 8000000 in
set_option maxRecDepth 100000 in
theorem handshakerlaw15_awake.callsT (k : Nat)  (r : Bool) (w : World) (HT : Aside0 (r = true)) (h : handshakerlaw15_awake.f k  = some r) :
 Calls Try.prog 15 #[] w fun e w' => e = .returned (.bool r) ∧ Below w.heap.size w w' := by
 have hu62 := Try.underlying62
 have hu26 := Try.underlying26
 have hu80 := Try.underlying80
 have hu57 := Try.underlying57
 have HB := Aside0.mk (Below.refl w.heap.size w)
 have H : ((some (([(⟨2, 5⟩ : S62)] : List (S62)) : List (S62))).bind fun y245 => ((sleep_Add.f k ([] : List (S26)) 3 2 0 y245 ([] : List (S80))).bind fun bt256 => ((sleep_Add.f k bt256.1 1 3 0 (([(⟨4, 0⟩ : S62)] : List (S62))) (([(⟨2, 4⟩ : S80)] : List (S80)))).bind fun bt260 => ((sleep_Add.f k bt260.1 3 2 0 y245 ([] : List (S80))).bind fun bt264 => ((sleep_Find.f k bt260.1 3).bind fun bt268 => ((sleep_Drop.f k bt260.1 (([3] : List Int))).bind fun bt282 => ((sleep_Drop.f k bt260.1 (([2] : List Int))).bind fun bt289 => (if bt256.2 = 0 then (if bt260.2 = 0 then (if (bt260.1.length : Int) = 2 then (if 0 < (bt260.1.length : Int) then (if ((rd_T26 bt260.1 0).f0) = 1 then (if bt264.2 = 9 then (if bt268.2.2.2.2.2 = 0 then (if (bt268.2.2.2.1.length : Int) = 1 then (if bt282.2 = 0 then (if (bt282.1.length : Int) = 1 then (if bt289.2 = 3 then ((sleep_Of.f k bt260.1 (([4, 2] : List Int))).bind fun t297 => ((handshakerref03_Numbers.f k t297 (([1, 3] : List Int))).bind fun t303 => (if t303 = true then ((sleep_Watched.f k (([(⟨9, 0, 1⟩ : S57)] : List (S57)))).bind fun t307 => (if (t307.length : Int) = 1 then ((sleep_Right.f k bt260.1).bind fun t310 => (if t310 = true then (some true) else (some false))) else (some false))) else (some false)))) else (some false)) else (some false)) else (some false)) else (some false)) else (some false)) else (some false)) else (some false)) else (none)) else (some false)) else (some false)) else (some false))))))))) = some r := h
 clear h
 obtain ⟨y245, hy245⟩ : ∃ y_ : List (S62), y_ = (([(⟨2, 5⟩ : S62)] : List (S62))) := ⟨_, rfl⟩
 replace H : ((sleep_Add.f k ([] : List (S26)) 3 2 0 y245 ([] : List (S80))).bind fun bt256 => ((sleep_Add.f k bt256.1 1 3 0 (([(⟨4, 0⟩ : S62)] : List (S62))) (([(⟨2, 4⟩ : S80)] : List (S80)))).bind fun bt260 => ((sleep_Add.f k bt260.1 3 2 0 y245 ([] : List (S80))).bind fun bt264 => ((sleep_Find.f k bt260.1 3).bind fun bt268 => ((sleep_Drop.f k bt260.1 (([3] : List Int))).bind fun bt282 => ((sleep_Drop.f k bt260.1 (([2] : List Int))).bind fun bt289 => (if bt256.2 = 0 then (if bt260.2 = 0 then (if (bt260.1.length : Int) = 2 then (if 0 < (bt260.1.length : Int) then (if ((rd_T26 bt260.1 0).f0) = 1 then (if bt264.2 = 9 then (if bt268.2.2.2.2.2 = 0 then (if (bt268.2.2.2.1.length : Int) = 1 then (if bt282.2 = 0 then (if (bt282.1.length : Int) = 1 then (if bt289.2 = 3 then ((sleep_Of.f k bt260.1 (([4, 2] : List Int))).bind fun t297 => ((handshakerref03_Numbers.f k t297 (([1, 3] : List Int))).bind fun t303 => (if t303 = true then ((sleep_Watched.f k (([(⟨9, 0, 1⟩ : S57)] : List (S57)))).bind fun t307 => (if (t307.length : Int) = 1 then ((sleep_Right.f k bt260.1).bind fun t310 => (if t310 = true then (some true) else (some false))) else (some false))) else (some false)))) else (some false)) else (some false)) else (some false)) else (some false)) else (some false)) else (some false)) else (some false)) else (none)) else (some false)) else (some false)) else (some false)))))))) = some r := by first | (rw [hy245]; with_reducible exact H) | (have H2_ := (Option.bind_some _ _).symm.trans H; rw [hy245]; with_reducible exact H2_) | (have H2_ := (Option.bind_some _ _).symm.trans H; with_reducible exact H2_) | with_reducible exact H | (rw [hy245]; exact H) | exact H
 have Ny245 := Aside0.mk hy245
 clear hy245
 obtain ⟨y249, hy249⟩ : ∃ y_ : List (S62), y_ = (([(⟨4, 0⟩ : S62)] : List (S62))) := ⟨_, rfl⟩
 replace H : ((sleep_Add.f k ([] : List (S26)) 3 2 0 y245 ([] : List (S80))).bind fun bt256 => ((sleep_Add.f k bt256.1 1 3 0 y249 (([(⟨2, 4⟩ : S80)] : List (S80)))).bind fun bt260 => ((sleep_Add.f k bt260.1 3 2 0 y245 ([] : List (S80))).bind fun bt264 => ((sleep_Find.f k bt260.1 3).bind fun bt268 => ((sleep_Drop.f k bt260.1 (([3] : List Int))).bind fun bt282 => ((sleep_Drop.f k bt260.1 (([2] : List Int))).bind fun bt289 => (if bt256.2 = 0 then (if bt260.2 = 0 then (if (bt260.1.length : Int) = 2 then (if 0 < (bt260.1.length : Int) then (if ((rd_T26 bt260.1 0).f0) = 1 then (if bt264.2 = 9 then (if bt268.2.2.2.2.2 = 0 then (if (bt268.2.2.2.1.length : Int) = 1 then (if bt282.2 = 0 then (if (bt282.1.length : Int) = 1 then (if bt289.2 = 3 then ((sleep_Of.f k bt260.1 (([4, 2] : List Int))).bind fun t297 => ((handshakerref03_Numbers.f k t297 (([1, 3] : List Int))).bind fun t303 => (if t303 = true then ((sleep_Watched.f k (([(⟨9, 0, 1⟩ : S57)] : List (S57)))).bind fun t307 => (if (t307.length : Int) = 1 then ((sleep_Right.f k bt260.1).bind fun t310 => (if t310 = true then (some true) else (some false))) else (some false))) else (some false)))) else (some false)) else (some false)) else (some false)) else (some false)) else (some false)) else (some false)) else (some false)) else (none)) else (some false)) else (some false)) else (some false)))))))) = some r := by first | (rw [hy249]; with_reducible exact H) | (have H2_ := (Option.bind_some _ _).symm.trans H; rw [hy249]; with_reducible exact H2_) | (have H2_ := (Option.bind_some _ _).symm.trans H; with_reducible exact H2_) | with_reducible exact H | (rw [hy249]; exact H) | exact H
 have Ny249 := Aside0.mk hy249
 clear hy249
 obtain ⟨y252, hy252⟩ : ∃ y_ : List (S80), y_ = (([(⟨2, 4⟩ : S80)] : List (S80))) := ⟨_, rfl⟩
 replace H : ((sleep_Add.f k ([] : List (S26)) 3 2 0 y245 ([] : List (S80))).bind fun bt256 => ((sleep_Add.f k bt256.1 1 3 0 y249 y252).bind fun bt260 => ((sleep_Add.f k bt260.1 3 2 0 y245 ([] : List (S80))).bind fun bt264 => ((sleep_Find.f k bt260.1 3).bind fun bt268 => ((sleep_Drop.f k bt260.1 (([3] : List Int))).bind fun bt282 => ((sleep_Drop.f k bt260.1 (([2] : List Int))).bind fun bt289 => (if bt256.2 = 0 then (if bt260.2 = 0 then (if (bt260.1.length : Int) = 2 then (if 0 < (bt260.1.length : Int) then (if ((rd_T26 bt260.1 0).f0) = 1 then (if bt264.2 = 9 then (if bt268.2.2.2.2.2 = 0 then (if (bt268.2.2.2.1.length : Int) = 1 then (if bt282.2 = 0 then (if (bt282.1.length : Int) = 1 then (if bt289.2 = 3 then ((sleep_Of.f k bt260.1 (([4, 2] : List Int))).bind fun t297 => ((handshakerref03_Numbers.f k t297 (([1, 3] : List Int))).bind fun t303 => (if t303 = true then ((sleep_Watched.f k (([(⟨9, 0, 1⟩ : S57)] : List (S57)))).bind fun t307 => (if (t307.length : Int) = 1 then ((sleep_Right.f k bt260.1).bind fun t310 => (if t310 = true then (some true) else (some false))) else (some false))) else (some false)))) else (some false)) else (some false)) else (some false)) else (some false)) else (some false)) else (some false)) else (some false)) else (none)) else (some false)) else (some false)) else (some false)))))))) = some r := by first | (rw [hy252]; with_reducible exact H) | (have H2_ := (Option.bind_some _ _).symm.trans H; rw [hy252]; with_reducible exact H2_) | (have H2_ := (Option.bind_some _ _).symm.trans H; with_reducible exact H2_) | with_reducible exact H | (rw [hy252]; exact H) | exact H
 have Ny252 := Aside0.mk hy252
 clear hy252
 replace H := Option.bind_eq_some_iff.mp H
 obtain ⟨⟨t256, t259⟩, A10, H⟩ := H
 have A1 := Aside0.mk A10
 clear A10
 replace H := Option.bind_eq_some_iff.mp H
 obtain ⟨⟨t260, t263⟩, A20, H⟩ := H
 have A2 := Aside0.mk A20
 clear A20
 replace H := Option.bind_eq_some_iff.mp H
 obtain ⟨⟨t264, t267⟩, A30, H⟩ := H
 have A3 := Aside0.mk A30
 clear A30
 replace H := Option.bind_eq_some_iff.mp H
 obtain ⟨⟨t268, t269, t270, t271, t274, t277⟩, A40, H⟩ := H
 have A4 := Aside0.mk A40
 clear A40
 obtain ⟨y279, hy279⟩ : ∃ y_ : List Int, y_ = (([3] : List Int)) := ⟨_, rfl⟩
 replace H : ((sleep_Drop.f k t260 y279).bind fun bt282 => ((sleep_Drop.f k t260 (([2] : List Int))).bind fun bt289 => (if t259 = 0 then (if t263 = 0 then (if (t260.length : Int) = 2 then (if 0 < (t260.length : Int) then (if ((rd_T26 t260 0).f0) = 1 then (if t267 = 9 then (if t277 = 0 then (if (t271.length : Int) = 1 then (if bt282.2 = 0 then (if (bt282.1.length : Int) = 1 then (if bt289.2 = 3 then ((sleep_Of.f k t260 (([4, 2] : List Int))).bind fun t297 => ((handshakerref03_Numbers.f k t297 (([1, 3] : List Int))).bind fun t303 => (if t303 = true then ((sleep_Watched.f k (([(⟨9, 0, 1⟩ : S57)] : List (S57)))).bind fun t307 => (if (t307.length : Int) = 1 then ((sleep_Right.f k t260).bind fun t310 => (if t310 = true then (some true) else (some false))) else (some false))) else (some false)))) else (some false)) else (some false)) else (some false)) else (some false)) else (some false)) else (some false)) else (some false)) else (none)) else (some false)) else (some false)) else (some false)))) = some r := by first | (rw [hy279]; with_reducible exact H) | (have H2_ := (Option.bind_some _ _).symm.trans H; rw [hy279]; with_reducible exact H2_) | (have H2_ := (Option.bind_some _ _).symm.trans H; with_reducible exact H2_) | with_reducible exact H | (rw [hy279]; exact H) | exact H
 have Ny279 := Aside0.mk hy279
 clear hy279
 replace H := Option.bind_eq_some_iff.mp H
 obtain ⟨⟨t282, t285⟩, A50, H⟩ := H
 have A5 := Aside0.mk A50
 clear A50
 obtain ⟨y286, hy286⟩ : ∃ y_ : List Int, y_ = (([2] : List Int)) := ⟨_, rfl⟩
 replace H : ((sleep_Drop.f k t260 y286).bind fun bt289 => (if t259 = 0 then (if t263 = 0 then (if (t260.length : Int) = 2 then (if 0 < (t260.length : Int) then (if ((rd_T26 t260 0).f0) = 1 then (if t267 = 9 then (if t277 = 0 then (if (t271.length : Int) = 1 then (if t285 = 0 then (if (t282.length : Int) = 1 then (if bt289.2 = 3 then ((sleep_Of.f k t260 (([4, 2] : List Int))).bind fun t297 => ((handshakerref03_Numbers.f k t297 (([1, 3] : List Int))).bind fun t303 => (if t303 = true then ((sleep_Watched.f k (([(⟨9, 0, 1⟩ : S57)] : List (S57)))).bind fun t307 => (if (t307.length : Int) = 1 then ((sleep_Right.f k t260).bind fun t310 => (if t310 = true then (some true) else (some false))) else (some false))) else (some false)))) else (some false)) else (some false)) else (some false)) else (some false)) else (some false)) else (some false)) else (some false)) else (none)) else (some false)) else (some false)) else (some false))) = some r := by first | (rw [hy286]; with_reducible exact H) | (have H2_ := (Option.bind_some _ _).symm.trans H; rw [hy286]; with_reducible exact H2_) | (have H2_ := (Option.bind_some _ _).symm.trans H; with_reducible exact H2_) | with_reducible exact H | (rw [hy286]; exact H) | exact H
 have Ny286 := Aside0.mk hy286
 clear hy286
 replace H := Option.bind_eq_some_iff.mp H
 obtain ⟨⟨t289, t292⟩, A60, H⟩ := H
 have A6 := Aside0.mk A60
 clear A60
 by_cases c7 : t259 = 0
 · rw [if_pos c7] at H
   have c7b0 : (t259 == 0) = true := beq_iff_eq.mpr c7
   have c7b1 : (t259 != 0) = false := bne_eq_false_iff_eq.mpr c7
   clear c7
   by_cases c8 : t263 = 0
   · rw [if_pos c8] at H
     have c8b0 : (t263 == 0) = true := beq_iff_eq.mpr c8
     have c8b1 : (t263 != 0) = false := bne_eq_false_iff_eq.mpr c8
     clear c8
     by_cases c9 : (t260.length : Int) = 2
     · rw [if_pos c9] at H
       have c9b0 : ((t260.length : Int) == 2) = true := beq_iff_eq.mpr c9
       have c9b1 : ((t260.length : Int) != 2) = false := bne_eq_false_iff_eq.mpr c9
       clear c9
       by_cases c10 : 0 < (t260.length : Int)
       · rw [if_pos c10] at H
         have c10b0 : decide (0 < (t260.length : Int)) = true := decide_eq_true c10
         have c10b1 : decide (0 < t260.length) = true := decide_eq_true (by omega)
         clear c10
         by_cases c11 : ((rd_T26 t260 0).f0) = 1
         · rw [if_pos c11] at H
           have c11b0 : (((rd_T26 t260 0).f0) == 1) = true := beq_iff_eq.mpr c11
           have c11b1 : (((rd_T26 t260 0).f0) != 1) = false := bne_eq_false_iff_eq.mpr c11
           clear c11
           by_cases c12 : t267 = 9
           · rw [if_pos c12] at H
             have c12b0 : (t267 == 9) = true := beq_iff_eq.mpr c12
             have c12b1 : (t267 != 9) = false := bne_eq_false_iff_eq.mpr c12
             clear c12
             by_cases c13 : t277 = 0
             · rw [if_pos c13] at H
               have c13b0 : (t277 == 0) = true := beq_iff_eq.mpr c13
               have c13b1 : (t277 != 0) = false := bne_eq_false_iff_eq.mpr c13
               clear c13
               by_cases c14 : (t271.length : Int) = 1
               · rw [if_pos c14] at H
                 have c14b0 : ((t271.length : Int) == 1) = true := beq_iff_eq.mpr c14
                 have c14b1 : ((t271.length : Int) != 1) = false := bne_eq_false_iff_eq.mpr c14
                 clear c14
                 by_cases c15 : t285 = 0
                 · rw [if_pos c15] at H
                   have c15b0 : (t285 == 0) = true := beq_iff_eq.mpr c15
                   have c15b1 : (t285 != 0) = false := bne_eq_false_iff_eq.mpr c15
                   clear c15
                   by_cases c16 : (t282.length : Int) = 1
                   · rw [if_pos c16] at H
                     have c16b0 : ((t282.length : Int) == 1) = true := beq_iff_eq.mpr c16
                     have c16b1 : ((t282.length : Int) != 1) = false := bne_eq_false_iff_eq.mpr c16
                     clear c16
                     by_cases c17 : t292 = 3
                     · rw [if_pos c17] at H
                       have c17b0 : (t292 == 3) = true := beq_iff_eq.mpr c17
                       have c17b1 : (t292 != 3) = false := bne_eq_false_iff_eq.mpr c17
                       clear c17
                       obtain ⟨y294, hy294⟩ : ∃ y_ : List Int, y_ = (([4, 2] : List Int)) := ⟨_, rfl⟩
                       replace H : ((sleep_Of.f k t260 y294).bind fun t297 => ((handshakerref03_Numbers.f k t297 (([1, 3] : List Int))).bind fun t303 => (if t303 = true then ((sleep_Watched.f k (([(⟨9, 0, 1⟩ : S57)] : List (S57)))).bind fun t307 => (if (t307.length : Int) = 1 then ((sleep_Right.f k t260).bind fun t310 => (if t310 = true then (some true) else (some false))) else (some false))) else (some false)))) = some r := by first | (rw [hy294]; with_reducible exact H) | (have H2_ := (Option.bind_some _ _).symm.trans H; rw [hy294]; with_reducible exact H2_) | (have H2_ := (Option.bind_some _ _).symm.trans H; with_reducible exact H2_) | with_reducible exact H | (rw [hy294]; exact H) | exact H
                       have Ny294 := Aside0.mk hy294
                       clear hy294
                       replace H := Option.bind_eq_some_iff.mp H
                       obtain ⟨t297, A180, H⟩ := H
                       have A18 := Aside0.mk A180
                       clear A180
                       obtain ⟨y300, hy300⟩ : ∃ y_ : List Int, y_ = (([1, 3] : List Int)) := ⟨_, rfl⟩
                       replace H : ((handshakerref03_Numbers.f k t297 y300).bind fun t303 => (if t303 = true then ((sleep_Watched.f k (([(⟨9, 0, 1⟩ : S57)] : List (S57)))).bind fun t307 => (if (t307.length : Int) = 1 then ((sleep_Right.f k t260).bind fun t310 => (if t310 = true then (some true) else (some false))) else (some false))) else (some false))) = some r := by first | (rw [hy300]; with_reducible exact H) | (have H2_ := (Option.bind_some _ _).symm.trans H; rw [hy300]; with_reducible exact H2_) | (have H2_ := (Option.bind_some _ _).symm.trans H; with_reducible exact H2_) | with_reducible exact H | (rw [hy300]; exact H) | exact H
                       have Ny300 := Aside0.mk hy300
                       clear hy300
                       replace H := Option.bind_eq_some_iff.mp H
                       obtain ⟨t303, A190, H⟩ := H
                       have A19 := Aside0.mk A190
                       clear A190
                       by_cases c20 : t303 = true
                       · subst c20
                         rw [if_pos rfl] at H
                         obtain ⟨y304, hy304⟩ : ∃ y_ : List (S57), y_ = (([(⟨9, 0, 1⟩ : S57)] : List (S57))) := ⟨_, rfl⟩
                         replace H : ((sleep_Watched.f k y304).bind fun t307 => (if (t307.length : Int) = 1 then ((sleep_Right.f k t260).bind fun t310 => (if t310 = true then (some true) else (some false))) else (some false))) = some r := by first | (rw [hy304]; with_reducible exact H) | (have H2_ := (Option.bind_some _ _).symm.trans H; rw [hy304]; with_reducible exact H2_) | (have H2_ := (Option.bind_some _ _).symm.trans H; with_reducible exact H2_) | with_reducible exact H | (rw [hy304]; exact H) | exact H
                         have Ny304 := Aside0.mk hy304
                         clear hy304
                         replace H := Option.bind_eq_some_iff.mp H
                         obtain ⟨t307, A210, H⟩ := H
                         have A21 := Aside0.mk A210
                         clear A210
                         by_cases c22 : (t307.length : Int) = 1
                         · rw [if_pos c22] at H
                           have c22b0 : ((t307.length : Int) == 1) = true := beq_iff_eq.mpr c22
                           have c22b1 : ((t307.length : Int) != 1) = false := bne_eq_false_iff_eq.mpr c22
                           clear c22
                           replace H := Option.bind_eq_some_iff.mp H
                           obtain ⟨t310, A230, H⟩ := H
                           have A23 := Aside0.mk A230
                           clear A230
                           by_cases c24 : t310 = true
                           · subst c24
                             rw [if_pos rfl] at H
                             obtain rfl := Option.some.inj H
                             go_enter Try.func15, Try.ntmps15
                             go_wp2_with (first | ((with_reducible refine gate_dst (N := 15) rfl ?_); (try (refine gate_guard (by rfl) ?_; dsimp only)); refine Kd.R_lit k62 _ 62 ?hg (N := 15) ?hd (xs := ([(⟨2, 5⟩ : S62)] : List (S62))) (inner := [.int .i64 2, .int .i64 5]) (ok := fun _ => True) (okp := fun _ => True) ?hr ?hp (fun _ hk => hk) trivial (Below.refl _ _) (Nat.le_refl _) (by simp) ?_; (case hd => rfl); (case hg => rfl); (case hr => first | (go_simp; done) | (go_simp; rfl)); (case hp => exact (Reps.c2 (show Kd.M k62 _ _ _ (⟨2, 5⟩ : S62) [.int .i64 2, .int .i64 5] from (k62_mkM _ _ _ (⟨2, 5⟩ : S62) )) (Reps.none _ _))); intro v246 w25 ho26 hb hg_ hnew_; clear hg_ hnew_; (first | rw [← Ny245.out] at ho26 | (simp only [Int.reduceToNat] at ho26; rw [← Ny245.out] at ho26)); replace HO247 := Aside0.mk (Kd.R_lower ho26 bsz_); replace HB := Aside0.mk (bst_ hb); clear hb ho26; obtain ⟨Ao27, co27, eo27⟩ := Kd.R_slice HO247.out; subst eo27) | ((with_reducible refine gate_dst (N := 1) rfl ?_); (try (refine gate_guard (by rfl) ?_; dsimp only)); refine box_event ?hg (N := 1) ?hd (cs := #[.int .i64 0, .int .i64 0, .int .i64 0, .slice none 0 0, .slice none 0 0]) (t := 26) ?hr ?_; (case hd => rfl); (case hg => rfl); (case hr => first | (go_simp; done) | (go_simp; rfl)); intro gb248 hg w28 hbox hb; replace HO247 := rb_ HO247 hb; replace BK248 := Aside0.mk (hbox); replace GW248 := Aside0.mk ((by rw [hg]; exact bsz_ : w.heap.size ≤ gb248)); replace HB := Aside0.mk (bst_ hb); replace GE248 := GW248; clear hb hbox hg; have hcz29_0 : w28.cell? ⟨gb248, 0, none⟩ = some (.int .i64 0) := (blk_cell BK248.out 0).trans rfl; have hcz29_1 : w28.cell? ⟨gb248, 1, none⟩ = some (.int .i64 0) := (blk_cell BK248.out 1).trans rfl; have hcz29_2 : w28.cell? ⟨gb248, 2, none⟩ = some (.int .i64 0) := (blk_cell BK248.out 2).trans rfl; have hcz29_3 : w28.cell? ⟨gb248, 3, none⟩ = some (.slice none 0 0) := (blk_cell BK248.out 3).trans rfl; have hcz29_4 : w28.cell? ⟨gb248, 4, none⟩ = some (.slice none 0 0) := (blk_cell BK248.out 4).trans rfl; have hfz29_0 := blk_frozen BK248.out 0; have hfz29_1 := blk_frozen BK248.out 1; have hfz29_2 := blk_frozen BK248.out 2; have hfz29_3 := blk_frozen BK248.out 3; have hfz29_4 := blk_frozen BK248.out 4) | ((with_reducible refine gate_dst (N := 18) rfl ?_); (try (refine gate_guard (by rfl) ?_; dsimp only)); refine Kd.R_lit k62 _ 62 ?hg (N := 18) ?hd (xs := ([(⟨4, 0⟩ : S62)] : List (S62))) (inner := [.int .i64 4, .int .i64 0]) (ok := fun _ => True) (okp := fun _ => True) ?hr ?hp (fun _ hk => hk) trivial (Below.refl _ _) (Nat.le_refl _) (by simp) ?_; (case hd => rfl); (case hg => rfl); (case hr => first | (go_simp; done) | (go_simp; rfl)); (case hp => exact (Reps.c2 (show Kd.M k62 _ _ _ (⟨4, 0⟩ : S62) [.int .i64 4, .int .i64 0] from (k62_mkM _ _ _ (⟨4, 0⟩ : S62) )) (Reps.none _ _))); intro v250 w30 ho31 hb hg_ hnew_; clear hg_ hnew_; (first | rw [← Ny249.out] at ho31 | (simp only [Int.reduceToNat] at ho31; rw [← Ny249.out] at ho31)); replace HO251 := Aside0.mk (Kd.R_lower (Kd.R_new' ho31 (Kd.R_lt (by (with_reducible repeat (first | apply Kd.R_alloc | apply Kd.R_drewN | apply Kd.R_drew)); exact (Kd.R_mono (Kd.R_far (p := ⟨gb248, 4, none⟩) (Kd.R_far (p := ⟨gb248, 3, none⟩) (Kd.R_far (p := ⟨gb248, 2, none⟩) (Kd.R_far (p := ⟨gb248, 1, none⟩) (Kd.R_far (p := ⟨gb248, 0, none⟩) (Kd.R_types HO247.out BK248.out (by decide)) (fun _ hk => hk.2) (.int .i64 3)) (fun _ hk => hk.2) (.int .i64 2)) (fun _ hk => hk.2) (.int .i64 0)) (fun _ hk => hk.2) (.slice Ao27 y245.length co27)) (fun _ hk => hk.2) (.slice none 0 0)) (fun _ h_ => h_.1))))) (below_size bsw_)); replace HO247 := Aside0.mk (Kd.R_elder' (by (with_reducible repeat (first | apply Kd.R_alloc | apply Kd.R_drewN | apply Kd.R_drew)); exact (Kd.R_mono (Kd.R_far (p := ⟨gb248, 4, none⟩) (Kd.R_far (p := ⟨gb248, 3, none⟩) (Kd.R_far (p := ⟨gb248, 2, none⟩) (Kd.R_far (p := ⟨gb248, 1, none⟩) (Kd.R_far (p := ⟨gb248, 0, none⟩) (Kd.R_types HO247.out BK248.out (by decide)) (fun _ hk => hk.2) (.int .i64 3)) (fun _ hk => hk.2) (.int .i64 2)) (fun _ hk => hk.2) (.int .i64 0)) (fun _ hk => hk.2) (.slice Ao27 y245.length co27)) (fun _ hk => hk.2) (.slice none 0 0)) (fun _ h_ => h_.1))) (Kd.R_base ho31) hb); replace BK248 := Aside0.mk (blk_below (g := gb248) (o := .cells #[.int .i64 3, .int .i64 2, .int .i64 0, .slice Ao27 y245.length co27, .slice none 0 0] 26 (0, 0)) (by (with_reducible repeat (first | refine blk_drewN ?_ _ | refine blk_drew ?_ | refine blk_alloc ?_ _)); refine blk_put (cs := #[.int .i64 3, .int .i64 2, .int .i64 0, .slice Ao27 y245.length co27, .slice none 0 0]) ?_ 4 _ rfl; (with_reducible repeat (first | refine blk_drewN ?_ _ | refine blk_drew ?_ | refine blk_alloc ?_ _)); refine blk_put (cs := #[.int .i64 3, .int .i64 2, .int .i64 0, .slice none 0 0, .slice none 0 0]) ?_ 3 _ rfl; (with_reducible repeat (first | refine blk_drewN ?_ _ | refine blk_drew ?_ | refine blk_alloc ?_ _)); refine blk_put (cs := #[.int .i64 3, .int .i64 2, .int .i64 0, .slice none 0 0, .slice none 0 0]) ?_ 2 _ rfl; (with_reducible repeat (first | refine blk_drewN ?_ _ | refine blk_drew ?_ | refine blk_alloc ?_ _)); refine blk_put (cs := #[.int .i64 3, .int .i64 0, .int .i64 0, .slice none 0 0, .slice none 0 0]) ?_ 1 _ rfl; (with_reducible repeat (first | refine blk_drewN ?_ _ | refine blk_drew ?_ | refine blk_alloc ?_ _)); refine blk_put (cs := #[.int .i64 0, .int .i64 0, .int .i64 0, .slice none 0 0, .slice none 0 0]) ?_ 0 _ rfl; (with_reducible repeat (first | refine blk_drewN ?_ _ | refine blk_drew ?_ | refine blk_alloc ?_ _)); exact BK248.out) hb); replace HB := Aside0.mk (below_step bsw_ hb); clear hb ho31) | ((with_reducible refine gate_dst (N := 20) rfl ?_); (try (refine gate_guard (by rfl) ?_; dsimp only)); refine Kd.R_lit k80 _ 80 ?hg (N := 20) ?hd (xs := ([(⟨2, 4⟩ : S80)] : List (S80))) (inner := [.int .i64 2, .int .i64 4]) (ok := fun _ => True) (okp := fun _ => True) ?hr ?hp (fun _ hk => hk) trivial (Below.refl _ _) (Nat.le_refl _) (by simp) ?_; (case hd => rfl); (case hg => rfl); (case hr => first | (go_simp; done) | (go_simp; rfl)); (case hp => exact (Reps.c2 (show Kd.M k80 _ _ _ (⟨2, 4⟩ : S80) [.int .i64 2, .int .i64 4] from (k80_mkM _ _ _ (⟨2, 4⟩ : S80) )) (Reps.none _ _))); intro v253 w32 ho33 hb hg_ hnew_; clear hg_ hnew_; (first | rw [← Ny252.out] at ho33 | (simp only [Int.reduceToNat] at ho33; rw [← Ny252.out] at ho33)); replace HO247 := rb_ HO247 hb; replace HO251 := rb_ HO251 hb; replace HO254 := Aside0.mk (Kd.R_lower ho33 (below_size bsw_)); replace BK248 := bb_ BK248 hb; replace HB := Aside0.mk (below_step bsw_ hb); clear hb ho33; obtain ⟨Ao34, co34, eo34⟩ := Kd.R_slice HO254.out; subst eo34; obtain ⟨Ao35, co35, eo35⟩ := Kd.R_slice HO251.out; subst eo35) | ((with_reducible refine gate_dst (N := 2) rfl ?_); (try (refine gate_guard (by rfl) ?_; dsimp only)); refine box_event ?hg (N := 2) ?hd (cs := #[.int .i64 0, .int .i64 0, .int .i64 0, .slice none 0 0, .slice none 0 0]) (t := 26) ?hr ?_; (case hd => rfl); (case hg => rfl); (case hr => first | (go_simp; done) | (go_simp; rfl)); intro gb255 hg w36 hbox hb; replace HO247 := rb_ HO247 hb; replace HO251 := rb_ HO251 hb; replace HO254 := rb_ HO254 hb; replace BK255 := Aside0.mk (hbox); replace GW255 := Aside0.mk ((by rw [hg]; exact (below_size bsw_) : w.heap.size ≤ gb255)); replace HB := Aside0.mk (below_step bsw_ hb); replace GE255 := GW255; replace NB248_255 := Aside0.mk ((by rw [hg]; exact Nat.ne_of_lt (blk_lt (g := gb248) (o := .cells #[.int .i64 3, .int .i64 2, .int .i64 0, .slice Ao27 y245.length co27, .slice none 0 0] 26 (0, 0)) (bq_ BK248)) : gb248 ≠ gb255)); replace NB255_248 := Aside0.mk ((by rw [hg]; exact Nat.ne_of_gt (blk_lt (g := gb248) (o := .cells #[.int .i64 3, .int .i64 2, .int .i64 0, .slice Ao27 y245.length co27, .slice none 0 0] 26 (0, 0)) (bq_ BK248)) : gb255 ≠ gb248)); replace BK248 := bb_ BK248 hb; clear hb hbox hg; have hnb37 := NB255_248.out; have hnc37 := NB248_255.out; have hcz38_0 : w36.cell? ⟨gb255, 0, none⟩ = some (.int .i64 0) := (blk_cell BK255.out 0).trans rfl; have hcz38_1 : w36.cell? ⟨gb255, 1, none⟩ = some (.int .i64 0) := (blk_cell BK255.out 1).trans rfl; have hcz38_2 : w36.cell? ⟨gb255, 2, none⟩ = some (.int .i64 0) := (blk_cell BK255.out 2).trans rfl; have hcz38_3 : w36.cell? ⟨gb255, 3, none⟩ = some (.slice none 0 0) := (blk_cell BK255.out 3).trans rfl; have hcz38_4 : w36.cell? ⟨gb255, 4, none⟩ = some (.slice none 0 0) := (blk_cell BK255.out 4).trans rfl; have hfz38_0 := blk_frozen BK255.out 0; have hfz38_1 := blk_frozen BK255.out 1; have hfz38_2 := blk_frozen BK255.out 2; have hfz38_3 := blk_frozen BK255.out 3; have hfz38_4 := blk_frozen BK255.out 4) | ((with_reducible refine gate_store (t := 26) (p := 2) rfl ?_); refine store_event (t := 26) (p := 2) (v := ?vo_w39) (w1 := (((((w36.setCell ⟨gb255, 0, none⟩ (.int .i64 1)).setCell ⟨gb255, 1, none⟩ (.int .i64 3)).setCell ⟨gb255, 2, none⟩ (.int .i64 0)).setCell ⟨gb255, 3, none⟩ (.slice Ao35 y249.length co35)).setCell ⟨gb255, 4, none⟩ (.slice Ao34 y252.length co34))) ?hg ?ho ?hn ?hr ?_; (case ho => rfl); (case hg => rfl); (case hn => rfl); (case hr => first | (go_simp; done) | (go_simp; rfl)); intro w39 hw; have n0_ : Aside0 (Kd.R k62 62 w39 w.heap.size (fun k_ => some k_ ≠ (.slice Ao35 y249.length co35 : Value).ownBlock) (.slice Ao27 y245.length co27) y245) := ⟨(by rw [hw]; exact (by (with_reducible repeat (first | apply Kd.R_alloc | apply Kd.R_drewN | apply Kd.R_drew)); exact Kd.R_mono (Kd.R_far (p := ⟨gb255, 4, none⟩) (Kd.R_far (p := ⟨gb255, 3, none⟩) (Kd.R_far (p := ⟨gb255, 2, none⟩) (Kd.R_far (p := ⟨gb255, 1, none⟩) (Kd.R_far (p := ⟨gb255, 0, none⟩) (Kd.R_types HO247.out BK255.out (by decide)) (fun _ hk => hk.2) (.int .i64 1)) (fun _ hk => hk.2) (.int .i64 3)) (fun _ hk => hk.2) (.int .i64 0)) (fun _ hk => hk.2) (.slice Ao35 y249.length co35)) (fun _ hk => hk.2) (.slice Ao34 y252.length co34)) (fun _ hk => hk.1.2)))⟩; have n1_ : Aside0 (Kd.R k62 62 w39 w.heap.size (fun k_ => some k_ ≠ (.slice Ao27 y245.length co27 : Value).ownBlock) (.slice Ao35 y249.length co35) y249) := ⟨(by rw [hw]; exact (by (with_reducible repeat (first | apply Kd.R_alloc | apply Kd.R_drewN | apply Kd.R_drew)); exact Kd.R_mono (Kd.R_far (p := ⟨gb255, 4, none⟩) (Kd.R_far (p := ⟨gb255, 3, none⟩) (Kd.R_far (p := ⟨gb255, 2, none⟩) (Kd.R_far (p := ⟨gb255, 1, none⟩) (Kd.R_far (p := ⟨gb255, 0, none⟩) (Kd.R_types HO251.out BK255.out (by decide)) (fun _ hk => hk.2) (.int .i64 1)) (fun _ hk => hk.2) (.int .i64 3)) (fun _ hk => hk.2) (.int .i64 0)) (fun _ hk => hk.2) (.slice Ao35 y249.length co35)) (fun _ hk => hk.2) (.slice Ao34 y252.length co34)) (fun _ hk => hk.1.2)))⟩; have n2_ : Aside0 (Kd.R k80 80 w39 w.heap.size (fun _ => True) (.slice Ao34 y252.length co34) y252) := ⟨(by rw [hw]; exact (by (with_reducible repeat (first | apply Kd.R_alloc | apply Kd.R_drewN | apply Kd.R_drew)); exact Kd.R_mono (Kd.R_far (p := ⟨gb255, 4, none⟩) (Kd.R_far (p := ⟨gb255, 3, none⟩) (Kd.R_far (p := ⟨gb255, 2, none⟩) (Kd.R_far (p := ⟨gb255, 1, none⟩) (Kd.R_far (p := ⟨gb255, 0, none⟩) (Kd.R_types HO254.out BK255.out (by decide)) (fun _ hk => hk.2) (.int .i64 1)) (fun _ hk => hk.2) (.int .i64 3)) (fun _ hk => hk.2) (.int .i64 0)) (fun _ hk => hk.2) (.slice Ao35 y249.length co35)) (fun _ hk => hk.2) (.slice Ao34 y252.length co34)) (fun _ hk => trivial)))⟩; have n3_ : Aside0 (w39.heap[gb248]? = some (.cells #[.int .i64 3, .int .i64 2, .int .i64 0, .slice Ao27 y245.length co27, .slice none 0 0] 26 (0, 0))) := ⟨(by rw [hw]; exact (by (with_reducible repeat (first | refine blk_drewN ?_ _ | refine blk_drew ?_ | refine blk_alloc ?_ _)); refine blk_far ?_ NB248_255.out _; (with_reducible repeat (first | refine blk_drewN ?_ _ | refine blk_drew ?_ | refine blk_alloc ?_ _)); refine blk_far ?_ NB248_255.out _; (with_reducible repeat (first | refine blk_drewN ?_ _ | refine blk_drew ?_ | refine blk_alloc ?_ _)); refine blk_far ?_ NB248_255.out _; (with_reducible repeat (first | refine blk_drewN ?_ _ | refine blk_drew ?_ | refine blk_alloc ?_ _)); refine blk_far ?_ NB248_255.out _; (with_reducible repeat (first | refine blk_drewN ?_ _ | refine blk_drew ?_ | refine blk_alloc ?_ _)); refine blk_far ?_ NB248_255.out _; (with_reducible repeat (first | refine blk_drewN ?_ _ | refine blk_drew ?_ | refine blk_alloc ?_ _)); exact BK248.out))⟩; have n4_ : Aside0 (w39.heap[gb255]? = some (.cells #[.int .i64 1, .int .i64 3, .int .i64 0, .slice Ao35 y249.length co35, .slice Ao34 y252.length co34] 26 (0, 0))) := ⟨(by rw [hw]; exact (by (with_reducible repeat (first | refine blk_drewN ?_ _ | refine blk_drew ?_ | refine blk_alloc ?_ _)); refine blk_put (cs := #[.int .i64 1, .int .i64 3, .int .i64 0, .slice Ao35 y249.length co35, .slice none 0 0]) ?_ 4 _ rfl; (with_reducible repeat (first | refine blk_drewN ?_ _ | refine blk_drew ?_ | refine blk_alloc ?_ _)); refine blk_put (cs := #[.int .i64 1, .int .i64 3, .int .i64 0, .slice none 0 0, .slice none 0 0]) ?_ 3 _ rfl; (with_reducible repeat (first | refine blk_drewN ?_ _ | refine blk_drew ?_ | refine blk_alloc ?_ _)); refine blk_put (cs := #[.int .i64 1, .int .i64 3, .int .i64 0, .slice none 0 0, .slice none 0 0]) ?_ 2 _ rfl; (with_reducible repeat (first | refine blk_drewN ?_ _ | refine blk_drew ?_ | refine blk_alloc ?_ _)); refine blk_put (cs := #[.int .i64 1, .int .i64 0, .int .i64 0, .slice none 0 0, .slice none 0 0]) ?_ 1 _ rfl; (with_reducible repeat (first | refine blk_drewN ?_ _ | refine blk_drew ?_ | refine blk_alloc ?_ _)); refine blk_put (cs := #[.int .i64 0, .int .i64 0, .int .i64 0, .slice none 0 0, .slice none 0 0]) ?_ 0 _ rfl; (with_reducible repeat (first | refine blk_drewN ?_ _ | refine blk_drew ?_ | refine blk_alloc ?_ _)); exact BK255.out))⟩; have n5_ : Aside0 (Below w.heap.size w w39) := ⟨(by rw [hw]; exact (by repeat (first | (with_reducible first | exact HB.out | apply below_alloc | apply pw_below_drewN | apply below_drew1 | refine below_set ?_ GE248.out | refine below_set ?_ GE255.out) | exact HB.out)))⟩; clear hw; clear HO247; clear HO251; clear HO254; clear BK248; clear BK255; clear HB; have HO247 := n0_; have HO251 := n1_; have HO254 := n2_; have BK248 := n3_; have BK255 := n4_; have HB := n5_; clear n0_ n1_ n2_ n3_ n4_ n5_; have hcz40_0 : w39.cell? ⟨gb248, 0, none⟩ = some (.int .i64 3) := (blk_cell BK248.out 0).trans rfl; have hcz40_1 : w39.cell? ⟨gb248, 1, none⟩ = some (.int .i64 2) := (blk_cell BK248.out 1).trans rfl; have hcz40_2 : w39.cell? ⟨gb248, 2, none⟩ = some (.int .i64 0) := (blk_cell BK248.out 2).trans rfl; have hcz40_3 : w39.cell? ⟨gb248, 3, none⟩ = some (.slice Ao27 y245.length co27) := (blk_cell BK248.out 3).trans rfl; have hcz40_4 : w39.cell? ⟨gb248, 4, none⟩ = some (.slice none 0 0) := (blk_cell BK248.out 4).trans rfl; have hfz40_0 := blk_frozen BK248.out 0; have hfz40_1 := blk_frozen BK248.out 1; have hfz40_2 := blk_frozen BK248.out 2; have hfz40_3 := blk_frozen BK248.out 3; have hfz40_4 := blk_frozen BK248.out 4) | ((with_reducible refine gate_callee (f := 17) rfl ?_); refine goesL_ (some 24) rfl rfl Try.func17 (by kernel_rfl) rfl #[.slice none 0 0, .agg #[.int .i64 3, .int .i64 2, .int .i64 0, .slice Ao27 y245.length co27, .slice none 0 0]] rfl mp_ ?_; (refine (sleep_Add.calls k (fun k_ => False) _ _ ([] : List (S26)) 3 2 0 (fun k_ => some k_ = (.slice Ao27 y245.length co27 : Value).ownBlock) _ _ y245 (fun k_ => False) _ _ ([] : List (S80)) t256 t259 _ ?side1 ?side2 ?side3 A1.out).mono ?_); (case side1 => exact Kd.V_nil _ _ _ _ _); (case side2 => exact Kd.R_V (Kd.R_tight rfl (Kd.R_types (Kd.R_types (Kd.R_apart' (HO247.out) (Kd.R_typed HO254.out) (by decide)) BK248.out (by decide)) BK255.out (by decide)))); (case side3 => exact Kd.V_nil _ _ _ _ _); rintro e w41 ⟨v257, rfl, ho0, hb⟩; refine ⟨_, rfl, ?_⟩; replace HO258 := Aside0.mk (Kd.V_lower (Kd.V_mono (ok' := fun k_ => some k_ ≠ (.slice Ao35 y249.length co35 : Value).ownBlock ∧ some k_ ≠ (.slice Ao34 y252.length co34 : Value).ownBlock ∧ k_ ≠ gb248 ∧ k_ ≠ gb255) ho0 (fun k_ hk_ => ⟨Or.elim hk_ (fun hs_ => Or.elim hs_ (fun hs_ => (hs_).elim) (fun hs_ => Or.elim hs_ (fun hs_ => ((Kd.R_types (Kd.R_types (Kd.R_apart' (HO247.out) (Kd.R_typed HO254.out) (by decide)) BK248.out (by decide)) BK255.out (by decide)).1 k_ hs_.symm).1.1.1) (fun hs_ => (hs_).elim))) (fun hn_ => (Kd.fresh' (Kd.R_lt (rq_ HO251)) k_ hn_)), Or.elim hk_ (fun hs_ => Or.elim hs_ (fun hs_ => (hs_).elim) (fun hs_ => Or.elim hs_ (fun hs_ => ((Kd.R_types (Kd.R_types (Kd.R_apart' (HO247.out) (Kd.R_typed HO254.out) (by decide)) BK248.out (by decide)) BK255.out (by decide)).1 k_ hs_.symm).1.1.2) (fun hs_ => (hs_).elim))) (fun hn_ => (Kd.fresh' (Kd.R_lt (rq_ HO254)) k_ hn_)), Or.elim hk_ (fun hs_ => Or.elim hs_ (fun hs_ => (hs_).elim) (fun hs_ => Or.elim hs_ (fun hs_ => ((Kd.R_types (Kd.R_types (Kd.R_apart' (HO247.out) (Kd.R_typed HO254.out) (by decide)) BK248.out (by decide)) BK255.out (by decide)).1 k_ hs_.symm).1.2) (fun hs_ => (hs_).elim))) (fun hn_ => (Kd.freshB (g := gb248) (o := .cells #[.int .i64 3, .int .i64 2, .int .i64 0, .slice Ao27 y245.length co27, .slice none 0 0] 26 (0, 0)) (bq_ BK248) k_ hn_)), Or.elim hk_ (fun hs_ => Or.elim hs_ (fun hs_ => (hs_).elim) (fun hs_ => Or.elim hs_ (fun hs_ => ((Kd.R_types (Kd.R_types (Kd.R_apart' (HO247.out) (Kd.R_typed HO254.out) (by decide)) BK248.out (by decide)) BK255.out (by decide)).1 k_ hs_.symm).2) (fun hs_ => (hs_).elim))) (fun hn_ => (Kd.freshB (g := gb255) (o := .cells #[.int .i64 1, .int .i64 3, .int .i64 0, .slice Ao35 y249.length co35, .slice Ao34 y252.length co34] 26 (0, 0)) (bq_ BK255) k_ hn_))⟩)) (below_size (by repeat (first | (with_reducible first | exact HB.out | apply below_alloc | apply pw_below_drewN | apply below_drew1 | refine below_set ?_ GE248.out | refine below_set ?_ GE255.out) | exact HB.out)))); replace HO247 := rb_ HO247 hb; replace HO251 := rb_ HO251 hb; replace HO254 := rb_ HO254 hb; replace BK248 := bb_ BK248 hb; replace BK255 := bb_ BK255 hb; replace HB := Aside0.mk (below_step (by repeat (first | (with_reducible first | exact HB.out | apply below_alloc | apply pw_below_drewN | apply below_drew1 | refine below_set ?_ GE248.out | refine below_set ?_ GE255.out) | exact HB.out)) hb); (try clear hb); (try clear hb2); (try clear hk); (try clear hi); (try clear ho0); have hcz42_0 : w41.cell? ⟨gb255, 0, none⟩ = some (.int .i64 1) := (blk_cell BK255.out 0).trans rfl; have hcz42_1 : w41.cell? ⟨gb255, 1, none⟩ = some (.int .i64 3) := (blk_cell BK255.out 1).trans rfl; have hcz42_2 : w41.cell? ⟨gb255, 2, none⟩ = some (.int .i64 0) := (blk_cell BK255.out 2).trans rfl; have hcz42_3 : w41.cell? ⟨gb255, 3, none⟩ = some (.slice Ao35 y249.length co35) := (blk_cell BK255.out 3).trans rfl; have hcz42_4 : w41.cell? ⟨gb255, 4, none⟩ = some (.slice Ao34 y252.length co34) := (blk_cell BK255.out 4).trans rfl; have hfz42_0 := blk_frozen BK255.out 0; have hfz42_1 := blk_frozen BK255.out 1; have hfz42_2 := blk_frozen BK255.out 2; have hfz42_3 := blk_frozen BK255.out 3; have hfz42_4 := blk_frozen BK255.out 4; obtain ⟨Ao43, co43, eo43⟩ := Kd.V_slice HO258.out; subst eo43) | ((with_reducible refine gate_callee (f := 17) rfl ?_); refine goesL_ (some 30) rfl rfl Try.func17 (by kernel_rfl) rfl #[.slice Ao43 t256.length co43, .agg #[.int .i64 1, .int .i64 3, .int .i64 0, .slice Ao35 y249.length co35, .slice Ao34 y252.length co34]] rfl mp_ ?_; (with_reducible refine (sleep_Add.calls k (fun k_ => (some k_ ≠ (.slice Ao35 y249.length co35 : Value).ownBlock ∧ (some k_ ≠ (.slice Ao34 y252.length co34 : Value).ownBlock ∧ (k_ ≠ gb248 ∧ k_ ≠ gb255)))) _ _ t256 1 3 0 (fun k_ => some k_ = (.slice Ao35 y249.length co35 : Value).ownBlock) _ _ y249 (fun k_ => some k_ = (.slice Ao34 y252.length co34 : Value).ownBlock) _ _ y252 t260 t263 _ ?side1 ?side2 ?side3 A2.out).mono ?_); (case side1 => exact HO258.out); (case side2 => exact Kd.R_V (Kd.R_tight rfl (Kd.R_types (Kd.R_types (Kd.R_apart' (HO251.out) (Kd.R_typed HO254.out) (by decide)) BK248.out (by decide)) BK255.out (by decide)))); (case side3 => exact Kd.R_V (Kd.R_tight rfl (Kd.R_types (Kd.R_types (Kd.R_apart' (Kd.R_apart' (HO254.out) (Kd.R_typed HO247.out) (by decide)) (Kd.R_typed HO251.out) (by decide)) BK248.out (by decide)) BK255.out (by decide)))); rintro e w44 ⟨v261, rfl, ho0, hb⟩; refine ⟨_, rfl, ?_⟩; replace HO258 := vb_ HO258 hb; replace HO262 := Aside0.mk (Kd.V_lower (Kd.V_mono (ok' := fun k_ => k_ ≠ gb248 ∧ k_ ≠ gb255) ho0 (fun k_ hk_ => ⟨Or.elim hk_ (fun hs_ => Or.elim hs_ (fun hs_ => hs_.2.2.1) (fun hs_ => Or.elim hs_ (fun hs_ => ((Kd.R_types (Kd.R_types (Kd.R_apart' (HO251.out) (Kd.R_typed HO254.out) (by decide)) BK248.out (by decide)) BK255.out (by decide)).1 k_ hs_.symm).1.2) (fun hs_ => ((Kd.R_types (Kd.R_types (Kd.R_apart' (Kd.R_apart' (HO254.out) (Kd.R_typed HO247.out) (by decide)) (Kd.R_typed HO251.out) (by decide)) BK248.out (by decide)) BK255.out (by decide)).1 k_ hs_.symm).1.2))) (fun hn_ => (Kd.freshB (g := gb248) (o := .cells #[.int .i64 3, .int .i64 2, .int .i64 0, .slice Ao27 y245.length co27, .slice none 0 0] 26 (0, 0)) (bq_ BK248) k_ hn_)), Or.elim hk_ (fun hs_ => Or.elim hs_ (fun hs_ => hs_.2.2.2) (fun hs_ => Or.elim hs_ (fun hs_ => ((Kd.R_types (Kd.R_types (Kd.R_apart' (HO251.out) (Kd.R_typed HO254.out) (by decide)) BK248.out (by decide)) BK255.out (by decide)).1 k_ hs_.symm).2) (fun hs_ => ((Kd.R_types (Kd.R_types (Kd.R_apart' (Kd.R_apart' (HO254.out) (Kd.R_typed HO247.out) (by decide)) (Kd.R_typed HO251.out) (by decide)) BK248.out (by decide)) BK255.out (by decide)).1 k_ hs_.symm).2))) (fun hn_ => (Kd.freshB (g := gb255) (o := .cells #[.int .i64 1, .int .i64 3, .int .i64 0, .slice Ao35 y249.length co35, .slice Ao34 y252.length co34] 26 (0, 0)) (bq_ BK255) k_ hn_))⟩)) (below_size (by repeat (first | (with_reducible first | exact HB.out | apply below_alloc | apply pw_below_drewN | apply below_drew1 | refine below_set ?_ GE248.out | refine below_set ?_ GE255.out) | exact HB.out)))); replace HO247 := rb_ HO247 hb; replace HO251 := rb_ HO251 hb; replace HO254 := rb_ HO254 hb; replace BK248 := bb_ BK248 hb; replace BK255 := bb_ BK255 hb; replace HB := Aside0.mk (below_step (by repeat (first | (with_reducible first | exact HB.out | apply below_alloc | apply pw_below_drewN | apply below_drew1 | refine below_set ?_ GE248.out | refine below_set ?_ GE255.out) | exact HB.out)) hb); (try clear hb); (try clear hb2); (try clear hk); (try clear hi); (try clear ho0); have hcz45_0 : w44.cell? ⟨gb248, 0, none⟩ = some (.int .i64 3) := (blk_cell BK248.out 0).trans rfl; have hcz45_1 : w44.cell? ⟨gb248, 1, none⟩ = some (.int .i64 2) := (blk_cell BK248.out 1).trans rfl; have hcz45_2 : w44.cell? ⟨gb248, 2, none⟩ = some (.int .i64 0) := (blk_cell BK248.out 2).trans rfl; have hcz45_3 : w44.cell? ⟨gb248, 3, none⟩ = some (.slice Ao27 y245.length co27) := (blk_cell BK248.out 3).trans rfl; have hcz45_4 : w44.cell? ⟨gb248, 4, none⟩ = some (.slice none 0 0) := (blk_cell BK248.out 4).trans rfl; have hfz45_0 := blk_frozen BK248.out 0; have hfz45_1 := blk_frozen BK248.out 1; have hfz45_2 := blk_frozen BK248.out 2; have hfz45_3 := blk_frozen BK248.out 3; have hfz45_4 := blk_frozen BK248.out 4; obtain ⟨Ao46, co46, eo46⟩ := Kd.V_slice HO262.out; subst eo46) | ((with_reducible refine gate_callee (f := 17) rfl ?_); refine goesL_ (some 36) rfl rfl Try.func17 (by kernel_rfl) rfl #[.slice Ao46 t260.length co46, .agg #[.int .i64 3, .int .i64 2, .int .i64 0, .slice Ao27 y245.length co27, .slice none 0 0]] rfl mp_ ?_; (refine (sleep_Add.calls k (fun k_ => (k_ ≠ gb248 ∧ k_ ≠ gb255)) _ _ t260 3 2 0 (fun k_ => some k_ = (.slice Ao27 y245.length co27 : Value).ownBlock) _ _ y245 (fun k_ => False) _ _ ([] : List (S80)) t264 t267 _ ?side1 ?side2 ?side3 A3.out).mono ?_); (case side1 => exact HO262.out); (case side2 => exact Kd.R_V (Kd.R_tight rfl (Kd.R_types (Kd.R_types (Kd.R_apart' (HO247.out) (Kd.R_typed HO254.out) (by decide)) BK248.out (by decide)) BK255.out (by decide)))); (case side3 => exact Kd.V_nil _ _ _ _ _); rintro e w47 ⟨v265, rfl, ho0, hb⟩; refine ⟨_, rfl, ?_⟩; replace HO251 := rb_ HO251 hb; replace HO258 := vb_ HO258 hb; replace HO262 := vb_ HO262 hb; replace HO266 := Aside0.mk (Kd.V_lower (Kd.V_mono (ok' := fun k_ => k_ ≠ gb248 ∧ k_ ≠ gb255) ho0 (fun k_ hk_ => ⟨Or.elim hk_ (fun hs_ => Or.elim hs_ (fun hs_ => hs_.1) (fun hs_ => Or.elim hs_ (fun hs_ => ((Kd.R_types (Kd.R_types (Kd.R_apart' (HO247.out) (Kd.R_typed HO254.out) (by decide)) BK248.out (by decide)) BK255.out (by decide)).1 k_ hs_.symm).1.2) (fun hs_ => (hs_).elim))) (fun hn_ => (Kd.freshB (g := gb248) (o := .cells #[.int .i64 3, .int .i64 2, .int .i64 0, .slice Ao27 y245.length co27, .slice none 0 0] 26 (0, 0)) (bq_ BK248) k_ hn_)), Or.elim hk_ (fun hs_ => Or.elim hs_ (fun hs_ => hs_.2) (fun hs_ => Or.elim hs_ (fun hs_ => ((Kd.R_types (Kd.R_types (Kd.R_apart' (HO247.out) (Kd.R_typed HO254.out) (by decide)) BK248.out (by decide)) BK255.out (by decide)).1 k_ hs_.symm).2) (fun hs_ => (hs_).elim))) (fun hn_ => (Kd.freshB (g := gb255) (o := .cells #[.int .i64 1, .int .i64 3, .int .i64 0, .slice Ao35 y249.length co35, .slice Ao34 y252.length co34] 26 (0, 0)) (bq_ BK255) k_ hn_))⟩)) (below_size (by repeat (first | (with_reducible first | exact HB.out | apply below_alloc | apply pw_below_drewN | apply below_drew1 | refine below_set ?_ GE248.out | refine below_set ?_ GE255.out) | exact HB.out)))); replace HO247 := rb_ HO247 hb; replace HO254 := rb_ HO254 hb; replace BK248 := bb_ BK248 hb; replace BK255 := bb_ BK255 hb; replace HB := Aside0.mk (below_step (by repeat (first | (with_reducible first | exact HB.out | apply below_alloc | apply pw_below_drewN | apply below_drew1 | refine below_set ?_ GE248.out | refine below_set ?_ GE255.out) | exact HB.out)) hb); (try clear hb); (try clear hb2); (try clear hk); (try clear hi); (try clear ho0)) | ((with_reducible refine gate_callee (f := 23) rfl ?_); refine goesL_ (some 41) rfl rfl Try.func23 (by kernel_rfl) rfl #[.slice Ao46 t260.length co46, .int .i64 3] rfl mp_ ?_; (with_reducible refine (sleep_Find.calls k (fun k_ => (k_ ≠ gb248 ∧ k_ ≠ gb255)) _ _ t260 3 t268 t269 t270 t271 t274 t277 _ ?side1 A4.out).mono ?_); (case side1 => exact HO262.out); rintro e w48 ⟨v272, v275, rfl, ho0, ho1, hb⟩; refine ⟨_, rfl, ?_⟩; replace HO247 := rb_ HO247 hb; replace HO251 := rb_ HO251 hb; replace HO254 := rb_ HO254 hb; replace HO258 := vb_ HO258 hb; replace HO262 := vb_ HO262 hb; replace HO266 := vb_ HO266 hb; replace HO273 := Aside0.mk (Kd.V_lower (Kd.V_mono (ok' := fun k_ => k_ ≠ gb248 ∧ k_ ≠ gb255) ho0 (fun k_ hk_ => ⟨Or.elim hk_ (fun hs_ => hs_.1) (fun hn_ => (Kd.freshB (g := gb248) (o := .cells #[.int .i64 3, .int .i64 2, .int .i64 0, .slice Ao27 y245.length co27, .slice none 0 0] 26 (0, 0)) (bq_ BK248) k_ hn_)), Or.elim hk_ (fun hs_ => hs_.2) (fun hn_ => (Kd.freshB (g := gb255) (o := .cells #[.int .i64 1, .int .i64 3, .int .i64 0, .slice Ao35 y249.length co35, .slice Ao34 y252.length co34] 26 (0, 0)) (bq_ BK255) k_ hn_))⟩)) (below_size (by repeat (first | (with_reducible first | exact HB.out | apply below_alloc | apply pw_below_drewN | apply below_drew1 | refine below_set ?_ GE248.out | refine below_set ?_ GE255.out) | exact HB.out)))); replace HO276 := Aside0.mk (Kd.V_lower (Kd.V_mono (ok' := fun k_ => k_ ≠ gb248 ∧ k_ ≠ gb255) ho1 (fun k_ hk_ => ⟨Or.elim hk_ (fun hs_ => hs_.1) (fun hn_ => (Kd.freshB (g := gb248) (o := .cells #[.int .i64 3, .int .i64 2, .int .i64 0, .slice Ao27 y245.length co27, .slice none 0 0] 26 (0, 0)) (bq_ BK248) k_ hn_)), Or.elim hk_ (fun hs_ => hs_.2) (fun hn_ => (Kd.freshB (g := gb255) (o := .cells #[.int .i64 1, .int .i64 3, .int .i64 0, .slice Ao35 y249.length co35, .slice Ao34 y252.length co34] 26 (0, 0)) (bq_ BK255) k_ hn_))⟩)) (below_size (by repeat (first | (with_reducible first | exact HB.out | apply below_alloc | apply pw_below_drewN | apply below_drew1 | refine below_set ?_ GE248.out | refine below_set ?_ GE255.out) | exact HB.out)))); replace BK248 := bb_ BK248 hb; replace BK255 := bb_ BK255 hb; replace HB := Aside0.mk (below_step (by repeat (first | (with_reducible first | exact HB.out | apply below_alloc | apply pw_below_drewN | apply below_drew1 | refine below_set ?_ GE248.out | refine below_set ?_ GE255.out) | exact HB.out)) hb); (try clear hb); (try clear hb2); (try clear hk); (try clear hi); (try clear ho0); (try clear ho1)) | ((with_reducible refine gate_dst (N := 8) rfl ?_); (try (refine gate_guard (by rfl) ?_; dsimp only)); refine box_event ?hg (N := 8) ?hd (cs := #[.int .i64 0, .int .i64 0, .int .i64 0, .slice none 0 0, .slice none 0 0]) (t := 26) ?hr ?_; (case hd => rfl); (case hg => rfl); (case hr => first | (go_simp; done) | (go_simp; rfl)); intro gb278 hg w49 hbox hb; replace HO247 := rb_ HO247 hb; replace HO251 := rb_ HO251 hb; replace HO254 := rb_ HO254 hb; replace HO258 := Aside0.mk (Kd.V_below (Kd.V_elderB (vq_ HO258) gb278 (Nat.le_of_eq hg.symm)) hb); replace HO262 := Aside0.mk (Kd.V_below (Kd.V_elderB (vq_ HO262) gb278 (Nat.le_of_eq hg.symm)) hb); replace HO266 := Aside0.mk (Kd.V_below (Kd.V_elderB (vq_ HO266) gb278 (Nat.le_of_eq hg.symm)) hb); replace HO273 := Aside0.mk (Kd.V_below (Kd.V_elderB (vq_ HO273) gb278 (Nat.le_of_eq hg.symm)) hb); replace HO276 := Aside0.mk (Kd.V_below (Kd.V_elderB (vq_ HO276) gb278 (Nat.le_of_eq hg.symm)) hb); replace BK278 := Aside0.mk (hbox); replace GW278 := Aside0.mk ((by rw [hg]; exact (below_size (by repeat (first | (with_reducible first | exact HB.out | apply below_alloc | apply pw_below_drewN | apply below_drew1 | refine below_set ?_ GE248.out | refine below_set ?_ GE255.out) | exact HB.out))) : w.heap.size ≤ gb278)); replace HB := Aside0.mk (below_step (by repeat (first | (with_reducible first | exact HB.out | apply below_alloc | apply pw_below_drewN | apply below_drew1 | refine below_set ?_ GE248.out | refine below_set ?_ GE255.out) | exact HB.out)) hb); replace GE278 := GW278; replace NB248_278 := Aside0.mk ((by rw [hg]; exact Nat.ne_of_lt (blk_lt (g := gb248) (o := .cells #[.int .i64 3, .int .i64 2, .int .i64 0, .slice Ao27 y245.length co27, .slice none 0 0] 26 (0, 0)) (bq_ BK248)) : gb248 ≠ gb278)); replace NB278_248 := Aside0.mk ((by rw [hg]; exact Nat.ne_of_gt (blk_lt (g := gb248) (o := .cells #[.int .i64 3, .int .i64 2, .int .i64 0, .slice Ao27 y245.length co27, .slice none 0 0] 26 (0, 0)) (bq_ BK248)) : gb278 ≠ gb248)); replace BK248 := bb_ BK248 hb; replace NB255_278 := Aside0.mk ((by rw [hg]; exact Nat.ne_of_lt (blk_lt (g := gb255) (o := .cells #[.int .i64 1, .int .i64 3, .int .i64 0, .slice Ao35 y249.length co35, .slice Ao34 y252.length co34] 26 (0, 0)) (bq_ BK255)) : gb255 ≠ gb278)); replace NB278_255 := Aside0.mk ((by rw [hg]; exact Nat.ne_of_gt (blk_lt (g := gb255) (o := .cells #[.int .i64 1, .int .i64 3, .int .i64 0, .slice Ao35 y249.length co35, .slice Ao34 y252.length co34] 26 (0, 0)) (bq_ BK255)) : gb278 ≠ gb255)); replace BK255 := bb_ BK255 hb; clear hb hbox hg; have hnb50 := NB278_248.out; have hnc50 := NB248_278.out; have hnb51 := NB278_255.out; have hnc51 := NB255_278.out; have hcz52_0 : w49.cell? ⟨gb278, 0, none⟩ = some (.int .i64 0) := (blk_cell BK278.out 0).trans rfl; have hcz52_1 : w49.cell? ⟨gb278, 1, none⟩ = some (.int .i64 0) := (blk_cell BK278.out 1).trans rfl; have hcz52_2 : w49.cell? ⟨gb278, 2, none⟩ = some (.int .i64 0) := (blk_cell BK278.out 2).trans rfl; have hcz52_3 : w49.cell? ⟨gb278, 3, none⟩ = some (.slice none 0 0) := (blk_cell BK278.out 3).trans rfl; have hcz52_4 : w49.cell? ⟨gb278, 4, none⟩ = some (.slice none 0 0) := (blk_cell BK278.out 4).trans rfl; have hfz52_0 := blk_frozen BK278.out 0; have hfz52_1 := blk_frozen BK278.out 1; have hfz52_2 := blk_frozen BK278.out 2; have hfz52_3 := blk_frozen BK278.out 3; have hfz52_4 := blk_frozen BK278.out 4; obtain ⟨Ao53, co53, eo53⟩ := Kd.V_slice HO273.out; subst eo53; obtain ⟨Ao54, co54, eo54⟩ := Kd.V_slice HO276.out; subst eo54) | ((with_reducible refine gate_dst (N := 46) rfl ?_); (try (refine gate_guard (by rfl) ?_; dsimp only)); refine Kd.R_lit (Kd.int .i64) _ 3 ?hg (N := 46) ?hd (xs := ([3] : List Int)) (inner := [.int .i64 3]) (ok := fun _ => True) (okp := fun _ => True) ?hr ?hp (fun _ hk => hk) trivial (Below.refl _ _) (Nat.le_refl _) (by simp) ?_; (case hd => rfl); (case hg => rfl); (case hr => first | (go_simp; done) | (go_simp; rfl)); (case hp => exact (Reps.one (show Kd.M (Kd.int .i64) _ _ _ 3 [.int .i64 3] from rfl) (Reps.none _ _))); intro v280 w55 ho56 hb hg_ hnew_; clear hg_ hnew_; (first | rw [← Ny279.out] at ho56 | (simp only [Int.reduceToNat] at ho56; rw [← Ny279.out] at ho56)); replace HO247 := Aside0.mk (Kd.R_below (by (with_reducible repeat (first | apply Kd.R_alloc | apply Kd.R_drewN | apply Kd.R_drew)); exact (Kd.R_mono (Kd.R_far (p := ⟨gb278, 4, none⟩) (Kd.R_far (p := ⟨gb278, 3, none⟩) (Kd.R_far (p := ⟨gb278, 2, none⟩) (Kd.R_far (p := ⟨gb278, 1, none⟩) (Kd.R_far (p := ⟨gb278, 0, none⟩) (Kd.R_types HO247.out BK278.out (by decide)) (fun _ hk => hk.2) (.int .i64 t268)) (fun _ hk => hk.2) (.int .i64 t269)) (fun _ hk => hk.2) (.int .i64 t270)) (fun _ hk => hk.2) (.slice Ao53 t271.length co53)) (fun _ hk => hk.2) (.slice Ao54 t274.length co54)) (fun _ h_ => h_.1))) hb); replace HO251 := Aside0.mk (Kd.R_below (by (with_reducible repeat (first | apply Kd.R_alloc | apply Kd.R_drewN | apply Kd.R_drew)); exact (Kd.R_mono (Kd.R_far (p := ⟨gb278, 4, none⟩) (Kd.R_far (p := ⟨gb278, 3, none⟩) (Kd.R_far (p := ⟨gb278, 2, none⟩) (Kd.R_far (p := ⟨gb278, 1, none⟩) (Kd.R_far (p := ⟨gb278, 0, none⟩) (Kd.R_types HO251.out BK278.out (by decide)) (fun _ hk => hk.2) (.int .i64 t268)) (fun _ hk => hk.2) (.int .i64 t269)) (fun _ hk => hk.2) (.int .i64 t270)) (fun _ hk => hk.2) (.slice Ao53 t271.length co53)) (fun _ hk => hk.2) (.slice Ao54 t274.length co54)) (fun _ h_ => h_.1))) hb); replace HO254 := Aside0.mk (Kd.R_below (by (with_reducible repeat (first | apply Kd.R_alloc | apply Kd.R_drewN | apply Kd.R_drew)); exact (Kd.R_mono (Kd.R_far (p := ⟨gb278, 4, none⟩) (Kd.R_far (p := ⟨gb278, 3, none⟩) (Kd.R_far (p := ⟨gb278, 2, none⟩) (Kd.R_far (p := ⟨gb278, 1, none⟩) (Kd.R_far (p := ⟨gb278, 0, none⟩) (Kd.R_types HO254.out BK278.out (by decide)) (fun _ hk => hk.2) (.int .i64 t268)) (fun _ hk => hk.2) (.int .i64 t269)) (fun _ hk => hk.2) (.int .i64 t270)) (fun _ hk => hk.2) (.slice Ao53 t271.length co53)) (fun _ hk => hk.2) (.slice Ao54 t274.length co54)) (fun _ h_ => h_.1))) hb); replace HO258 := Aside0.mk (Kd.V_elder' (by (with_reducible repeat (first | apply Kd.V_alloc | apply Kd.V_drewN | apply Kd.V_drew)); exact (Kd.V_mono (Kd.V_far (p := ⟨gb278, 4, none⟩) (Kd.V_far (p := ⟨gb278, 3, none⟩) (Kd.V_far (p := ⟨gb278, 2, none⟩) (Kd.V_far (p := ⟨gb278, 1, none⟩) (Kd.V_far (p := ⟨gb278, 0, none⟩) (Kd.V_mono HO258.out (fun k_ hk => (⟨hk, hk.2⟩ : _ ∧ k_ ≠ gb278))) (fun _ hk => hk.2) (.int .i64 t268)) (fun _ hk => hk.2) (.int .i64 t269)) (fun _ hk => hk.2) (.int .i64 t270)) (fun _ hk => hk.2) (.slice Ao53 t271.length co53)) (fun _ hk => hk.2) (.slice Ao54 t274.length co54)) (fun _ h_ => h_.1))) (Kd.R_base ho56) hb); replace HO262 := Aside0.mk (Kd.V_elder' (by (with_reducible repeat (first | apply Kd.V_alloc | apply Kd.V_drewN | apply Kd.V_drew)); exact (Kd.V_mono (Kd.V_far (p := ⟨gb278, 4, none⟩) (Kd.V_far (p := ⟨gb278, 3, none⟩) (Kd.V_far (p := ⟨gb278, 2, none⟩) (Kd.V_far (p := ⟨gb278, 1, none⟩) (Kd.V_far (p := ⟨gb278, 0, none⟩) (Kd.V_mono HO262.out (fun k_ hk => (⟨hk, hk.2⟩ : _ ∧ k_ ≠ gb278))) (fun _ hk => hk.2) (.int .i64 t268)) (fun _ hk => hk.2) (.int .i64 t269)) (fun _ hk => hk.2) (.int .i64 t270)) (fun _ hk => hk.2) (.slice Ao53 t271.length co53)) (fun _ hk => hk.2) (.slice Ao54 t274.length co54)) (fun _ h_ => h_.1))) (Kd.R_base ho56) hb); replace HO266 := Aside0.mk (Kd.V_elder' (by (with_reducible repeat (first | apply Kd.V_alloc | apply Kd.V_drewN | apply Kd.V_drew)); exact (Kd.V_mono (Kd.V_far (p := ⟨gb278, 4, none⟩) (Kd.V_far (p := ⟨gb278, 3, none⟩) (Kd.V_far (p := ⟨gb278, 2, none⟩) (Kd.V_far (p := ⟨gb278, 1, none⟩) (Kd.V_far (p := ⟨gb278, 0, none⟩) (Kd.V_mono HO266.out (fun k_ hk => (⟨hk, hk.2⟩ : _ ∧ k_ ≠ gb278))) (fun _ hk => hk.2) (.int .i64 t268)) (fun _ hk => hk.2) (.int .i64 t269)) (fun _ hk => hk.2) (.int .i64 t270)) (fun _ hk => hk.2) (.slice Ao53 t271.length co53)) (fun _ hk => hk.2) (.slice Ao54 t274.length co54)) (fun _ h_ => h_.1))) (Kd.R_base ho56) hb); replace HO273 := Aside0.mk (Kd.V_elder' (by (with_reducible repeat (first | apply Kd.V_alloc | apply Kd.V_drewN | apply Kd.V_drew)); exact (Kd.V_mono (Kd.V_far (p := ⟨gb278, 4, none⟩) (Kd.V_far (p := ⟨gb278, 3, none⟩) (Kd.V_far (p := ⟨gb278, 2, none⟩) (Kd.V_far (p := ⟨gb278, 1, none⟩) (Kd.V_far (p := ⟨gb278, 0, none⟩) (Kd.V_mono HO273.out (fun k_ hk => (⟨hk, hk.2⟩ : _ ∧ k_ ≠ gb278))) (fun _ hk => hk.2) (.int .i64 t268)) (fun _ hk => hk.2) (.int .i64 t269)) (fun _ hk => hk.2) (.int .i64 t270)) (fun _ hk => hk.2) (.slice Ao53 t271.length co53)) (fun _ hk => hk.2) (.slice Ao54 t274.length co54)) (fun _ h_ => h_.1))) (Kd.R_base ho56) hb); replace HO276 := Aside0.mk (Kd.V_elder' (by (with_reducible repeat (first | apply Kd.V_alloc | apply Kd.V_drewN | apply Kd.V_drew)); exact (Kd.V_mono (Kd.V_far (p := ⟨gb278, 4, none⟩) (Kd.V_far (p := ⟨gb278, 3, none⟩) (Kd.V_far (p := ⟨gb278, 2, none⟩) (Kd.V_far (p := ⟨gb278, 1, none⟩) (Kd.V_far (p := ⟨gb278, 0, none⟩) (Kd.V_mono HO276.out (fun k_ hk => (⟨hk, hk.2⟩ : _ ∧ k_ ≠ gb278))) (fun _ hk => hk.2) (.int .i64 t268)) (fun _ hk => hk.2) (.int .i64 t269)) (fun _ hk => hk.2) (.int .i64 t270)) (fun _ hk => hk.2) (.slice Ao53 t271.length co53)) (fun _ hk => hk.2) (.slice Ao54 t274.length co54)) (fun _ h_ => h_.1))) (Kd.R_base ho56) hb); replace HO281 := Aside0.mk (Kd.R_lower ho56 (below_size (by repeat (first | (with_reducible first | exact HB.out | apply below_alloc | apply pw_below_drewN | apply below_drew1 | refine below_set ?_ GE248.out | refine below_set ?_ GE255.out | refine below_set ?_ GE278.out) | exact HB.out)))); replace BK248 := Aside0.mk (blk_below (g := gb248) (o := .cells #[.int .i64 3, .int .i64 2, .int .i64 0, .slice Ao27 y245.length co27, .slice none 0 0] 26 (0, 0)) (by (with_reducible repeat (first | refine blk_drewN ?_ _ | refine blk_drew ?_ | refine blk_alloc ?_ _)); refine blk_far ?_ NB248_278.out _; (with_reducible repeat (first | refine blk_drewN ?_ _ | refine blk_drew ?_ | refine blk_alloc ?_ _)); refine blk_far ?_ NB248_278.out _; (with_reducible repeat (first | refine blk_drewN ?_ _ | refine blk_drew ?_ | refine blk_alloc ?_ _)); refine blk_far ?_ NB248_278.out _; (with_reducible repeat (first | refine blk_drewN ?_ _ | refine blk_drew ?_ | refine blk_alloc ?_ _)); refine blk_far ?_ NB248_278.out _; (with_reducible repeat (first | refine blk_drewN ?_ _ | refine blk_drew ?_ | refine blk_alloc ?_ _)); refine blk_far ?_ NB248_278.out _; (with_reducible repeat (first | refine blk_drewN ?_ _ | refine blk_drew ?_ | refine blk_alloc ?_ _)); exact BK248.out) hb); replace BK255 := Aside0.mk (blk_below (g := gb255) (o := .cells #[.int .i64 1, .int .i64 3, .int .i64 0, .slice Ao35 y249.length co35, .slice Ao34 y252.length co34] 26 (0, 0)) (by (with_reducible repeat (first | refine blk_drewN ?_ _ | refine blk_drew ?_ | refine blk_alloc ?_ _)); refine blk_far ?_ NB255_278.out _; (with_reducible repeat (first | refine blk_drewN ?_ _ | refine blk_drew ?_ | refine blk_alloc ?_ _)); refine blk_far ?_ NB255_278.out _; (with_reducible repeat (first | refine blk_drewN ?_ _ | refine blk_drew ?_ | refine blk_alloc ?_ _)); refine blk_far ?_ NB255_278.out _; (with_reducible repeat (first | refine blk_drewN ?_ _ | refine blk_drew ?_ | refine blk_alloc ?_ _)); refine blk_far ?_ NB255_278.out _; (with_reducible repeat (first | refine blk_drewN ?_ _ | refine blk_drew ?_ | refine blk_alloc ?_ _)); refine blk_far ?_ NB255_278.out _; (with_reducible repeat (first | refine blk_drewN ?_ _ | refine blk_drew ?_ | refine blk_alloc ?_ _)); exact BK255.out) hb); replace BK278 := Aside0.mk (blk_below (g := gb278) (o := .cells #[.int .i64 t268, .int .i64 t269, .int .i64 t270, .slice Ao53 t271.length co53, .slice Ao54 t274.length co54] 26 (0, 0)) (by (with_reducible repeat (first | refine blk_drewN ?_ _ | refine blk_drew ?_ | refine blk_alloc ?_ _)); refine blk_put (cs := #[.int .i64 t268, .int .i64 t269, .int .i64 t270, .slice Ao53 t271.length co53, .slice none 0 0]) ?_ 4 _ rfl; (with_reducible repeat (first | refine blk_drewN ?_ _ | refine blk_drew ?_ | refine blk_alloc ?_ _)); refine blk_put (cs := #[.int .i64 t268, .int .i64 t269, .int .i64 t270, .slice none 0 0, .slice none 0 0]) ?_ 3 _ rfl; (with_reducible repeat (first | refine blk_drewN ?_ _ | refine blk_drew ?_ | refine blk_alloc ?_ _)); refine blk_put (cs := #[.int .i64 t268, .int .i64 t269, .int .i64 0, .slice none 0 0, .slice none 0 0]) ?_ 2 _ rfl; (with_reducible repeat (first | refine blk_drewN ?_ _ | refine blk_drew ?_ | refine blk_alloc ?_ _)); refine blk_put (cs := #[.int .i64 t268, .int .i64 0, .int .i64 0, .slice none 0 0, .slice none 0 0]) ?_ 1 _ rfl; (with_reducible repeat (first | refine blk_drewN ?_ _ | refine blk_drew ?_ | refine blk_alloc ?_ _)); refine blk_put (cs := #[.int .i64 0, .int .i64 0, .int .i64 0, .slice none 0 0, .slice none 0 0]) ?_ 0 _ rfl; (with_reducible repeat (first | refine blk_drewN ?_ _ | refine blk_drew ?_ | refine blk_alloc ?_ _)); exact BK278.out) hb); replace HB := Aside0.mk (below_step (by repeat (first | (with_reducible first | exact HB.out | apply below_alloc | apply pw_below_drewN | apply below_drew1 | refine below_set ?_ GE248.out | refine below_set ?_ GE255.out | refine below_set ?_ GE278.out) | exact HB.out)) hb); clear hb ho56; obtain ⟨Ao57, co57, eo57⟩ := Kd.R_slice HO281.out; subst eo57) | ((with_reducible refine gate_callee (f := 20) rfl ?_); refine goesL_ (some 47) rfl rfl Try.func20 (by kernel_rfl) rfl #[.slice Ao46 t260.length co46, .slice Ao57 y279.length co57] rfl mp_ ?_; (with_reducible refine (sleep_Drop.calls k (fun k_ => (((k_ ≠ gb248 ∧ k_ ≠ gb255) ∧ k_ ≠ gb278) ∧ some k_ ≠ (.slice Ao57 y279.length co57 : Value).ownBlock)) _ _ t260 _ _ y279 t282 t285 _ ?side1 ?side2 ?side3 A5.out).mono ?_); (case side1 => exact HO262.out); (case side2 => repeat (first | exact (Kd.R_reads' HO281.out).2.2 | with_reducible first | refine Kd.C_alloc ?_ _ | refine Kd.C_drewN ?_ _ | refine Kd.C_drew ?_)); (case side3 => exact (Kd.R_reads' HO281.out).2.1); rintro e w58 ⟨v283, rfl, ho0, hb⟩; refine ⟨_, rfl, ?_⟩; replace HO247 := rb_ HO247 hb; replace HO251 := rb_ HO251 hb; replace HO254 := rb_ HO254 hb; replace HO258 := vb_ HO258 hb; replace HO262 := vb_ HO262 hb; replace HO266 := vb_ HO266 hb; replace HO273 := vb_ HO273 hb; replace HO276 := vb_ HO276 hb; replace HO284 := Aside0.mk (Kd.V_lower (Kd.V_mono (ok' := fun k_ => some k_ ≠ (.slice Ao57 y279.length co57 : Value).ownBlock ∧ k_ ≠ gb248 ∧ k_ ≠ gb255 ∧ k_ ≠ gb278) ho0 (fun k_ hk_ => ⟨Or.elim hk_ (fun hs_ => hs_.2) (fun hn_ => (Kd.fresh' (Kd.R_lt (rq_ HO281)) k_ hn_)), Or.elim hk_ (fun hs_ => hs_.1.1.1) (fun hn_ => (Kd.freshB (g := gb248) (o := .cells #[.int .i64 3, .int .i64 2, .int .i64 0, .slice Ao27 y245.length co27, .slice none 0 0] 26 (0, 0)) (bq_ BK248) k_ hn_)), Or.elim hk_ (fun hs_ => hs_.1.1.2) (fun hn_ => (Kd.freshB (g := gb255) (o := .cells #[.int .i64 1, .int .i64 3, .int .i64 0, .slice Ao35 y249.length co35, .slice Ao34 y252.length co34] 26 (0, 0)) (bq_ BK255) k_ hn_)), Or.elim hk_ (fun hs_ => hs_.1.2) (fun hn_ => (Kd.freshB (g := gb278) (o := .cells #[.int .i64 t268, .int .i64 t269, .int .i64 t270, .slice Ao53 t271.length co53, .slice Ao54 t274.length co54] 26 (0, 0)) (bq_ BK278) k_ hn_))⟩)) (below_size (by repeat (first | (with_reducible first | exact HB.out | apply below_alloc | apply pw_below_drewN | apply below_drew1 | refine below_set ?_ GE248.out | refine below_set ?_ GE255.out | refine below_set ?_ GE278.out) | exact HB.out)))); replace HO281 := rb_ HO281 hb; replace BK248 := bb_ BK248 hb; replace BK255 := bb_ BK255 hb; replace BK278 := bb_ BK278 hb; replace HB := Aside0.mk (below_step (by repeat (first | (with_reducible first | exact HB.out | apply below_alloc | apply pw_below_drewN | apply below_drew1 | refine below_set ?_ GE248.out | refine below_set ?_ GE255.out | refine below_set ?_ GE278.out) | exact HB.out)) hb); (try clear hb); (try clear hb2); (try clear hk); (try clear hi); (try clear ho0)) | ((with_reducible refine gate_dst (N := 52) rfl ?_); (try (refine gate_guard (by rfl) ?_; dsimp only)); refine Kd.R_lit (Kd.int .i64) _ 3 ?hg (N := 52) ?hd (xs := ([2] : List Int)) (inner := [.int .i64 2]) (ok := fun _ => True) (okp := fun _ => True) ?hr ?hp (fun _ hk => hk) trivial (Below.refl _ _) (Nat.le_refl _) (by simp) ?_; (case hd => rfl); (case hg => rfl); (case hr => first | (go_simp; done) | (go_simp; rfl)); (case hp => exact (Reps.one (show Kd.M (Kd.int .i64) _ _ _ 2 [.int .i64 2] from rfl) (Reps.none _ _))); intro v287 w59 ho60 hb hg_ hnew_; clear hg_ hnew_; (first | rw [← Ny286.out] at ho60 | (simp only [Int.reduceToNat] at ho60; rw [← Ny286.out] at ho60)); replace HO247 := rb_ HO247 hb; replace HO251 := rb_ HO251 hb; replace HO254 := rb_ HO254 hb; replace HO258 := Aside0.mk (Kd.V_elder' (vq_ HO258) (Kd.R_base ho60) hb); replace HO262 := Aside0.mk (Kd.V_elder' (vq_ HO262) (Kd.R_base ho60) hb); replace HO266 := Aside0.mk (Kd.V_elder' (vq_ HO266) (Kd.R_base ho60) hb); replace HO273 := Aside0.mk (Kd.V_elder' (vq_ HO273) (Kd.R_base ho60) hb); replace HO276 := Aside0.mk (Kd.V_elder' (vq_ HO276) (Kd.R_base ho60) hb); replace HO284 := Aside0.mk (Kd.V_elder' (vq_ HO284) (Kd.R_base ho60) hb); replace HO288 := Aside0.mk (Kd.R_lower (Kd.R_new' ho60 (Kd.R_lt (rq_ HO281))) (below_size (by repeat (first | (with_reducible first | exact HB.out | apply below_alloc | apply pw_below_drewN | apply below_drew1 | refine below_set ?_ GE248.out | refine below_set ?_ GE255.out | refine below_set ?_ GE278.out) | exact HB.out)))); replace HO281 := Aside0.mk (Kd.R_elder' (rq_ HO281) (Kd.R_base ho60) hb); replace BK248 := bb_ BK248 hb; replace BK255 := bb_ BK255 hb; replace BK278 := bb_ BK278 hb; replace HB := Aside0.mk (below_step (by repeat (first | (with_reducible first | exact HB.out | apply below_alloc | apply pw_below_drewN | apply below_drew1 | refine below_set ?_ GE248.out | refine below_set ?_ GE255.out | refine below_set ?_ GE278.out) | exact HB.out)) hb); clear hb ho60; obtain ⟨Ao61, co61, eo61⟩ := Kd.R_slice HO288.out; subst eo61) | ((with_reducible refine gate_callee (f := 20) rfl ?_); refine goesL_ (some 53) rfl rfl Try.func20 (by kernel_rfl) rfl #[.slice Ao46 t260.length co46, .slice Ao61 y286.length co61] rfl mp_ ?_; (with_reducible refine (sleep_Drop.calls k (fun k_ => ((((k_ ≠ gb248 ∧ k_ ≠ gb255) ∧ k_ ≠ gb278) ∧ some k_ ≠ (.slice Ao57 y279.length co57 : Value).ownBlock) ∧ some k_ ≠ (.slice Ao61 y286.length co61 : Value).ownBlock)) _ _ t260 _ _ y286 t289 t292 _ ?side1 ?side2 ?side3 A6.out).mono ?_); (case side1 => exact HO262.out); (case side2 => repeat (first | exact (Kd.R_reads' HO288.out).2.2 | with_reducible first | refine Kd.C_alloc ?_ _ | refine Kd.C_drewN ?_ _ | refine Kd.C_drew ?_)); (case side3 => exact (Kd.R_reads' HO288.out).2.1); rintro e w62 ⟨v290, rfl, ho0, hb⟩; refine ⟨_, rfl, ?_⟩; replace HO247 := rb_ HO247 hb; replace HO251 := rb_ HO251 hb; replace HO254 := rb_ HO254 hb; replace HO258 := vb_ HO258 hb; replace HO262 := vb_ HO262 hb; replace HO266 := vb_ HO266 hb; replace HO273 := vb_ HO273 hb; replace HO276 := vb_ HO276 hb; replace HO284 := vb_ HO284 hb; replace HO291 := Aside0.mk (Kd.V_lower (Kd.V_mono (ok' := fun k_ => some k_ ≠ (.slice Ao57 y279.length co57 : Value).ownBlock ∧ some k_ ≠ (.slice Ao61 y286.length co61 : Value).ownBlock ∧ k_ ≠ gb248 ∧ k_ ≠ gb255 ∧ k_ ≠ gb278) ho0 (fun k_ hk_ => ⟨Or.elim hk_ (fun hs_ => hs_.1.2) (fun hn_ => (Kd.fresh' (Kd.R_lt (rq_ HO281)) k_ hn_)), Or.elim hk_ (fun hs_ => hs_.2) (fun hn_ => (Kd.fresh' (Kd.R_lt (rq_ HO288)) k_ hn_)), Or.elim hk_ (fun hs_ => hs_.1.1.1.1) (fun hn_ => (Kd.freshB (g := gb248) (o := .cells #[.int .i64 3, .int .i64 2, .int .i64 0, .slice Ao27 y245.length co27, .slice none 0 0] 26 (0, 0)) (bq_ BK248) k_ hn_)), Or.elim hk_ (fun hs_ => hs_.1.1.1.2) (fun hn_ => (Kd.freshB (g := gb255) (o := .cells #[.int .i64 1, .int .i64 3, .int .i64 0, .slice Ao35 y249.length co35, .slice Ao34 y252.length co34] 26 (0, 0)) (bq_ BK255) k_ hn_)), Or.elim hk_ (fun hs_ => hs_.1.1.2) (fun hn_ => (Kd.freshB (g := gb278) (o := .cells #[.int .i64 t268, .int .i64 t269, .int .i64 t270, .slice Ao53 t271.length co53, .slice Ao54 t274.length co54] 26 (0, 0)) (bq_ BK278) k_ hn_))⟩)) (below_size (by repeat (first | (with_reducible first | exact HB.out | apply below_alloc | apply pw_below_drewN | apply below_drew1 | refine below_set ?_ GE248.out | refine below_set ?_ GE255.out | refine below_set ?_ GE278.out) | exact HB.out)))); replace HO281 := rb_ HO281 hb; replace HO288 := rb_ HO288 hb; replace BK248 := bb_ BK248 hb; replace BK255 := bb_ BK255 hb; replace BK278 := bb_ BK278 hb; replace HB := Aside0.mk (below_step (by repeat (first | (with_reducible first | exact HB.out | apply below_alloc | apply pw_below_drewN | apply below_drew1 | refine below_set ?_ GE248.out | refine below_set ?_ GE255.out | refine below_set ?_ GE278.out) | exact HB.out)) hb); (try clear hb); (try clear hb2); (try clear hk); (try clear hi); (try clear ho0); have p293 : 0 ≤ (0 : Int) := (by omega); have q293 : 0 < (t260.length : Int) := oda_; obtain ⟨ad293, A293_3, c293_3, A293_4, c293_4, e293, hx293_0, hx293_1, hx293_2, hx293_3, hx293_4, hl293_3, hi293_3, hl293_4, hi293_4⟩ := at_T26 (Kd.V_reads' HO262.out).2.2 0 p293 q293; cases e293; obtain ⟨ce293, hce293, hMe293, hcc293⟩ := Kd.V_get HO262.out z26 0 p293 (by first | exact q293 | exact oda_ | (have e_ := (Kd.V_reads' HO262.out).1; omega)); obtain ⟨ua293_3, uc293_3, ua293_4, uc293_4, rfl, ul293_3, ge293_3, ul293_4, ge293_4⟩ := k26_openF hMe293; have hv293_3 := hcc293 3 _ rfl; rw [add_field _ _ 3 (by omega)] at hv293_3; replace hv293_3 := Option.some.inj (hv293_3.symm.trans hx293_3); injection hv293_3 with hva_ hvn_ hvc_; rw [hva_] at ge293_3; rw [hvc_] at ul293_3; have HL293_3 := Aside0.mk (show Kd.V k62 62 _ w.heap.size _ _ ((rd_T26 t260 0).f3) from Kd.V_mk ul293_3 ge293_3); clear hva_ hvn_ hvc_ ge293_3 ul293_3; have hv293_4 := hcc293 4 _ rfl; rw [add_field _ _ 4 (by omega)] at hv293_4; replace hv293_4 := Option.some.inj (hv293_4.symm.trans hx293_4); injection hv293_4 with hva_ hvn_ hvc_; rw [hva_] at ge293_4; rw [hvc_] at ul293_4; have HL293_4 := Aside0.mk (show Kd.V k80 80 _ w.heap.size _ _ ((rd_T26 t260 0).f4) from Kd.V_mk ul293_4 ge293_4); clear hva_ hvn_ hvc_ ge293_4 ul293_4; clear hcc293 hce293; have qi293 : (0 < t260.length) = True := eq_true (by omega); (try rw [show ((0 : Int)).toNat = 0 from rfl] at hx293_0); (try rw [show 0 * 5 = 0 from rfl] at hx293_0); (try rw [Addr.add_zero'] at hx293_0); (try rw [show ((0 : Int)).toNat = 0 from rfl] at hx293_1); (try rw [show 0 * 5 = 0 from rfl] at hx293_1); (try rw [Addr.add_zero'] at hx293_1); (try rw [show ((0 : Int)).toNat = 0 from rfl] at hx293_2); (try rw [show 0 * 5 = 0 from rfl] at hx293_2); (try rw [Addr.add_zero'] at hx293_2); (try rw [show ((0 : Int)).toNat = 0 from rfl] at hx293_3); (try rw [show 0 * 5 = 0 from rfl] at hx293_3); (try rw [Addr.add_zero'] at hx293_3); (try rw [show ((0 : Int)).toNat = 0 from rfl] at hx293_4); (try rw [show 0 * 5 = 0 from rfl] at hx293_4); (try rw [Addr.add_zero'] at hx293_4); have HR293_3 := Aside0.mk hi293_3; have HC293_3 := Aside0.mk hl293_3; clear hi293_3 hl293_3; have HR293_4 := Aside0.mk hi293_4; have HC293_4 := Aside0.mk hl293_4; clear hi293_4 hl293_4; replace p293 := eq_true p293; replace q293 := eq_true q293; have hcz63_0 : w62.cell? ⟨gb278, 0, none⟩ = some (.int .i64 t268) := (blk_cell BK278.out 0).trans rfl; have hcz63_1 : w62.cell? ⟨gb278, 1, none⟩ = some (.int .i64 t269) := (blk_cell BK278.out 1).trans rfl; have hcz63_2 : w62.cell? ⟨gb278, 2, none⟩ = some (.int .i64 t270) := (blk_cell BK278.out 2).trans rfl; have hcz63_3 : w62.cell? ⟨gb278, 3, none⟩ = some (.slice Ao53 t271.length co53) := (blk_cell BK278.out 3).trans rfl; have hcz63_4 : w62.cell? ⟨gb278, 4, none⟩ = some (.slice Ao54 t274.length co54) := (blk_cell BK278.out 4).trans rfl; have hfz63_0 := blk_frozen BK278.out 0; have hfz63_1 := blk_frozen BK278.out 1; have hfz63_2 := blk_frozen BK278.out 2; have hfz63_3 := blk_frozen BK278.out 3; have hfz63_4 := blk_frozen BK278.out 4; obtain ⟨Ao64, co64, eo64⟩ := Kd.V_slice HO284.out; subst eo64) | ((with_reducible refine gate_dst (N := 103) rfl ?_); (try (refine gate_guard (by rfl) ?_; dsimp only)); refine Kd.R_lit (Kd.int .i64) _ 3 ?hg (N := 103) ?hd (xs := ([4, 2] : List Int)) (inner := [.int .i64 4, .int .i64 2]) (ok := fun _ => True) (okp := fun _ => True) ?hr ?hp (fun _ hk => hk) trivial (Below.refl _ _) (Nat.le_refl _) (by simp) ?_; (case hd => rfl); (case hg => rfl); (case hr => first | (go_simp; done) | (go_simp; rfl)); (case hp => exact (Reps.one (show Kd.M (Kd.int .i64) _ _ _ 4 [.int .i64 4] from rfl) (Reps.one (show Kd.M (Kd.int .i64) _ _ _ 2 [.int .i64 2] from rfl) (Reps.none _ _)))); intro v295 w65 ho66 hb hg_ hnew_; clear hg_ hnew_; (first | rw [← Ny294.out] at ho66 | (simp only [Int.reduceToNat] at ho66; rw [← Ny294.out] at ho66)); replace HO247 := rb_ HO247 hb; replace HO251 := rb_ HO251 hb; replace HO254 := rb_ HO254 hb; replace HO258 := Aside0.mk (Kd.V_elder' (vq_ HO258) (Kd.R_base ho66) hb); replace HO262 := Aside0.mk (Kd.V_elder' (vq_ HO262) (Kd.R_base ho66) hb); replace HO266 := Aside0.mk (Kd.V_elder' (vq_ HO266) (Kd.R_base ho66) hb); replace HO273 := Aside0.mk (Kd.V_elder' (vq_ HO273) (Kd.R_base ho66) hb); replace HO276 := Aside0.mk (Kd.V_elder' (vq_ HO276) (Kd.R_base ho66) hb); replace HO284 := Aside0.mk (Kd.V_elder' (vq_ HO284) (Kd.R_base ho66) hb); replace HO291 := Aside0.mk (Kd.V_elder' (vq_ HO291) (Kd.R_base ho66) hb); replace HL293_3 := Aside0.mk (Kd.V_elder' (vq_ HL293_3) (Kd.R_base ho66) hb); replace HL293_4 := Aside0.mk (Kd.V_elder' (vq_ HL293_4) (Kd.R_base ho66) hb); replace HO296 := Aside0.mk (Kd.R_lower (Kd.R_new' (Kd.R_new' ho66 (Kd.R_lt (rq_ HO281))) (Kd.R_lt (rq_ HO288))) (below_size (by repeat (first | (with_reducible first | exact HB.out | apply below_alloc | apply pw_below_drewN | apply below_drew1 | refine below_set ?_ GE248.out | refine below_set ?_ GE255.out | refine below_set ?_ GE278.out) | exact HB.out)))); replace HO281 := Aside0.mk (Kd.R_elder' (rq_ HO281) (Kd.R_base ho66) hb); replace HO288 := Aside0.mk (Kd.R_elder' (rq_ HO288) (Kd.R_base ho66) hb); replace BK248 := bb_ BK248 hb; replace BK255 := bb_ BK255 hb; replace BK278 := bb_ BK278 hb; replace HR293_3 := Aside0.mk (Kd.V_reads' HL293_3.out).2.2; replace HR293_4 := Aside0.mk (Kd.V_reads' HL293_4.out).2.2; replace HB := Aside0.mk (below_step (by repeat (first | (with_reducible first | exact HB.out | apply below_alloc | apply pw_below_drewN | apply below_drew1 | refine below_set ?_ GE248.out | refine below_set ?_ GE255.out | refine below_set ?_ GE278.out) | exact HB.out)) hb); clear hb ho66; obtain ⟨Ao67, co67, eo67⟩ := Kd.R_slice HO296.out; subst eo67) | (go_at_call 29; (with_reducible refine (sleep_Of.calls k _ _ t260 _ _ y294 t297 _ ?side1 ?side2 ?side3 ?side4 A18.out).mono ?_); (case side1 => repeat (first | exact (Kd.V_reads' HO262.out).2.2 | with_reducible first | refine Kd.C_alloc ?_ _ | refine Kd.C_drewN ?_ _ | refine Kd.C_drew ?_)); (case side2 => exact (Kd.V_reads' HO262.out).2.1); (case side3 => repeat (first | exact (Kd.R_reads' HO296.out).2.2 | with_reducible first | refine Kd.C_alloc ?_ _ | refine Kd.C_drewN ?_ _ | refine Kd.C_drew ?_)); (case side4 => exact (Kd.R_reads' HO296.out).2.1); rintro e w68 ⟨v298, rfl, ho0, hb⟩; replace HO247 := rb_ HO247 hb; replace HO251 := rb_ HO251 hb; replace HO254 := rb_ HO254 hb; replace HO258 := Aside0.mk (Kd.V_elder' (vq_ HO258) (Kd.R_base ho0) hb); replace HO262 := Aside0.mk (Kd.V_elder' (vq_ HO262) (Kd.R_base ho0) hb); replace HO266 := Aside0.mk (Kd.V_elder' (vq_ HO266) (Kd.R_base ho0) hb); replace HO273 := Aside0.mk (Kd.V_elder' (vq_ HO273) (Kd.R_base ho0) hb); replace HO276 := Aside0.mk (Kd.V_elder' (vq_ HO276) (Kd.R_base ho0) hb); replace HO284 := Aside0.mk (Kd.V_elder' (vq_ HO284) (Kd.R_base ho0) hb); replace HO291 := Aside0.mk (Kd.V_elder' (vq_ HO291) (Kd.R_base ho0) hb); replace HL293_3 := Aside0.mk (Kd.V_elder' (vq_ HL293_3) (Kd.R_base ho0) hb); replace HL293_4 := Aside0.mk (Kd.V_elder' (vq_ HL293_4) (Kd.R_base ho0) hb); replace HO299 := Aside0.mk (Kd.R_lower (Kd.R_new' (Kd.R_new' (Kd.R_new' ho0 (Kd.R_lt (rq_ HO281))) (Kd.R_lt (rq_ HO288))) (Kd.R_lt (rq_ HO296))) (below_size (by repeat (first | (with_reducible first | exact HB.out | apply below_alloc | apply pw_below_drewN | apply below_drew1 | refine below_set ?_ GE248.out | refine below_set ?_ GE255.out | refine below_set ?_ GE278.out) | exact HB.out)))); replace HO281 := Aside0.mk (Kd.R_elder' (rq_ HO281) (Kd.R_base ho0) hb); replace HO288 := Aside0.mk (Kd.R_elder' (rq_ HO288) (Kd.R_base ho0) hb); replace HO296 := Aside0.mk (Kd.R_elder' (rq_ HO296) (Kd.R_base ho0) hb); replace BK248 := bb_ BK248 hb; replace BK255 := bb_ BK255 hb; replace BK278 := bb_ BK278 hb; replace HR293_3 := Aside0.mk (Kd.V_reads' HL293_3.out).2.2; replace HR293_4 := Aside0.mk (Kd.V_reads' HL293_4.out).2.2; replace HB := Aside0.mk (below_step (by repeat (first | (with_reducible first | exact HB.out | apply below_alloc | apply pw_below_drewN | apply below_drew1 | refine below_set ?_ GE248.out | refine below_set ?_ GE255.out | refine below_set ?_ GE278.out) | exact HB.out)) hb); (try clear hb); (try clear hb2); (try clear hk); (try clear hi); (try clear ho0)) | ((with_reducible refine gate_dst (N := 105) rfl ?_); (try (refine gate_guard (by rfl) ?_; dsimp only)); refine Kd.R_lit (Kd.int .i64) _ 3 ?hg (N := 105) ?hd (xs := ([1, 3] : List Int)) (inner := [.int .i64 1, .int .i64 3]) (ok := fun _ => True) (okp := fun _ => True) ?hr ?hp (fun _ hk => hk) trivial (Below.refl _ _) (Nat.le_refl _) (by simp) ?_; (case hd => rfl); (case hg => rfl); (case hr => first | (go_simp; done) | (go_simp; rfl)); (case hp => exact (Reps.one (show Kd.M (Kd.int .i64) _ _ _ 1 [.int .i64 1] from rfl) (Reps.one (show Kd.M (Kd.int .i64) _ _ _ 3 [.int .i64 3] from rfl) (Reps.none _ _)))); intro v301 w69 ho70 hb hg_ hnew_; clear hg_ hnew_; (first | rw [← Ny300.out] at ho70 | (simp only [Int.reduceToNat] at ho70; rw [← Ny300.out] at ho70)); replace HO247 := rb_ HO247 hb; replace HO251 := rb_ HO251 hb; replace HO254 := rb_ HO254 hb; replace HO258 := Aside0.mk (Kd.V_elder' (vq_ HO258) (Kd.R_base ho70) hb); replace HO262 := Aside0.mk (Kd.V_elder' (vq_ HO262) (Kd.R_base ho70) hb); replace HO266 := Aside0.mk (Kd.V_elder' (vq_ HO266) (Kd.R_base ho70) hb); replace HO273 := Aside0.mk (Kd.V_elder' (vq_ HO273) (Kd.R_base ho70) hb); replace HO276 := Aside0.mk (Kd.V_elder' (vq_ HO276) (Kd.R_base ho70) hb); replace HO284 := Aside0.mk (Kd.V_elder' (vq_ HO284) (Kd.R_base ho70) hb); replace HO291 := Aside0.mk (Kd.V_elder' (vq_ HO291) (Kd.R_base ho70) hb); replace HL293_3 := Aside0.mk (Kd.V_elder' (vq_ HL293_3) (Kd.R_base ho70) hb); replace HL293_4 := Aside0.mk (Kd.V_elder' (vq_ HL293_4) (Kd.R_base ho70) hb); replace HO302 := Aside0.mk (Kd.R_lower (Kd.R_new' (Kd.R_new' (Kd.R_new' (Kd.R_new' ho70 (Kd.R_lt (rq_ HO281))) (Kd.R_lt (rq_ HO288))) (Kd.R_lt (rq_ HO296))) (Kd.R_lt (rq_ HO299))) (below_size (by repeat (first | (with_reducible first | exact HB.out | apply below_alloc | apply pw_below_drewN | apply below_drew1 | refine below_set ?_ GE248.out | refine below_set ?_ GE255.out | refine below_set ?_ GE278.out) | exact HB.out)))); replace HO281 := Aside0.mk (Kd.R_elder' (rq_ HO281) (Kd.R_base ho70) hb); replace HO288 := Aside0.mk (Kd.R_elder' (rq_ HO288) (Kd.R_base ho70) hb); replace HO296 := Aside0.mk (Kd.R_elder' (rq_ HO296) (Kd.R_base ho70) hb); replace HO299 := Aside0.mk (Kd.R_elder' (rq_ HO299) (Kd.R_base ho70) hb); replace BK248 := bb_ BK248 hb; replace BK255 := bb_ BK255 hb; replace BK278 := bb_ BK278 hb; replace HR293_3 := Aside0.mk (Kd.V_reads' HL293_3.out).2.2; replace HR293_4 := Aside0.mk (Kd.V_reads' HL293_4.out).2.2; replace HB := Aside0.mk (below_step (by repeat (first | (with_reducible first | exact HB.out | apply below_alloc | apply pw_below_drewN | apply below_drew1 | refine below_set ?_ GE248.out | refine below_set ?_ GE255.out | refine below_set ?_ GE278.out) | exact HB.out)) hb); clear hb ho70; obtain ⟨Ao71, co71, eo71⟩ := Kd.R_slice HO299.out; subst eo71; obtain ⟨Ao72, co72, eo72⟩ := Kd.R_slice HO302.out; subst eo72) | (go_at_call 28; (with_reducible refine (handshakerref03_Numbers.calls k _ _ t297 _ _ y300 true _ ?side1 ?side2 ?side3 ?side4 A19.out).mono ?_); (case side1 => repeat (first | exact (Kd.R_reads' HO299.out).2.2 | with_reducible first | refine Kd.C_alloc ?_ _ | refine Kd.C_drewN ?_ _ | refine Kd.C_drew ?_)); (case side2 => exact (Kd.R_reads' HO299.out).2.1); (case side3 => repeat (first | exact (Kd.R_reads' HO302.out).2.2 | with_reducible first | refine Kd.C_alloc ?_ _ | refine Kd.C_drewN ?_ _ | refine Kd.C_drew ?_)); (case side4 => exact (Kd.R_reads' HO302.out).2.1); rintro e w' ⟨rfl, ⟨nd, rfl⟩⟩) | ((with_reducible refine gate_dst (N := 110) rfl ?_); (try (refine gate_guard (by rfl) ?_; dsimp only)); refine Kd.R_lit k57 _ 57 ?hg (N := 110) ?hd (xs := ([(⟨9, 0, 1⟩ : S57)] : List (S57))) (inner := [.int .i64 9, .int .i64 0, .int .i64 1]) (ok := fun _ => True) (okp := fun _ => True) ?hr ?hp (fun _ hk => hk) trivial (Below.refl _ _) (Nat.le_refl _) (by simp) ?_; (case hd => rfl); (case hg => rfl); (case hr => first | (go_simp; done) | (go_simp; rfl)); (case hp => exact (Reps.c3 (show Kd.M k57 _ _ _ (⟨9, 0, 1⟩ : S57) [.int .i64 9, .int .i64 0, .int .i64 1] from (k57_mkM _ _ _ (⟨9, 0, 1⟩ : S57) )) (Reps.none _ _))); intro v305 w73 ho74 hb hg_ hnew_; clear hg_ hnew_; (first | rw [← Ny304.out] at ho74 | (simp only [Int.reduceToNat] at ho74; rw [← Ny304.out] at ho74)); replace HO247 := rb_ HO247 hb; replace HO251 := rb_ HO251 hb; replace HO254 := rb_ HO254 hb; replace HO258 := Aside0.mk (Kd.V_elder' (vq_ HO258) (Kd.R_base ho74) hb); replace HO262 := Aside0.mk (Kd.V_elder' (vq_ HO262) (Kd.R_base ho74) hb); replace HO266 := Aside0.mk (Kd.V_elder' (vq_ HO266) (Kd.R_base ho74) hb); replace HO273 := Aside0.mk (Kd.V_elder' (vq_ HO273) (Kd.R_base ho74) hb); replace HO276 := Aside0.mk (Kd.V_elder' (vq_ HO276) (Kd.R_base ho74) hb); replace HO281 := rb_ HO281 hb; replace HO284 := Aside0.mk (Kd.V_elder' (vq_ HO284) (Kd.R_base ho74) hb); replace HO288 := rb_ HO288 hb; replace HO291 := Aside0.mk (Kd.V_elder' (vq_ HO291) (Kd.R_base ho74) hb); replace HL293_3 := Aside0.mk (Kd.V_elder' (vq_ HL293_3) (Kd.R_base ho74) hb); replace HL293_4 := Aside0.mk (Kd.V_elder' (vq_ HL293_4) (Kd.R_base ho74) hb); replace HO296 := rb_ HO296 hb; replace HO299 := rb_ HO299 hb; replace HO302 := rb_ HO302 hb; replace HO306 := Aside0.mk (Kd.R_lower ho74 (below_size (by repeat (first | (with_reducible first | exact HB.out | apply below_alloc | apply pw_below_drewN | apply below_drew1 | refine below_set ?_ GE248.out | refine below_set ?_ GE255.out | refine below_set ?_ GE278.out) | exact HB.out)))); replace BK248 := bb_ BK248 hb; replace BK255 := bb_ BK255 hb; replace BK278 := bb_ BK278 hb; replace HR293_3 := Aside0.mk (Kd.V_reads' HL293_3.out).2.2; replace HR293_4 := Aside0.mk (Kd.V_reads' HL293_4.out).2.2; replace HB := Aside0.mk (below_step (by repeat (first | (with_reducible first | exact HB.out | apply below_alloc | apply pw_below_drewN | apply below_drew1 | refine below_set ?_ GE248.out | refine below_set ?_ GE255.out | refine below_set ?_ GE278.out) | exact HB.out)) hb); clear hb ho74; obtain ⟨Ao75, co75, eo75⟩ := Kd.R_slice HO306.out; subst eo75) | (go_at_call 31; (with_reducible refine (sleep_Watched.calls k _ _ y304 t307 _ ?side1 ?side2 A21.out).mono ?_); (case side1 => repeat (first | exact (Kd.R_reads' HO306.out).2.2 | with_reducible first | refine Kd.C_alloc ?_ _ | refine Kd.C_drewN ?_ _ | refine Kd.C_drew ?_)); (case side2 => exact (Kd.R_reads' HO306.out).2.1); rintro e w76 ⟨v308, rfl, ho0, hb⟩; replace HO254 := rb_ HO254 hb; replace HO258 := Aside0.mk (Kd.V_elder' (vq_ HO258) (Kd.R_base ho0) hb); replace HO262 := Aside0.mk (Kd.V_elder' (vq_ HO262) (Kd.R_base ho0) hb); replace HO266 := Aside0.mk (Kd.V_elder' (vq_ HO266) (Kd.R_base ho0) hb); replace HO273 := Aside0.mk (Kd.V_elder' (vq_ HO273) (Kd.R_base ho0) hb); replace HO276 := Aside0.mk (Kd.V_elder' (vq_ HO276) (Kd.R_base ho0) hb); replace HO281 := rb_ HO281 hb; replace HO284 := Aside0.mk (Kd.V_elder' (vq_ HO284) (Kd.R_base ho0) hb); replace HO288 := rb_ HO288 hb; replace HO291 := Aside0.mk (Kd.V_elder' (vq_ HO291) (Kd.R_base ho0) hb); replace HL293_3 := Aside0.mk (Kd.V_elder' (vq_ HL293_3) (Kd.R_base ho0) hb); replace HL293_4 := Aside0.mk (Kd.V_elder' (vq_ HL293_4) (Kd.R_base ho0) hb); replace HO296 := rb_ HO296 hb; replace HO299 := rb_ HO299 hb; replace HO302 := rb_ HO302 hb; replace HO306 := rb_ HO306 hb; replace HO309 := Aside0.mk (Kd.R_lower (Kd.R_new' (Kd.R_new' ho0 (Kd.R_lt (rq_ HO247))) (Kd.R_lt (rq_ HO251))) (below_size (by repeat (first | (with_reducible first | exact HB.out | apply below_alloc | apply pw_below_drewN | apply below_drew1 | refine below_set ?_ GE248.out | refine below_set ?_ GE255.out | refine below_set ?_ GE278.out) | exact HB.out)))); replace HO247 := Aside0.mk (Kd.R_elder' (rq_ HO247) (Kd.R_base ho0) hb); replace HO251 := Aside0.mk (Kd.R_elder' (rq_ HO251) (Kd.R_base ho0) hb); replace BK248 := bb_ BK248 hb; replace BK255 := bb_ BK255 hb; replace BK278 := bb_ BK278 hb; replace HR293_3 := Aside0.mk (Kd.V_reads' HL293_3.out).2.2; replace HR293_4 := Aside0.mk (Kd.V_reads' HL293_4.out).2.2; replace HB := Aside0.mk (below_step (by repeat (first | (with_reducible first | exact HB.out | apply below_alloc | apply pw_below_drewN | apply below_drew1 | refine below_set ?_ GE248.out | refine below_set ?_ GE255.out | refine below_set ?_ GE278.out) | exact HB.out)) hb); (try clear hb); (try clear hb2); (try clear hk); (try clear hi); (try clear ho0); obtain ⟨Ao77, co77, eo77⟩ := Kd.R_slice HO309.out; subst eo77) | (go_at_call 26; (with_reducible refine (sleep_Right.calls k _ _ t260 true _ ?side1 ?side2 A23.out).mono ?_); (case side1 => repeat (first | exact (Kd.V_reads' HO262.out).2.2 | with_reducible first | refine Kd.C_alloc ?_ _ | refine Kd.C_drewN ?_ _ | refine Kd.C_drew ?_)); (case side2 => exact (Kd.V_reads' HO262.out).2.1); rintro e w78 ⟨rfl, hb⟩; replace HO247 := rb_ HO247 hb; replace HO251 := rb_ HO251 hb; replace HO254 := rb_ HO254 hb; replace HO258 := vb_ HO258 hb; replace HO262 := vb_ HO262 hb; replace HO266 := vb_ HO266 hb; replace HO273 := vb_ HO273 hb; replace HO276 := vb_ HO276 hb; replace HO281 := rb_ HO281 hb; replace HO284 := vb_ HO284 hb; replace HO288 := rb_ HO288 hb; replace HO291 := vb_ HO291 hb; replace HL293_3 := vb_ HL293_3 hb; replace HL293_4 := vb_ HL293_4 hb; replace HO296 := rb_ HO296 hb; replace HO299 := rb_ HO299 hb; replace HO302 := rb_ HO302 hb; replace HO306 := rb_ HO306 hb; replace HO309 := rb_ HO309 hb; replace BK248 := bb_ BK248 hb; replace BK255 := bb_ BK255 hb; replace BK278 := bb_ BK278 hb; replace HR293_3 := Aside0.mk (Kd.V_reads' HL293_3.out).2.2; replace HR293_4 := Aside0.mk (Kd.V_reads' HL293_4.out).2.2; replace HB := Aside0.mk (below_step (by repeat (first | (with_reducible first | exact HB.out | apply below_alloc | apply pw_below_drewN | apply below_drew1 | refine below_set ?_ GE248.out | refine below_set ?_ GE255.out | refine below_set ?_ GE278.out) | exact HB.out)) hb); (try clear hb); (try clear hb2); (try clear hk); (try clear hi)))
                             go_ret
                             exact ⟨by first | rfl | (simp [errW_none, errW_some] <;> rfl) | (simp [*, errW_none, errW_some] <;> rfl), by repeat (first | (with_reducible first | exact HB.out | apply below_alloc | apply pw_below_drewN | apply below_drew1 | refine below_set ?_ GE248.out | refine below_set ?_ GE255.out | refine below_set ?_ GE278.out) | exact HB.out)⟩
                           · replace c24 := Bool.eq_false_iff.mpr c24
                             subst c24
                             rw [if_neg (show ¬ (false = true) by decide)] at H
                             exact absurd (Option.some.inj H) (by rw [HT.out]; decide)
                         · rw [if_neg c22] at H
                           have c22b0 : ((t307.length : Int) == 1) = false := beq_eq_false_iff_ne.mpr c22
                           have c22b1 : ((t307.length : Int) != 1) = true := bne_iff_ne.mpr c22
                           exact absurd (Option.some.inj H) (by rw [HT.out]; decide)
                       · replace c20 := Bool.eq_false_iff.mpr c20
                         subst c20
                         rw [if_neg (show ¬ (false = true) by decide)] at H
                         exact absurd (Option.some.inj H) (by rw [HT.out]; decide)
                     · rw [if_neg c17] at H
                       have c17b0 : (t292 == 3) = false := beq_eq_false_iff_ne.mpr c17
                       have c17b1 : (t292 != 3) = true := bne_iff_ne.mpr c17
                       exact absurd (Option.some.inj H) (by rw [HT.out]; decide)
                   · rw [if_neg c16] at H
                     have c16b0 : ((t282.length : Int) == 1) = false := beq_eq_false_iff_ne.mpr c16
                     have c16b1 : ((t282.length : Int) != 1) = true := bne_iff_ne.mpr c16
                     exact absurd (Option.some.inj H) (by rw [HT.out]; decide)
                 · rw [if_neg c15] at H
                   have c15b0 : (t285 == 0) = false := beq_eq_false_iff_ne.mpr c15
                   have c15b1 : (t285 != 0) = true := bne_iff_ne.mpr c15
                   exact absurd (Option.some.inj H) (by rw [HT.out]; decide)
               · rw [if_neg c14] at H
                 have c14b0 : ((t271.length : Int) == 1) = false := beq_eq_false_iff_ne.mpr c14
                 have c14b1 : ((t271.length : Int) != 1) = true := bne_iff_ne.mpr c14
                 exact absurd (Option.some.inj H) (by rw [HT.out]; decide)
             · rw [if_neg c13] at H
               have c13b0 : (t277 == 0) = false := beq_eq_false_iff_ne.mpr c13
               have c13b1 : (t277 != 0) = true := bne_iff_ne.mpr c13
               exact absurd (Option.some.inj H) (by rw [HT.out]; decide)
           · rw [if_neg c12] at H
             have c12b0 : (t267 == 9) = false := beq_eq_false_iff_ne.mpr c12
             have c12b1 : (t267 != 9) = true := bne_iff_ne.mpr c12
             exact absurd (Option.some.inj H) (by rw [HT.out]; decide)
         · rw [if_neg c11] at H
           have c11b0 : (((rd_T26 t260 0).f0) == 1) = false := beq_eq_false_iff_ne.mpr c11
           have c11b1 : (((rd_T26 t260 0).f0) != 1) = true := bne_iff_ne.mpr c11
           exact absurd (Option.some.inj H) (by rw [HT.out]; decide)
       · rw [if_neg c10] at H
         exact absurd H (by simp)
     · rw [if_neg c9] at H
       have c9b0 : ((t260.length : Int) == 2) = false := beq_eq_false_iff_ne.mpr c9
       have c9b1 : ((t260.length : Int) != 2) = true := bne_iff_ne.mpr c9
       exact absurd (Option.some.inj H) (by rw [HT.out]; decide)
   · rw [if_neg c8] at H
     have c8b0 : (t263 == 0) = false := beq_eq_false_iff_ne.mpr c8
     have c8b1 : (t263 != 0) = true := bne_iff_ne.mpr c8
     exact absurd (Option.some.inj H) (by rw [HT.out]; decide)
 · rw [if_neg c7] at H
   have c7b0 : (t259 == 0) = false := beq_eq_false_iff_ne.mpr c7
   have c7b1 : (t259 != 0) = true := bne_iff_ne.mpr c7
   exact absurd (Option.some.inj H) (by rw [HT.out]; decide)

theorem handshakerlaw15_awake.only (k : Nat) (r : Bool) (h : handshakerlaw15_awake.f k = some r) : r = true := by
 have h1 : handshakerlaw15_awake.f 60 = some true := by decide +kernel
 have h2 := at_rounds (g := handshakerlaw15_awake.f) handshakerlaw15_awake.mono (Nat.le_max_left k 60) h
 have h3 := at_rounds (g := handshakerlaw15_awake.f) handshakerlaw15_awake.mono (Nat.le_max_right k 60) h1
 rw [h2] at h3
 exact Option.some.inj h3
theorem handshakerlaw15_awake.calls (k : Nat) (r : Bool) (w : World) (h : handshakerlaw15_awake.f k = some r) :
 Calls Try.prog 15 #[] w fun e w' => e = .returned (.bool r) ∧ Below w.heap.size w w' :=
 handshakerlaw15_awake.callsT k r w ⟨handshakerlaw15_awake.only k r h⟩ h

end Go.Proofs.Ytjnkpocfmpbpoaa.Se
