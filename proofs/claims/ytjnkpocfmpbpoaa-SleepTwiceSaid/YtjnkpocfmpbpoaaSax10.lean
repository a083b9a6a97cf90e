-- PRINTED by print.py (a twelfth state) out of the translation. Not trusted: Lean checks it.
import Derived.Test.YtjnkpocfmpbpoaaSax0
import Derived.Test.YtjnkpocfmpbpoaaSax3
import Derived.Test.YtjnkpocfmpbpoaaSax4
import Derived.Test.YtjnkpocfmpbpoaaSax6
import Derived.Test.YtjnkpocfmpbpoaaSax8
import Derived.Test.YtjnkpocfmpbpoaaSax9
namespace Go.Proofs.Ytjnkpocfmpbpoaa.Sa
open Go.Proofs.Ytjnkpocfmpbpoaa.Ho
open Go.RowKit Go.Proofs.YtjnkpocfmpbpoaaW.PrintWords Go.Proofs.YtjnkpocfmpbpoaaW.PrintLast Go.Proofs.YtjnkpocfmpbpoaaW.PrintMore
attribute [local go_sem] max2_int min2_int max_two min_two max_three min_three max_four min_four   -- for this text's walks alone
set_option linter.unusedVariables false
set_option linter.unusedSimpArgs false

/-! ### reads_Right: function 34 -/
def reads_Right.l0 : Nat → List (S57) → List (S57) → Int → Int → Option (Bool)
 | 0, _, _, _, _ => none
 | k + 1, x0, x5, x6, x7 => if x7 < x6 then (if 0 ≤ x7 then (if x7 < (x5.length : Int) then (if ((rd_T57 x5 x7).f0) < 0 then (some false) else ((tick_Right.f ((rd_T57 x5 x7).f1)).bind fun t221 => (if t221 = true then ((span_Right.f ((rd_T57 x5 x7).f2)).bind fun t222 => (if t222 = true then ((reads_place.f x0 ((rd_T57 x5 x7).f0)).bind fun t223 => (if t223 = x7 then (reads_Right.l0 k x0 x5 x6 (wrap64 (x7 + 1))) else (some false))) else (some false))) else (some false)))) else (none)) else (none)) else (some (decide ((x0.length : Int) ≤ 24)))
def reads_Right.f (k : Nat) (l0 : List (S57)) : Option (Bool) := reads_Right.l0 k l0 l0 (l0.length : Int) 0
theorem reads_Right.mono_l : ∀ k, (∀ y0 y1 y2 y3, LeO (reads_Right.l0 k y0 y1 y2 y3) (reads_Right.l0 (k + 1) y0 y1 y2 y3))
 | 0 => fun _ _ _ _ r h => by simp [reads_Right.l0] at h
 | k + 1 => by
  have ih0 := reads_Right.mono_l k
  · intro y0 y1 y2 y3
    unfold reads_Right.l0
    repeat' first
    | (with_reducible exact ih0 _ _ _ _)
    | (with_reducible exact LeO.refl _)
    | (with_reducible exact LeO.none _)
    | (with_reducible refine LeO.ite ?_ ?_)
    | (with_reducible refine LeO.bind ?_ (fun _ => ?_))
    | exact ih0 _ _ _ _
    | exact LeO.none _
    | refine LeO.ite ?_ ?_
    | refine LeO.bind ?_ (fun _ => ?_)
theorem reads_Right.mono : ∀ a0 k, LeO (reads_Right.f k a0) (reads_Right.f (k + 1) a0) := by
 intro a0 k
 have ih0 := reads_Right.mono_l k
 unfold reads_Right.f
 repeat' first
  | (with_reducible exact ih0 _ _ _ _)
  | (with_reducible exact LeO.refl _)
  | (with_reducible exact LeO.none _)
  | (with_reducible refine LeO.ite ?_ ?_)
  | (with_reducible refine LeO.bind ?_ (fun _ => ?_))
  | exact ih0 _ _ _ _
  | exact LeO.none _
  | refine LeO.ite ?_ ?_
  | refine LeO.bind ?_ (fun _ => ?_)
set_option maxHeartbeats 8000000 in
set_option maxRecDepth 100000 in
theorem reads_Right.calls (k : Nat) (A0 : Option Addr) (c0 : Nat) (l0 : List (S57)) (r : Bool) (w : World) (hr0 : Kd.C k57 w A0 l0.length l0) (hc0 : l0.length ≤ c0) (h : reads_Right.f k l0 = some r) :
 Calls Try.prog 34 #[.slice A0 l0.length c0] w fun e w' => e = .returned (.bool r) ∧ Below w.heap.size w w' := by
 have hu57 := Try.underlying57
 have HR0 := Aside0.mk hr0
 have HC0 := Aside0.mk hc0
 clear hr0 hc0
 have HB := Aside0.mk (Below.refl w.heap.size w)
 have H : (reads_Right.l0 k l0 l0 (l0.length : Int) 0) = some r := h
 clear h
 have H' := Aside0.mk H
 clear H
 go_enter Try.func34, Try.ntmps34
 go_wp2
 go_loopg [7] k (fun kq v7 w' => ∃ (x7_1 : Int), v7 = .int .i64 x7_1 ∧ Aside0 (reads_Right.l0 kq l0 l0 (l0.length : Int) x7_1 = some r) ∧ Aside0 (kq ≤ k) ∧ Aside0 (Below w.heap.size w w'))
 case atStart => exact ⟨(0), (by first | rfl | (simp; done) | (simp [*]; done)), H', ⟨Nat.le_refl _⟩, ⟨bsv_⟩⟩
 case round =>
  clear H'
  obtain ⟨x7_1, rfl, HA, HK1, HB⟩ := hrel
  cases gk with
  | zero => exact absurd HA.out (by simp [reads_Right.l0])
  | succ k1 =>
   have H := HA.out
   clear HA
   simp only [reads_Right.l0] at H
   by_cases c2 : x7_1 < (l0.length : Int)
   · rw [if_pos c2] at H
     have c2b0 : decide (x7_1 < (l0.length : Int)) = true := decide_eq_true c2
     clear c2
     by_cases c3 : 0 ≤ x7_1
     · rw [if_pos c3] at H
       have c3b0 : decide (0 ≤ x7_1) = true := decide_eq_true c3
       clear c3
       by_cases c4 : x7_1 < (l0.length : Int)
       · rw [if_pos c4] at H
         have c4b0 : decide (x7_1 < (l0.length : Int)) = true := decide_eq_true c4
         clear c4
         by_cases c5 : ((rd_T57 l0 x7_1).f0) < 0
         · rw [if_pos c5] at H
           have c5b0 : decide (((rd_T57 l0 x7_1).f0) < 0) = true := decide_eq_true c5
           clear c5
           obtain rfl := Option.some.inj H
           have p219 : 0 ≤ (x7_1 : Int) := oda_
           have q219 : x7_1 < (l0.length : Int) := oda_
           obtain ⟨ad219, e219, hx219_0, hx219_1, hx219_2⟩ := at_T57 HR0.out x7_1 p219 q219
           cases e219
           replace hx219_0 := (HB.out.cell (World.block_lt_of_cell? w _ hx219_0)).trans hx219_0
           replace hx219_1 := (HB.out.cell (World.block_lt_of_cell? w _ hx219_1)).trans hx219_1
           replace hx219_2 := (HB.out.cell (World.block_lt_of_cell? w _ hx219_2)).trans hx219_2
           replace p219 := eq_true p219
           replace q219 := eq_true q219
           go_wp2_with (first | ((with_reducible refine gate_dst (N := 4) rfl ?_); refine box_event ?hg (N := 4) ?hd (cs := #[.int .i64 0, .int .i64 0, .int .i64 0]) (t := 57) ?hr ?_; (case hd => rfl); (case hg => rfl); (case hr => first | (go_simp; done) | (go_simp; rfl)); intro gb220 hg w6 hbox hb; replace BK220 := Aside0.mk (hbox); replace GW220 := Aside0.mk ((by rw [hg]; exact bsz_ : w.heap.size ≤ gb220)); replace HB := Aside0.mk (bst_ hb); replace GE220 := GW220; clear hb hbox hg; have hcz7_0 : w6.cell? ⟨gb220, 0, none⟩ = some (.int .i64 0) := (blk_cell BK220.out 0).trans rfl; have hcz7_1 : w6.cell? ⟨gb220, 1, none⟩ = some (.int .i64 0) := (blk_cell BK220.out 1).trans rfl; have hcz7_2 : w6.cell? ⟨gb220, 2, none⟩ = some (.int .i64 0) := (blk_cell BK220.out 2).trans rfl; have hfz7_0 := blk_frozen BK220.out 0; have hfz7_1 := blk_frozen BK220.out 1; have hfz7_2 := blk_frozen BK220.out 2))
           go_ret
           exact ⟨by first | rfl | (simp [errW_none, errW_some] <;> rfl) | (simp [*, errW_none, errW_some] <;> rfl), bsw_⟩
         · rw [if_neg c5] at H
           have c5b0 : decide (((rd_T57 l0 x7_1).f0) < 0) = false := decide_eq_false c5
           clear c5
           replace H := Option.bind_eq_some_iff.mp H
           obtain ⟨t221, A80, H⟩ := H
           have A8 := Aside0.mk A80
           clear A80
           by_cases c9 : t221 = true
           · subst c9
             rw [if_pos rfl] at H
             replace H := Option.bind_eq_some_iff.mp H
             obtain ⟨t222, A100, H⟩ := H
             have A10 := Aside0.mk A100
             clear A100
             by_cases c11 : t222 = true
             · subst c11
               rw [if_pos rfl] at H
               replace H := Option.bind_eq_some_iff.mp H
               obtain ⟨t223, A120, H⟩ := H
               have A12 := Aside0.mk A120
               clear A120
               by_cases c13 : t223 = x7_1
               · rw [if_pos c13] at H
                 have c13b0 : (t223 == x7_1) = true := beq_iff_eq.mpr c13
                 have c13b1 : (t223 != x7_1) = false := bne_eq_false_iff_eq.mpr c13
                 clear c13
                 have H' := Aside0.mk H
                 clear H
                 have p219 : 0 ≤ (x7_1 : Int) := oda_
                 have q219 : x7_1 < (l0.length : Int) := oda_
                 obtain ⟨ad219, e219, hx219_0, hx219_1, hx219_2⟩ := at_T57 HR0.out x7_1 p219 q219
                 cases e219
                 replace hx219_0 := (HB.out.cell (World.block_lt_of_cell? w _ hx219_0)).trans hx219_0
                 replace hx219_1 := (HB.out.cell (World.block_lt_of_cell? w _ hx219_1)).trans hx219_1
                 replace hx219_2 := (HB.out.cell (World.block_lt_of_cell? w _ hx219_2)).trans hx219_2
                 replace p219 := eq_true p219
                 replace q219 := eq_true q219
                 go_wp2_with (first | ((with_reducible refine gate_dst (N := 4) rfl ?_); refine box_event ?hg (N := 4) ?hd (cs := #[.int .i64 0, .int .i64 0, .int .i64 0]) (t := 57) ?hr ?_; (case hd => rfl); (case hg => rfl); (case hr => first | (go_simp; done) | (go_simp; rfl)); intro gb220 hg w14 hbox hb; replace BK220 := Aside0.mk (hbox); replace GW220 := Aside0.mk ((by rw [hg]; exact bsz_ : w.heap.size ≤ gb220)); replace HB := Aside0.mk (bst_ hb); replace GE220 := GW220; clear hb hbox hg; have hcz15_0 : w14.cell? ⟨gb220, 0, none⟩ = some (.int .i64 0) := (blk_cell BK220.out 0).trans rfl; have hcz15_1 : w14.cell? ⟨gb220, 1, none⟩ = some (.int .i64 0) := (blk_cell BK220.out 1).trans rfl; have hcz15_2 : w14.cell? ⟨gb220, 2, none⟩ = some (.int .i64 0) := (blk_cell BK220.out 2).trans rfl; have hfz15_0 := blk_frozen BK220.out 0; have hfz15_1 := blk_frozen BK220.out 1; have hfz15_2 := blk_frozen BK220.out 2) | (go_at_call 58; (with_reducible refine (tick_Right.calls ((rd_T57 l0 x7_1).f1) true _ A8.out).mono ?_); rintro e w' ⟨rfl, ⟨nd, rfl⟩⟩) | (go_at_call 59; (with_reducible refine (span_Right.calls ((rd_T57 l0 x7_1).f2) true _ A10.out).mono ?_); rintro e w' ⟨rfl, ⟨nd, rfl⟩⟩) | (go_at_call 60; (with_reducible refine (reads_place.calls _ _ l0 ((rd_T57 l0 x7_1).f0) t223 _ ?side1 ?side2 A12.out).mono ?_); (case side1 => exact Kd.C_below HR0.out bsw_); (case side2 => exact HC0.out); rintro e w16 ⟨rfl, hb⟩; replace BK220 := Aside0.mk (blk_below (g := gb220) (o := .cells #[.int .i64 ((rd_T57 l0 x7_1).f0), .int .i64 ((rd_T57 l0 x7_1).f1), .int .i64 ((rd_T57 l0 x7_1).f2)] 57 (0, 0)) (by (with_reducible repeat (first | refine blk_drewN ?_ _ | refine blk_drew ?_ | refine blk_alloc ?_ _)); refine blk_put (cs := #[.int .i64 ((rd_T57 l0 x7_1).f0), .int .i64 ((rd_T57 l0 x7_1).f1), .int .i64 0]) ?_ 2 _ rfl; (with_reducible repeat (first | refine blk_drewN ?_ _ | refine blk_drew ?_ | refine blk_alloc ?_ _)); refine blk_put (cs := #[.int .i64 ((rd_T57 l0 x7_1).f0), .int .i64 0, .int .i64 0]) ?_ 1 _ rfl; (with_reducible repeat (first | refine blk_drewN ?_ _ | refine blk_drew ?_ | refine blk_alloc ?_ _)); refine blk_put (cs := #[.int .i64 0, .int .i64 0, .int .i64 0]) ?_ 0 _ rfl; (with_reducible repeat (first | refine blk_drewN ?_ _ | refine blk_drew ?_ | refine blk_alloc ?_ _)); exact BK220.out) hb); replace HB := Aside0.mk (below_step bsw_ hb); (try clear hb); (try clear hb2); (try clear hk); (try clear hi)))
                 go_roundg k1
                 case measure => have := HK1.out; omega
                 case rel => exact ⟨(wrap64 (x7_1 + 1)), (by first | rfl | (simp; done) | (simp [*]; done)), H', ⟨by have := HK1.out; omega⟩, ⟨bsw_⟩⟩
               · rw [if_neg c13] at H
                 have c13b0 : (t223 == x7_1) = false := beq_eq_false_iff_ne.mpr c13
                 have c13b1 : (t223 != x7_1) = true := bne_iff_ne.mpr c13
                 obtain rfl := Option.some.inj H
                 have p219 : 0 ≤ (x7_1 : Int) := oda_
                 have q219 : x7_1 < (l0.length : Int) := oda_
                 obtain ⟨ad219, e219, hx219_0, hx219_1, hx219_2⟩ := at_T57 HR0.out x7_1 p219 q219
                 cases e219
                 replace hx219_0 := (HB.out.cell (World.block_lt_of_cell? w _ hx219_0)).trans hx219_0
                 replace hx219_1 := (HB.out.cell (World.block_lt_of_cell? w _ hx219_1)).trans hx219_1
                 replace hx219_2 := (HB.out.cell (World.block_lt_of_cell? w _ hx219_2)).trans hx219_2
                 replace p219 := eq_true p219
                 replace q219 := eq_true q219
                 go_wp2_with (first | ((with_reducible refine gate_dst (N := 4) rfl ?_); refine box_event ?hg (N := 4) ?hd (cs := #[.int .i64 0, .int .i64 0, .int .i64 0]) (t := 57) ?hr ?_; (case hd => rfl); (case hg => rfl); (case hr => first | (go_simp; done) | (go_simp; rfl)); intro gb220 hg w17 hbox hb; replace BK220 := Aside0.mk (hbox); replace GW220 := Aside0.mk ((by rw [hg]; exact bsz_ : w.heap.size ≤ gb220)); replace HB := Aside0.mk (bst_ hb); replace GE220 := GW220; clear hb hbox hg; have hcz18_0 : w17.cell? ⟨gb220, 0, none⟩ = some (.int .i64 0) := (blk_cell BK220.out 0).trans rfl; have hcz18_1 : w17.cell? ⟨gb220, 1, none⟩ = some (.int .i64 0) := (blk_cell BK220.out 1).trans rfl; have hcz18_2 : w17.cell? ⟨gb220, 2, none⟩ = some (.int .i64 0) := (blk_cell BK220.out 2).trans rfl; have hfz18_0 := blk_frozen BK220.out 0; have hfz18_1 := blk_frozen BK220.out 1; have hfz18_2 := blk_frozen BK220.out 2) | (go_at_call 58; (with_reducible refine (tick_Right.calls ((rd_T57 l0 x7_1).f1) true _ A8.out).mono ?_); rintro e w' ⟨rfl, ⟨nd, rfl⟩⟩) | (go_at_call 59; (with_reducible refine (span_Right.calls ((rd_T57 l0 x7_1).f2) true _ A10.out).mono ?_); rintro e w' ⟨rfl, ⟨nd, rfl⟩⟩) | (go_at_call 60; (with_reducible refine (reads_place.calls _ _ l0 ((rd_T57 l0 x7_1).f0) t223 _ ?side1 ?side2 A12.out).mono ?_); (case side1 => exact Kd.C_below HR0.out bsw_); (case side2 => exact HC0.out); rintro e w19 ⟨rfl, hb⟩; replace BK220 := Aside0.mk (blk_below (g := gb220) (o := .cells #[.int .i64 ((rd_T57 l0 x7_1).f0), .int .i64 ((rd_T57 l0 x7_1).f1), .int .i64 ((rd_T57 l0 x7_1).f2)] 57 (0, 0)) (by (with_reducible repeat (first | refine blk_drewN ?_ _ | refine blk_drew ?_ | refine blk_alloc ?_ _)); refine blk_put (cs := #[.int .i64 ((rd_T57 l0 x7_1).f0), .int .i64 ((rd_T57 l0 x7_1).f1), .int .i64 0]) ?_ 2 _ rfl; (with_reducible repeat (first | refine blk_drewN ?_ _ | refine blk_drew ?_ | refine blk_alloc ?_ _)); refine blk_put (cs := #[.int .i64 ((rd_T57 l0 x7_1).f0), .int .i64 0, .int .i64 0]) ?_ 1 _ rfl; (with_reducible repeat (first | refine blk_drewN ?_ _ | refine blk_drew ?_ | refine blk_alloc ?_ _)); refine blk_put (cs := #[.int .i64 0, .int .i64 0, .int .i64 0]) ?_ 0 _ rfl; (with_reducible repeat (first | refine blk_drewN ?_ _ | refine blk_drew ?_ | refine blk_alloc ?_ _)); exact BK220.out) hb); replace HB := Aside0.mk (below_step bsw_ hb); (try clear hb); (try clear hb2); (try clear hk); (try clear hi)))
                 go_ret
                 exact ⟨by first | rfl | (simp [errW_none, errW_some] <;> rfl) | (simp [*, errW_none, errW_some] <;> rfl), bsw_⟩
             · replace c11 := Bool.eq_false_iff.mpr c11
               subst c11
               rw [if_neg (show ¬ (false = true) by decide)] at H
               obtain rfl := Option.some.inj H
               have p219 : 0 ≤ (x7_1 : Int) := oda_
               have q219 : x7_1 < (l0.length : Int) := oda_
               obtain ⟨ad219, e219, hx219_0, hx219_1, hx219_2⟩ := at_T57 HR0.out x7_1 p219 q219
               cases e219
               replace hx219_0 := (HB.out.cell (World.block_lt_of_cell? w _ hx219_0)).trans hx219_0
               replace hx219_1 := (HB.out.cell (World.block_lt_of_cell? w _ hx219_1)).trans hx219_1
               replace hx219_2 := (HB.out.cell (World.block_lt_of_cell? w _ hx219_2)).trans hx219_2
               replace p219 := eq_true p219
               replace q219 := eq_true q219
               go_wp2_with (first | ((with_reducible refine gate_dst (N := 4) rfl ?_); refine box_event ?hg (N := 4) ?hd (cs := #[.int .i64 0, .int .i64 0, .int .i64 0]) (t := 57) ?hr ?_; (case hd => rfl); (case hg => rfl); (case hr => first | (go_simp; done) | (go_simp; rfl)); intro gb220 hg w20 hbox hb; replace BK220 := Aside0.mk (hbox); replace GW220 := Aside0.mk ((by rw [hg]; exact bsz_ : w.heap.size ≤ gb220)); replace HB := Aside0.mk (bst_ hb); replace GE220 := GW220; clear hb hbox hg; have hcz21_0 : w20.cell? ⟨gb220, 0, none⟩ = some (.int .i64 0) := (blk_cell BK220.out 0).trans rfl; have hcz21_1 : w20.cell? ⟨gb220, 1, none⟩ = some (.int .i64 0) := (blk_cell BK220.out 1).trans rfl; have hcz21_2 : w20.cell? ⟨gb220, 2, none⟩ = some (.int .i64 0) := (blk_cell BK220.out 2).trans rfl; have hfz21_0 := blk_frozen BK220.out 0; have hfz21_1 := blk_frozen BK220.out 1; have hfz21_2 := blk_frozen BK220.out 2) | (go_at_call 58; (with_reducible refine (tick_Right.calls ((rd_T57 l0 x7_1).f1) true _ A8.out).mono ?_); rintro e w' ⟨rfl, ⟨nd, rfl⟩⟩) | (go_at_call 59; (with_reducible refine (span_Right.calls ((rd_T57 l0 x7_1).f2) false _ A10.out).mono ?_); rintro e w' ⟨rfl, ⟨nd, rfl⟩⟩))
               go_ret
               exact ⟨by first | rfl | (simp [errW_none, errW_some] <;> rfl) | (simp [*, errW_none, errW_some] <;> rfl), bsw_⟩
           · replace c9 := Bool.eq_false_iff.mpr c9
             subst c9
             rw [if_neg (show ¬ (false = true) by decide)] at H
             obtain rfl := Option.some.inj H
             have p219 : 0 ≤ (x7_1 : Int) := oda_
             have q219 : x7_1 < (l0.length : Int) := oda_
             obtain ⟨ad219, e219, hx219_0, hx219_1, hx219_2⟩ := at_T57 HR0.out x7_1 p219 q219
             cases e219
             replace hx219_0 := (HB.out.cell (World.block_lt_of_cell? w _ hx219_0)).trans hx219_0
             replace hx219_1 := (HB.out.cell (World.block_lt_of_cell? w _ hx219_1)).trans hx219_1
             replace hx219_2 := (HB.out.cell (World.block_lt_of_cell? w _ hx219_2)).trans hx219_2
             replace p219 := eq_true p219
             replace q219 := eq_true q219
             go_wp2_with (first | ((with_reducible refine gate_dst (N := 4) rfl ?_); refine box_event ?hg (N := 4) ?hd (cs := #[.int .i64 0, .int .i64 0, .int .i64 0]) (t := 57) ?hr ?_; (case hd => rfl); (case hg => rfl); (case hr => first | (go_simp; done) | (go_simp; rfl)); intro gb220 hg w22 hbox hb; replace BK220 := Aside0.mk (hbox); replace GW220 := Aside0.mk ((by rw [hg]; exact bsz_ : w.heap.size ≤ gb220)); replace HB := Aside0.mk (bst_ hb); replace GE220 := GW220; clear hb hbox hg; have hcz23_0 : w22.cell? ⟨gb220, 0, none⟩ = some (.int .i64 0) := (blk_cell BK220.out 0).trans rfl; have hcz23_1 : w22.cell? ⟨gb220, 1, none⟩ = some (.int .i64 0) := (blk_cell BK220.out 1).trans rfl; have hcz23_2 : w22.cell? ⟨gb220, 2, none⟩ = some (.int .i64 0) := (blk_cell BK220.out 2).trans rfl; have hfz23_0 := blk_frozen BK220.out 0; have hfz23_1 := blk_frozen BK220.out 1; have hfz23_2 := blk_frozen BK220.out 2) | (go_at_call 58; (with_reducible refine (tick_Right.calls ((rd_T57 l0 x7_1).f1) false _ A8.out).mono ?_); rintro e w' ⟨rfl, ⟨nd, rfl⟩⟩))
             go_ret
             exact ⟨by first | rfl | (simp [errW_none, errW_some] <;> rfl) | (simp [*, errW_none, errW_some] <;> rfl), bsw_⟩
       · rw [if_neg c4] at H
         exact absurd H (by simp)
     · rw [if_neg c3] at H
       exact absurd H (by simp)
   · rw [if_neg c2] at H
     have c2b0 : decide (x7_1 < (l0.length : Int)) = false := decide_eq_false c2
     clear c2
     obtain rfl := Option.some.inj H
     go_wp2
     go_ret
     exact ⟨by first | rfl | (simp [errW_none, errW_some] <;> rfl) | (simp [*, errW_none, errW_some] <;> rfl), bsv_⟩

/-! ### reads_Cells: function 53 -/
def reads_Cells.l0 : Nat → List (S57) → List Int → List (S57) → Int → Int → Option (List Int)
 | 0, _, _, _, _, _ => none
 | k + 1, x0, x3, x6, x7, x8 => if x8 < x7 then (if 0 ≤ x8 then (if x8 < (x6.length : Int) then (if x3.length < 17592186044416 then (reads_Cells.l0 k x0 (x3 ++ [(rd_T57 x6 x8).f0]) x6 x7 (wrap64 (x8 + 1))) else (none)) else (none)) else (none)) else ((reads_Right.f k x0).bind fun t229 => (if t229 = true then ((slices_Sort.f x3).bind fun t230 => (some t230)) else (some ([] : List Int))))
def reads_Cells.f (k : Nat) (l0 : List (S57)) : Option (List Int) := reads_Cells.l0 k l0 ([] : List Int) l0 (l0.length : Int) 0
theorem reads_Cells.mono_l : ∀ k, (∀ y0 y1 y2 y3 y4, LeO (reads_Cells.l0 k y0 y1 y2 y3 y4) (reads_Cells.l0 (k + 1) y0 y1 y2 y3 y4))
 | 0 => fun _ _ _ _ _ r h => by simp [reads_Cells.l0] at h
 | k + 1 => by
  have ih0 := reads_Cells.mono_l k
  · intro y0 y1 y2 y3 y4
    unfold reads_Cells.l0
    repeat' first
    | (with_reducible exact ih0 _ _ _ _ _)
    | (with_reducible exact reads_Right.mono _ _)
    | (with_reducible exact LeO.refl _)
    | (with_reducible exact LeO.none _)
    | (with_reducible refine LeO.ite ?_ ?_)
    | (with_reducible refine LeO.bind ?_ (fun _ => ?_))
    | exact ih0 _ _ _ _ _
    | exact reads_Right.mono _ _
    | exact LeO.none _
    | refine LeO.ite ?_ ?_
    | refine LeO.bind ?_ (fun _ => ?_)
theorem reads_Cells.mono : ∀ a0 k, LeO (reads_Cells.f k a0) (reads_Cells.f (k + 1) a0) := by
 intro a0 k
 have ih0 := reads_Cells.mono_l k
 unfold reads_Cells.f
 repeat' first
  | (with_reducible exact ih0 _ _ _ _ _)
  | (with_reducible exact reads_Right.mono _ _)
  | (with_reducible exact LeO.refl _)
  | (with_reducible exact LeO.none _)
  | (with_reducible refine LeO.ite ?_ ?_)
  | (with_reducible refine LeO.bind ?_ (fun _ => ?_))
  | exact ih0 _ _ _ _ _
  | exact reads_Right.mono _ _
  | exact LeO.none _
  | refine LeO.ite ?_ ?_
  | refine LeO.bind ?_ (fun _ => ?_)
set_option maxHeartbeats 8000000 in
set_option maxRecDepth 100000 in
theorem reads_Cells.calls (k : Nat) (A0 : Option Addr) (c0 : Nat) (l0 : List (S57)) (r : List Int) (w : World) (hr0 : Kd.C k57 w A0 l0.length l0) (hc0 : l0.length ≤ c0) (h : reads_Cells.f k l0 = some r) :
 Calls Try.prog 53 #[.slice A0 l0.length c0] w fun e w' => ∃ v0_ : Value, e = .returned (v0_) ∧ Kd.R (Kd.int .i64) 3 w' w.heap.size (fun _ => True) v0_ r ∧ Below w.heap.size w w' := by
 have hu57 := Try.underlying57
 have HR0 := Aside0.mk hr0
 have HC0 := Aside0.mk hc0
 clear hr0 hc0
 have HB := Aside0.mk (Below.refl w.heap.size w)
 have H : (reads_Cells.l0 k l0 ([] : List Int) l0 (l0.length : Int) 0) = some r := h
 clear h
 have H' := Aside0.mk H
 clear H
 go_enter Try.func53, Try.ntmps53
 go_wp2
 go_loopg [3, 8] k (fun kq v3 v8 w' => ∃ (x3_1 : List Int) (x8_1 : Int), v8 = .int .i64 x8_1 ∧ Aside0 (reads_Cells.l0 kq l0 x3_1 l0 (l0.length : Int) x8_1 = some r) ∧ Aside0 (kq ≤ k) ∧ Aside0 (Kd.R (Kd.int .i64) 3 w' w.heap.size (fun _ => True) v3 x3_1) ∧ Aside0 (Below w.heap.size w w'))
 case atStart => exact ⟨(([] : List Int)), (0), (by first | rfl | (simp; done) | (simp [*]; done)), H', ⟨Nat.le_refl _⟩, ⟨by first | exact Kd.R_nil _ _ _ _ _ | exact Kd.N_nil _ _ _ _ _ | exact Kd.V_nil _ _ _ _ _ | exact Kd.Q_nil _ _ _ _ _ | exact Kd.S_nil _ _ _ _ _⟩, ⟨bsv_⟩⟩
 case round =>
  clear H'
  obtain ⟨x3_1, x8_1, rfl, HA, HK1, HO_3, HB⟩ := hrel
  cases gk with
  | zero => exact absurd HA.out (by simp [reads_Cells.l0])
  | succ k1 =>
   have H := HA.out
   clear HA
   simp only [reads_Cells.l0] at H
   by_cases c2 : x8_1 < (l0.length : Int)
   · rw [if_pos c2] at H
     have c2b0 : decide (x8_1 < (l0.length : Int)) = true := decide_eq_true c2
     clear c2
     by_cases c3 : 0 ≤ x8_1
     · rw [if_pos c3] at H
       have c3b0 : decide (0 ≤ x8_1) = true := decide_eq_true c3
       clear c3
       by_cases c4 : x8_1 < (l0.length : Int)
       · rw [if_pos c4] at H
         have c4b0 : decide (x8_1 < (l0.length : Int)) = true := decide_eq_true c4
         clear c4
         by_cases c5 : x3_1.length < 17592186044416
         · rw [if_pos c5] at H
           have LMc5 := Aside0.mk c5
           clear c5
           obtain ⟨y226, hy226⟩ : ∃ y_ : List Int, y_ = (x3_1 ++ [(rd_T57 l0 x8_1).f0]) := ⟨_, rfl⟩
           replace H : (reads_Cells.l0 k1 l0 y226 l0 (l0.length : Int) (wrap64 (x8_1 + 1))) = some r := by first | (rw [hy226]; with_reducible exact H) | (have H2_ := (Option.bind_some _ _).symm.trans H; rw [hy226]; with_reducible exact H2_) | (have H2_ := (Option.bind_some _ _).symm.trans H; with_reducible exact H2_) | with_reducible exact H | (rw [hy226]; exact H) | exact H
           have Ny226 := Aside0.mk hy226
           clear hy226
           have H' := Aside0.mk H
           clear H
           have p224 : 0 ≤ (x8_1 : Int) := oda_
           have q224 : x8_1 < (l0.length : Int) := oda_
           obtain ⟨ad224, e224, hx224_0, hx224_1, hx224_2⟩ := at_T57 HR0.out x8_1 p224 q224
           cases e224
           replace hx224_0 := (HB.out.cell (World.block_lt_of_cell? w _ hx224_0)).trans hx224_0
           replace hx224_1 := (HB.out.cell (World.block_lt_of_cell? w _ hx224_1)).trans hx224_1
           replace hx224_2 := (HB.out.cell (World.block_lt_of_cell? w _ hx224_2)).trans hx224_2
           replace p224 := eq_true p224
           replace q224 := eq_true q224
           go_wp2_with (first | ((with_reducible refine gate_dst (N := 5) rfl ?_); refine box_event ?hg (N := 5) ?hd (cs := #[.int .i64 0, .int .i64 0, .int .i64 0]) (t := 57) ?hr ?_; (case hd => rfl); (case hg => rfl); (case hr => first | (go_simp; done) | (go_simp; rfl)); intro gb225 hg w6 hbox hb; replace HO_3 := rb_ HO_3 hb; replace BK225 := Aside0.mk (hbox); replace GW225 := Aside0.mk ((by rw [hg]; exact bsz_ : w.heap.size ≤ gb225)); replace HB := Aside0.mk (bst_ hb); replace GE225 := GW225; clear hb hbox hg; have hcz7_0 : w6.cell? ⟨gb225, 0, none⟩ = some (.int .i64 0) := (blk_cell BK225.out 0).trans rfl; have hcz7_1 : w6.cell? ⟨gb225, 1, none⟩ = some (.int .i64 0) := (blk_cell BK225.out 1).trans rfl; have hcz7_2 : w6.cell? ⟨gb225, 2, none⟩ = some (.int .i64 0) := (blk_cell BK225.out 2).trans rfl; have hfz7_0 := blk_frozen BK225.out 0; have hfz7_1 := blk_frozen BK225.out 1; have hfz7_2 := blk_frozen BK225.out 2) | ((with_reducible refine gate_builtin (b := .append) (xs := #[.tmp 12, .tmp 15]) rfl ?_); at_builtin; refine Kd.R_append (Kd.int .i64) (w0 := w) w.heap.size rfl (.tmp 12) (.tmp 15) 27 3 (.int .i64 0) 8 rfl Try.underlying27 info3 rfl (by decide) (by omega) u3 x3_1 ((rd_T57 l0 x8_1).f0) [.int .i64 ((rd_T57 l0 x8_1).f0)] (fun _ => True) (fun _ => False) rfl (by first | (go_simp; done) | (go_simp; rfl)) ?aP (fun _ hk => hk.elim) ?aF ?aO ?aB ?aS ?aL ?_; (case aP => exact rfl); (case aB => exact bsw_); (case aF => exact (fun _ _ => trivial)); (case aO => exact (by (with_reducible repeat (first | apply Kd.R_alloc | apply Kd.R_drewN | apply Kd.R_drew)); exact Kd.R_mono (Kd.R_far (p := ⟨gb225, 2, none⟩) (Kd.R_far (p := ⟨gb225, 1, none⟩) (Kd.R_far (p := ⟨gb225, 0, none⟩) (Kd.R_types HO_3.out BK225.out (by decide)) (fun _ hk => hk.2) (.int .i64 ((rd_T57 l0 x8_1).f0))) (fun _ hk => hk.2) (.int .i64 ((rd_T57 l0 x8_1).f1))) (fun _ hk => hk.2) (.int .i64 ((rd_T57 l0 x8_1).f2))) (fun _ hk => trivial))); (case aS => exact (below_size bsw_)); (case aL => have := LMc5.out; omega); intro v227 w8 ho hb hg hat; rw [← Ny226.out] at ho; replace BK225 := Aside0.mk (blk_grown (g := gb225) (o := .cells #[.int .i64 ((rd_T57 l0 x8_1).f0), .int .i64 ((rd_T57 l0 x8_1).f1), .int .i64 ((rd_T57 l0 x8_1).f2)] 57 (0, 0)) (by (with_reducible repeat (first | refine blk_drewN ?_ _ | refine blk_drew ?_ | refine blk_alloc ?_ _)); refine blk_put (cs := #[.int .i64 ((rd_T57 l0 x8_1).f0), .int .i64 ((rd_T57 l0 x8_1).f1), .int .i64 0]) ?_ 2 _ rfl; (with_reducible repeat (first | refine blk_drewN ?_ _ | refine blk_drew ?_ | refine blk_alloc ?_ _)); refine blk_put (cs := #[.int .i64 ((rd_T57 l0 x8_1).f0), .int .i64 0, .int .i64 0]) ?_ 1 _ rfl; (with_reducible repeat (first | refine blk_drewN ?_ _ | refine blk_drew ?_ | refine blk_alloc ?_ _)); refine blk_put (cs := #[.int .i64 0, .int .i64 0, .int .i64 0]) ?_ 0 _ rfl; (with_reducible repeat (first | refine blk_drewN ?_ _ | refine blk_drew ?_ | refine blk_alloc ?_ _)); exact BK225.out) hg (Kd.R_ne HO_3.out BK225.out (by decide))); replace HB := Aside0.mk (hb); replace HO228 := Aside0.mk (ho); clear HO_3; clear ho hb hg hat))
           go_roundg k1
           case measure => have := HK1.out; omega
           case rel => exact ⟨(y226), (wrap64 (x8_1 + 1)), (by first | rfl | (simp; done) | (simp [*]; done)), H', ⟨by have := HK1.out; omega⟩, ⟨rq_ HO228⟩, ⟨bsw_⟩⟩
         · rw [if_neg c5] at H
           exact absurd H (by simp)
       · rw [if_neg c4] at H
         exact absurd H (by simp)
     · rw [if_neg c3] at H
       exact absurd H (by simp)
   · rw [if_neg c2] at H
     have c2b0 : decide (x8_1 < (l0.length : Int)) = false := decide_eq_false c2
     clear c2
     replace H := Option.bind_eq_some_iff.mp H
     obtain ⟨t229, A90, H⟩ := H
     have A9 := Aside0.mk A90
     clear A90
     by_cases c10 : t229 = true
     · subst c10
       rw [if_pos rfl] at H
       replace H := Option.bind_eq_some_iff.mp H
       obtain ⟨t230, A110, H⟩ := H
       have A11 := Aside0.mk A110
       clear A110
       obtain rfl := Option.some.inj H
       go_wp2_with (first | ((with_reducible refine gate_callee (f := 34) rfl ?_); refine goesL_ (some 19) rfl rfl Try.func34 (by kernel_rfl) rfl #[.slice A0 l0.length c0] rfl mp_ ?_; (with_reducible refine (reads_Right.calls k1 _ _ l0 true _ ?side1 ?side2 A9.out).mono ?_); (case side1 => repeat (first | exact (Kd.C_below HR0.out HB.out) | with_reducible first | refine Kd.C_alloc ?_ _ | refine Kd.C_drewN ?_ _ | refine Kd.C_drew ?_)); (case side2 => exact HC0.out); rintro e w12 ⟨rfl, hb⟩; refine ⟨_, rfl, ?_⟩; replace HO_3 := rb_ HO_3 hb; replace HB := Aside0.mk (bst_ hb); (try clear hb); (try clear hb2); (try clear hk); (try clear hi); obtain ⟨Ao13, co13, eo13⟩ := Kd.R_slice HO_3.out; subst eo13) | ((with_reducible refine gate_callee (f := 84) rfl ?_); refine goesL_ (some 22) rfl rfl Try.func84 (by kernel_rfl) rfl #[.slice Ao13 x3_1.length co13] rfl mp_ ?_; (with_reducible refine (slices_Sort.calls (fun k_ => some k_ = (.slice Ao13 x3_1.length co13 : Value).ownBlock) (.slice Ao13 x3_1.length co13) x3_1 t230 w _ ?side1 ?side2 A11.out).mono ?_); (case side1 => repeat (with_reducible first | exact HB.out | apply below_alloc | apply pw_below_drewN | apply below_drew1)); (case side2 => exact Kd.R_tight rfl HO_3.out); rintro e w14 ⟨rfl, hy0, hb, hkp⟩; refine ⟨_, rfl, ?_⟩; replace HO_3 := Aside0.mk (Kd.R_reok rfl hy0 (fun k_ e_ => HO_3.out.1 k_ e_)); replace HB := Aside0.mk (hb); (try clear hb); (try clear hkp); (try clear hy0)))
       go_ret
       exact ⟨_, by first | rfl | (simp [errW_none, errW_some] <;> rfl) | (simp [*, errW_none, errW_some] <;> rfl), rq_ HO_3, bsv_⟩
     · replace c10 := Bool.eq_false_iff.mpr c10
       subst c10
       rw [if_neg (show ¬ (false = true) by decide)] at H
       obtain rfl := Option.some.inj H
       go_wp2_with (first | ((with_reducible refine gate_callee (f := 34) rfl ?_); refine goesL_ (some 19) rfl rfl Try.func34 (by kernel_rfl) rfl #[.slice A0 l0.length c0] rfl mp_ ?_; (with_reducible refine (reads_Right.calls k1 _ _ l0 false _ ?side1 ?side2 A9.out).mono ?_); (case side1 => repeat (first | exact (Kd.C_below HR0.out HB.out) | with_reducible first | refine Kd.C_alloc ?_ _ | refine Kd.C_drewN ?_ _ | refine Kd.C_drew ?_)); (case side2 => exact HC0.out); rintro e w15 ⟨rfl, hb⟩; refine ⟨_, rfl, ?_⟩; replace HO_3 := rb_ HO_3 hb; replace HB := Aside0.mk (bst_ hb); (try clear hb); (try clear hb2); (try clear hk); (try clear hi)))
       go_ret
       exact ⟨_, by first | rfl | (simp [errW_none, errW_some] <;> rfl) | (simp [*, errW_none, errW_some] <;> rfl), by first | exact Kd.R_nil _ _ _ _ _ | exact Kd.N_nil _ _ _ _ _ | exact Kd.V_nil _ _ _ _ _ | exact Kd.Q_nil _ _ _ _ _ | exact Kd.S_nil _ _ _ _ _, bsv_⟩

/-! ### reads_Find: function 54 -/
def reads_Find.f (k : Nat) (l0 : List (S57)) (a1 : Int) : Option (Int × Int × Int × Bool) := (reads_place.f l0 a1).bind fun t232 => (if t232 < 0 then (some (0, 0, 0, false)) else ((reads_Right.f k l0).bind fun t233 => (if t233 = true then (if 0 ≤ t232 then (if t232 < (l0.length : Int) then (some ((rd_T57 l0 t232).f0, (rd_T57 l0 t232).f1, (rd_T57 l0 t232).f2, true)) else (none)) else (none)) else (some (0, 0, 0, false)))))
theorem reads_Find.mono : ∀ a0 a1 k, LeO (reads_Find.f k a0 a1) (reads_Find.f (k + 1) a0 a1) := by
 intro a0 a1 k
 unfold reads_Find.f
 repeat' first
  | (with_reducible exact reads_Right.mono _ _)
  | (with_reducible exact LeO.refl _)
  | (with_reducible exact LeO.none _)
  | (with_reducible refine LeO.ite ?_ ?_)
  | (with_reducible refine LeO.bind ?_ (fun _ => ?_))
  | exact reads_Right.mono _ _
  | exact LeO.none _
  | refine LeO.ite ?_ ?_
  | refine LeO.bind ?_ (fun _ => ?_)
set_option maxHeartbeats 8000000 in
set_option maxRecDepth 100000 in
theorem reads_Find.calls (k : Nat) (A0 : Option Addr) (c0 : Nat) (l0 : List (S57)) (a1 : Int) (r1 : Int) (r2 : Int) (r3 : Int) (r4 : Bool) (w : World) (hr0 : Kd.C k57 w A0 l0.length l0) (hc0 : l0.length ≤ c0) (h : reads_Find.f k l0 a1 = some (r1, r2, r3, r4)) :
 Calls Try.prog 54 #[.slice A0 l0.length c0, .int .i64 a1] w fun e w' => e = .returned (.tuple #[.agg #[.int .i64 r1, .int .i64 r2, .int .i64 r3], .bool r4]) ∧ Below w.heap.size w w' := by
 have hu57 := Try.underlying57
 have HR0 := Aside0.mk hr0
 have HC0 := Aside0.mk hc0
 clear hr0 hc0
 have HB := Aside0.mk (Below.refl w.heap.size w)
 have H : ((reads_place.f l0 a1).bind fun t232 => (if t232 < 0 then (some (0, 0, 0, false)) else ((reads_Right.f k l0).bind fun t233 => (if t233 = true then (if 0 ≤ t232 then (if t232 < (l0.length : Int) then (some ((rd_T57 l0 t232).f0, (rd_T57 l0 t232).f1, (rd_T57 l0 t232).f2, true)) else (none)) else (none)) else (some (0, 0, 0, false)))))) = some (r1, r2, r3, r4) := h
 clear h
 replace H := Option.bind_eq_some_iff.mp H
 obtain ⟨t232, A30, H⟩ := H
 have A3 := Aside0.mk A30
 clear A30
 by_cases c4 : t232 < 0
 · rw [if_pos c4] at H
   have c4b0 : decide (t232 < 0) = true := decide_eq_true c4
   clear c4
   simp only [Option.some.injEq, Prod.mk.injEq] at H
   obtain ⟨rfl, rfl, rfl, rfl⟩ := H
   go_enter Try.func54, Try.ntmps54
   go_wp2_with (first | ((with_reducible refine gate_dst (N := 4) rfl ?_); refine box_event ?hg (N := 4) ?hd (cs := #[.int .i64 0, .int .i64 0, .int .i64 0]) (t := 57) ?hr ?_; (case hd => rfl); (case hg => rfl); (case hr => first | (go_simp; done) | (go_simp; rfl)); intro gb231 hg w5 hbox hb; replace BK231 := Aside0.mk (hbox); replace GW231 := Aside0.mk ((by rw [hg]; exact bsz_ : w.heap.size ≤ gb231)); replace HB := Aside0.mk (bst_ hb); replace GE231 := GW231; clear hb hbox hg) | ((with_reducible refine gate_callee (f := 60) rfl ?_); refine goesL_ (some 9) rfl rfl Try.func60 (by kernel_rfl) rfl #[.slice A0 l0.length c0, .int .i64 a1] rfl mp_ ?_; (with_reducible refine (reads_place.calls _ _ l0 a1 t232 _ ?side1 ?side2 A3.out).mono ?_); (case side1 => repeat (first | exact (Kd.C_below HR0.out HB.out) | with_reducible first | refine Kd.C_alloc ?_ _ | refine Kd.C_drewN ?_ _ | refine Kd.C_drew ?_)); (case side2 => exact HC0.out); rintro e w6 ⟨rfl, hb⟩; refine ⟨_, rfl, ?_⟩; replace BK231 := bb_ BK231 hb; replace HB := Aside0.mk (below_step bsw_ hb); (try clear hb); (try clear hb2); (try clear hk); (try clear hi); have hcz7_0 : w6.cell? ⟨gb231, 0, none⟩ = some (.int .i64 0) := (blk_cell BK231.out 0).trans rfl; have hcz7_1 : w6.cell? ⟨gb231, 1, none⟩ = some (.int .i64 0) := (blk_cell BK231.out 1).trans rfl; have hcz7_2 : w6.cell? ⟨gb231, 2, none⟩ = some (.int .i64 0) := (blk_cell BK231.out 2).trans rfl; have hfz7_0 := blk_frozen BK231.out 0; have hfz7_1 := blk_frozen BK231.out 1; have hfz7_2 := blk_frozen BK231.out 2))
   refine bodyPost_ret (results_ct rfl _ _ gb231 57 #[.int .i64 0, .int .i64 0, .int .i64 0] (0, 0) _ rfl (by (with_reducible repeat (first | refine blk_drewN ?_ _ | refine blk_drew ?_ | refine blk_alloc ?_ _)); refine blk_put (cs := #[.int .i64 0, .int .i64 0, .int .i64 0]) ?_ 2 _ rfl; (with_reducible repeat (first | refine blk_drewN ?_ _ | refine blk_drew ?_ | refine blk_alloc ?_ _)); refine blk_put (cs := #[.int .i64 0, .int .i64 0, .int .i64 0]) ?_ 1 _ rfl; (with_reducible repeat (first | refine blk_drewN ?_ _ | refine blk_drew ?_ | refine blk_alloc ?_ _)); refine blk_put (cs := #[.int .i64 0, .int .i64 0, .int .i64 0]) ?_ 0 _ rfl; (with_reducible repeat (first | refine blk_drewN ?_ _ | refine blk_drew ?_ | refine blk_alloc ?_ _)); exact BK231.out) Try.underlying57 rfl (by kernel_rfl)) rfl ?_
   exact ⟨by first | rfl | (simp [errW_none, errW_some] <;> rfl) | (simp [*, errW_none, errW_some] <;> rfl), bsw_⟩
 · rw [if_neg c4] at H
   have c4b0 : decide (t232 < 0) = false := decide_eq_false c4
   clear c4
   replace H := Option.bind_eq_some_iff.mp H
   obtain ⟨t233, A80, H⟩ := H
   have A8 := Aside0.mk A80
   clear A80
   by_cases c9 : t233 = true
   · subst c9
     rw [if_pos rfl] at H
     by_cases c10 : 0 ≤ t232
     · rw [if_pos c10] at H
       have c10b0 : decide (0 ≤ t232) = true := decide_eq_true c10
       clear c10
       by_cases c11 : t232 < (l0.length : Int)
       · rw [if_pos c11] at H
         have c11b0 : decide (t232 < (l0.length : Int)) = true := decide_eq_true c11
         clear c11
         simp only [Option.some.injEq, Prod.mk.injEq] at H
         obtain ⟨rfl, rfl, rfl, rfl⟩ := H
         go_enter Try.func54, Try.ntmps54
         go_wp2_with (first | ((with_reducible refine gate_dst (N := 4) rfl ?_); refine box_event ?hg (N := 4) ?hd (cs := #[.int .i64 0, .int .i64 0, .int .i64 0]) (t := 57) ?hr ?_; (case hd => rfl); (case hg => rfl); (case hr => first | (go_simp; done) | (go_simp; rfl)); intro gb231 hg w12 hbox hb; replace BK231 := Aside0.mk (hbox); replace GW231 := Aside0.mk ((by rw [hg]; exact bsz_ : w.heap.size ≤ gb231)); replace HB := Aside0.mk (bst_ hb); replace GE231 := GW231; clear hb hbox hg) | ((with_reducible refine gate_callee (f := 60) rfl ?_); refine goesL_ (some 9) rfl rfl Try.func60 (by kernel_rfl) rfl #[.slice A0 l0.length c0, .int .i64 a1] rfl mp_ ?_; (with_reducible refine (reads_place.calls _ _ l0 a1 t232 _ ?side1 ?side2 A3.out).mono ?_); (case side1 => repeat (first | exact (Kd.C_below HR0.out HB.out) | with_reducible first | refine Kd.C_alloc ?_ _ | refine Kd.C_drewN ?_ _ | refine Kd.C_drew ?_)); (case side2 => exact HC0.out); rintro e w13 ⟨rfl, hb⟩; refine ⟨_, rfl, ?_⟩; replace BK231 := bb_ BK231 hb; replace HB := Aside0.mk (below_step bsw_ hb); (try clear hb); (try clear hb2); (try clear hk); (try clear hi)) | (go_at_call 34; (with_reducible refine (reads_Right.calls k _ _ l0 true _ ?side1 ?side2 A8.out).mono ?_); (case side1 => repeat (first | exact (Kd.C_below HR0.out HB.out) | with_reducible first | refine Kd.C_alloc ?_ _ | refine Kd.C_drewN ?_ _ | refine Kd.C_drew ?_)); (case side2 => exact HC0.out); rintro e w14 ⟨rfl, hb⟩; replace BK231 := bb_ BK231 hb; replace HB := Aside0.mk (below_step bsw_ hb); (try clear hb); (try clear hb2); (try clear hk); (try clear hi); have p234 : 0 ≤ (t232 : Int) := oda_; have q234 : t232 < (l0.length : Int) := oda_; obtain ⟨ad234, e234, hx234_0, hx234_1, hx234_2⟩ := at_T57 HR0.out t232 p234 q234; cases e234; replace hx234_0 := (HB.out.cell (World.block_lt_of_cell? w _ hx234_0)).trans hx234_0; replace hx234_1 := (HB.out.cell (World.block_lt_of_cell? w _ hx234_1)).trans hx234_1; replace hx234_2 := (HB.out.cell (World.block_lt_of_cell? w _ hx234_2)).trans hx234_2; replace p234 := eq_true p234; replace q234 := eq_true q234; have hcz15_0 : w14.cell? ⟨gb231, 0, none⟩ = some (.int .i64 0) := (blk_cell BK231.out 0).trans rfl; have hcz15_1 : w14.cell? ⟨gb231, 1, none⟩ = some (.int .i64 0) := (blk_cell BK231.out 1).trans rfl; have hcz15_2 : w14.cell? ⟨gb231, 2, none⟩ = some (.int .i64 0) := (blk_cell BK231.out 2).trans rfl; have hfz15_0 := blk_frozen BK231.out 0; have hfz15_1 := blk_frozen BK231.out 1; have hfz15_2 := blk_frozen BK231.out 2))
         refine bodyPost_ret (results_ct rfl _ _ gb231 57 #[.int .i64 ((rd_T57 l0 t232).f0), .int .i64 ((rd_T57 l0 t232).f1), .int .i64 ((rd_T57 l0 t232).f2)] (0, 0) _ rfl (by (with_reducible repeat (first | refine blk_drewN ?_ _ | refine blk_drew ?_ | refine blk_alloc ?_ _)); refine blk_put (cs := #[.int .i64 ((rd_T57 l0 t232).f0), .int .i64 ((rd_T57 l0 t232).f1), .int .i64 0]) ?_ 2 _ rfl; (with_reducible repeat (first | refine blk_drewN ?_ _ | refine blk_drew ?_ | refine blk_alloc ?_ _)); refine blk_put (cs := #[.int .i64 ((rd_T57 l0 t232).f0), .int .i64 0, .int .i64 0]) ?_ 1 _ rfl; (with_reducible repeat (first | refine blk_drewN ?_ _ | refine blk_drew ?_ | refine blk_alloc ?_ _)); refine blk_put (cs := #[.int .i64 0, .int .i64 0, .int .i64 0]) ?_ 0 _ rfl; (with_reducible repeat (first | refine blk_drewN ?_ _ | refine blk_drew ?_ | refine blk_alloc ?_ _)); exact BK231.out) Try.underlying57 rfl (by kernel_rfl)) rfl ?_
         exact ⟨by first | rfl | (simp [errW_none, errW_some] <;> rfl) | (simp [*, errW_none, errW_some] <;> rfl), bsw_⟩
       · rw [if_neg c11] at H
         exact absurd H (by simp)
     · rw [if_neg c10] at H
       exact absurd H (by simp)
   · replace c9 := Bool.eq_false_iff.mpr c9
     subst c9
     rw [if_neg (show ¬ (false = true) by decide)] at H
     simp only [Option.some.injEq, Prod.mk.injEq] at H
     obtain ⟨rfl, rfl, rfl, rfl⟩ := H
     go_enter Try.func54, Try.ntmps54
     go_wp2_with (first | ((with_reducible refine gate_dst (N := 4) rfl ?_); refine box_event ?hg (N := 4) ?hd (cs := #[.int .i64 0, .int .i64 0, .int .i64 0]) (t := 57) ?hr ?_; (case hd => rfl); (case hg => rfl); (case hr => first | (go_simp; done) | (go_simp; rfl)); intro gb231 hg w16 hbox hb; replace BK231 := Aside0.mk (hbox); replace GW231 := Aside0.mk ((by rw [hg]; exact bsz_ : w.heap.size ≤ gb231)); replace HB := Aside0.mk (bst_ hb); replace GE231 := GW231; clear hb hbox hg) | ((with_reducible refine gate_callee (f := 60) rfl ?_); refine goesL_ (some 9) rfl rfl Try.func60 (by kernel_rfl) rfl #[.slice A0 l0.length c0, .int .i64 a1] rfl mp_ ?_; (with_reducible refine (reads_place.calls _ _ l0 a1 t232 _ ?side1 ?side2 A3.out).mono ?_); (case side1 => repeat (first | exact (Kd.C_below HR0.out HB.out) | with_reducible first | refine Kd.C_alloc ?_ _ | refine Kd.C_drewN ?_ _ | refine Kd.C_drew ?_)); (case side2 => exact HC0.out); rintro e w17 ⟨rfl, hb⟩; refine ⟨_, rfl, ?_⟩; replace BK231 := bb_ BK231 hb; replace HB := Aside0.mk (below_step bsw_ hb); (try clear hb); (try clear hb2); (try clear hk); (try clear hi)) | (go_at_call 34; (with_reducible refine (reads_Right.calls k _ _ l0 false _ ?side1 ?side2 A8.out).mono ?_); (case side1 => repeat (first | exact (Kd.C_below HR0.out HB.out) | with_reducible first | refine Kd.C_alloc ?_ _ | refine Kd.C_drewN ?_ _ | refine Kd.C_drew ?_)); (case side2 => exact HC0.out); rintro e w18 ⟨rfl, hb⟩; replace BK231 := bb_ BK231 hb; replace HB := Aside0.mk (below_step bsw_ hb); (try clear hb); (try clear hb2); (try clear hk); (try clear hi); have hcz19_0 : w18.cell? ⟨gb231, 0, none⟩ = some (.int .i64 0) := (blk_cell BK231.out 0).trans rfl; have hcz19_1 : w18.cell? ⟨gb231, 1, none⟩ = some (.int .i64 0) := (blk_cell BK231.out 1).trans rfl; have hcz19_2 : w18.cell? ⟨gb231, 2, none⟩ = some (.int .i64 0) := (blk_cell BK231.out 2).trans rfl; have hfz19_0 := blk_frozen BK231.out 0; have hfz19_1 := blk_frozen BK231.out 1; have hfz19_2 := blk_frozen BK231.out 2))
     refine bodyPost_ret (results_ct rfl _ _ gb231 57 #[.int .i64 0, .int .i64 0, .int .i64 0] (0, 0) _ rfl (by (with_reducible repeat (first | refine blk_drewN ?_ _ | refine blk_drew ?_ | refine blk_alloc ?_ _)); refine blk_put (cs := #[.int .i64 0, .int .i64 0, .int .i64 0]) ?_ 2 _ rfl; (with_reducible repeat (first | refine blk_drewN ?_ _ | refine blk_drew ?_ | refine blk_alloc ?_ _)); refine blk_put (cs := #[.int .i64 0, .int .i64 0, .int .i64 0]) ?_ 1 _ rfl; (with_reducible repeat (first | refine blk_drewN ?_ _ | refine blk_drew ?_ | refine blk_alloc ?_ _)); refine blk_put (cs := #[.int .i64 0, .int .i64 0, .int .i64 0]) ?_ 0 _ rfl; (with_reducible repeat (first | refine blk_drewN ?_ _ | refine blk_drew ?_ | refine blk_alloc ?_ _)); exact BK231.out) Try.underlying57 rfl (by kernel_rfl)) rfl ?_
     exact ⟨by first | rfl | (simp [errW_none, errW_some] <;> rfl) | (simp [*, errW_none, errW_some] <;> rfl), bsw_⟩

/-! ### sleep_Watched: function 31 -/
def sleep_Watched.l0 : Nat → List (S57) → List (S62) → List Int → Int → Int → Option ((List (S62)))
 | 0, _, _, _, _, _ => none
 | k + 1, x0, x3, x9, x10, x11 => if x11 < x10 then (if 0 ≤ x11 then (if x11 < (x9.length : Int) then ((reads_Find.f k x0 (rd x9 x11)).bind fun bt239 => (if x3.length < 8796093022208 then (sleep_Watched.l0 k x0 (x3 ++ [(⟨rd x9 x11, bt239.2.2.1⟩ : S62)]) x9 x10 (wrap64 (x11 + 1))) else (none))) else (none)) else (none)) else (some x3)
def sleep_Watched.f (k : Nat) (l0 : List (S57)) : Option ((List (S62))) := (reads_Cells.f k l0).bind fun t235 => (sleep_Watched.l0 k l0 ([] : List (S62)) t235 (t235.length : Int) 0)
theorem sleep_Watched.mono_l : ∀ k, (∀ y0 y1 y2 y3 y4, LeO (sleep_Watched.l0 k y0 y1 y2 y3 y4) (sleep_Watched.l0 (k + 1) y0 y1 y2 y3 y4))
 | 0 => fun _ _ _ _ _ r h => by simp [sleep_Watched.l0] at h
 | k + 1 => by
  have ih0 := sleep_Watched.mono_l k
  · intro y0 y1 y2 y3 y4
    unfold sleep_Watched.l0
    repeat' first
    | (with_reducible exact ih0 _ _ _ _ _)
    | (with_reducible exact reads_Cells.mono _ _)
    | (with_reducible exact reads_Find.mono _ _ _)
    | (with_reducible exact LeO.refl _)
    | (with_reducible exact LeO.none _)
    | (with_reducible refine LeO.ite ?_ ?_)
    | (with_reducible refine LeO.bind ?_ (fun _ => ?_))
    | exact ih0 _ _ _ _ _
    | exact reads_Cells.mono _ _
    | exact reads_Find.mono _ _ _
    | exact LeO.none _
    | refine LeO.ite ?_ ?_
    | refine LeO.bind ?_ (fun _ => ?_)
theorem sleep_Watched.mono : ∀ a0 k, LeO (sleep_Watched.f k a0) (sleep_Watched.f (k + 1) a0) := by
 intro a0 k
 have ih0 := sleep_Watched.mono_l k
 unfold sleep_Watched.f
 repeat' first
  | (with_reducible exact ih0 _ _ _ _ _)
  | (with_reducible exact reads_Cells.mono _ _)
  | (with_reducible exact reads_Find.mono _ _ _)
  | (with_reducible exact LeO.refl _)
  | (with_reducible exact LeO.none _)
  | (with_reducible refine LeO.ite ?_ ?_)
  | (with_reducible refine LeO.bind ?_ (fun _ => ?_))
  | exact ih0 _ _ _ _ _
  | exact reads_Cells.mono _ _
  | exact reads_Find.mono _ _ _
  | exact LeO.none _
  | refine LeO.ite ?_ ?_
  | refine LeO.bind ?_ (fun _ => ?_)
set_option maxHeartbeats 8000000 in
set_option maxRecDepth 100000 in
theorem sleep_Watched.calls (k : Nat) (A0 : Option Addr) (c0 : Nat) (l0 : List (S57)) (r : List (S62)) (w : World) (hr0 : Kd.C k57 w A0 l0.length l0) (hc0 : l0.length ≤ c0) (h : sleep_Watched.f k l0 = some r) :
 Calls Try.prog 31 #[.slice A0 l0.length c0] w fun e w' => ∃ v0_ : Value, e = .returned (v0_) ∧ Kd.R k62 62 w' w.heap.size (fun _ => True) v0_ r ∧ Below w.heap.size w w' := by
 have hu57 := Try.underlying57
 have hu62 := Try.underlying62
 have HR0 := Aside0.mk hr0
 have HC0 := Aside0.mk hc0
 clear hr0 hc0
 have HB := Aside0.mk (Below.refl w.heap.size w)
 have H : ((reads_Cells.f k l0).bind fun t235 => (sleep_Watched.l0 k l0 ([] : List (S62)) t235 (t235.length : Int) 0)) = some r := h
 clear h
 replace H := Option.bind_eq_some_iff.mp H
 obtain ⟨t235, A20, H⟩ := H
 have A2 := Aside0.mk A20
 clear A20
 have H' := Aside0.mk H
 clear H
 go_enter Try.func31, Try.ntmps31
 go_wp2_with (first | ((with_reducible refine gate_callee (f := 53) rfl ?_); refine goesL_ (some 9) rfl rfl Try.func53 (by kernel_rfl) rfl #[.slice A0 l0.length c0] rfl mp_ ?_; (with_reducible refine (reads_Cells.calls k _ _ l0 t235 _ ?side1 ?side2 A2.out).mono ?_); (case side1 => repeat (first | exact HR0.out | with_reducible first | refine Kd.C_alloc ?_ _ | refine Kd.C_drewN ?_ _ | refine Kd.C_drew ?_)); (case side2 => exact HC0.out); rintro e w3 ⟨v236, rfl, ho0, hb⟩; refine ⟨_, rfl, ?_⟩; replace HO237 := Aside0.mk (Kd.R_lower ho0 bsz_); replace HB := Aside0.mk (bst_ hb); (try clear hb); (try clear hb2); (try clear hk); (try clear hi); (try clear ho0); obtain ⟨Ao4, co4, eo4⟩ := Kd.R_slice HO237.out; subst eo4))
 go_loopg [3, 11] k (fun kq v3 v11 w' => ∃ (x3_1 : List (S62)) (x11_1 : Int), v11 = .int .i64 x11_1 ∧ Aside0 (sleep_Watched.l0 kq l0 x3_1 t235 (t235.length : Int) x11_1 = some r) ∧ Aside0 (kq ≤ k) ∧ Aside0 (Kd.R k62 62 w' w.heap.size (fun _ => True) v3 x3_1) ∧ Aside0 (Kd.R (Kd.int .i64) 3 w' w.heap.size (fun _ => True) (.slice Ao4 t235.length co4) t235) ∧ Aside0 (Below w.heap.size w w'))
 case atStart => exact ⟨(([] : List (S62))), (0), (by first | rfl | (simp; done) | (simp [*]; done)), H', ⟨Nat.le_refl _⟩, ⟨by first | exact Kd.R_nil _ _ _ _ _ | exact Kd.N_nil _ _ _ _ _ | exact Kd.V_nil _ _ _ _ _ | exact Kd.Q_nil _ _ _ _ _ | exact Kd.S_nil _ _ _ _ _⟩, ⟨rq_ HO237⟩, ⟨bsv_⟩⟩
 case round =>
  clear H'
  try clear p2
  try clear c3
  obtain ⟨x3_1, x11_1, rfl, HA, HK1, HO_3, HO_9, HB⟩ := hrel
  cases gk with
  | zero => exact absurd HA.out (by simp [sleep_Watched.l0])
  | succ k1 =>
   have H := HA.out
   clear HA
   simp only [sleep_Watched.l0] at H
   by_cases c5 : x11_1 < (t235.length : Int)
   · rw [if_pos c5] at H
     have c5b0 : decide (x11_1 < (t235.length : Int)) = true := decide_eq_true c5
     clear c5
     by_cases c6 : 0 ≤ x11_1
     · rw [if_pos c6] at H
       have c6b0 : decide (0 ≤ x11_1) = true := decide_eq_true c6
       clear c6
       by_cases c7 : x11_1 < (t235.length : Int)
       · rw [if_pos c7] at H
         have c7b0 : decide (x11_1 < (t235.length : Int)) = true := decide_eq_true c7
         clear c7
         replace H := Option.bind_eq_some_iff.mp H
         obtain ⟨⟨t239, t240, t241, t242⟩, A80, H⟩ := H
         have A8 := Aside0.mk A80
         clear A80
         by_cases c9 : x3_1.length < 8796093022208
         · rw [if_pos c9] at H
           have LMc9 := Aside0.mk c9
           clear c9
           obtain ⟨y244, hy244⟩ : ∃ y_ : List (S62), y_ = (x3_1 ++ [(⟨rd t235 x11_1, t241⟩ : S62)]) := ⟨_, rfl⟩
           replace H : (sleep_Watched.l0 k1 l0 y244 t235 (t235.length : Int) (wrap64 (x11_1 + 1))) = some r := by first | (rw [hy244]; with_reducible exact H) | (have H2_ := (Option.bind_some _ _).symm.trans H; rw [hy244]; with_reducible exact H2_) | (have H2_ := (Option.bind_some _ _).symm.trans H; with_reducible exact H2_) | with_reducible exact H | (rw [hy244]; exact H) | exact H
           have Ny244 := Aside0.mk hy244
           clear hy244
           have H' := Aside0.mk H
           clear H
           have p238 : 0 ≤ (x11_1 : Int) := oda_
           have q238 : x11_1 < (t235.length : Int) := oda_
           obtain ⟨ad238, e238, hx238_0⟩ := Kd.at_int (Kd.R_reads' HO_9.out).2.2 x11_1 p238 q238
           cases e238
           replace p238 := eq_true p238
           replace q238 := eq_true q238
           go_wp2_with (first | ((with_reducible refine gate_callee (f := 54) rfl ?_); refine goesL_ (some 18) rfl rfl Try.func54 (by kernel_rfl) rfl #[.slice A0 l0.length c0, .int .i64 (rd t235 x11_1)] rfl mp_ ?_; (with_reducible refine (reads_Find.calls k1 _ _ l0 (rd t235 x11_1) t239 t240 t241 t242 _ ?side1 ?side2 A8.out).mono ?_); (case side1 => repeat (first | exact (Kd.C_below HR0.out HB.out) | with_reducible first | refine Kd.C_alloc ?_ _ | refine Kd.C_drewN ?_ _ | refine Kd.C_drew ?_)); (case side2 => exact HC0.out); rintro e w10 ⟨rfl, hb⟩; refine ⟨_, rfl, ?_⟩; replace HO_3 := rb_ HO_3 hb; replace HO_9 := rb_ HO_9 hb; replace HB := Aside0.mk (bst_ hb); (try clear hb); (try clear hb2); (try clear hk); (try clear hi)) | ((with_reducible refine gate_dst (N := 6) rfl ?_); refine box_event ?hg (N := 6) ?hd (cs := #[.int .i64 0, .int .i64 0, .int .i64 0]) (t := 57) ?hr ?_; (case hd => rfl); (case hg => rfl); (case hr => first | (go_simp; done) | (go_simp; rfl)); intro gb243 hg w11 hbox hb; replace HO_3 := rb_ HO_3 hb; replace HO_9 := rb_ HO_9 hb; replace BK243 := Aside0.mk (hbox); replace GW243 := Aside0.mk ((by rw [hg]; exact bsz_ : w.heap.size ≤ gb243)); replace HB := Aside0.mk (bst_ hb); replace GE243 := GW243; clear hb hbox hg; have hcz12_0 : w11.cell? ⟨gb243, 0, none⟩ = some (.int .i64 0) := (blk_cell BK243.out 0).trans rfl; have hcz12_1 : w11.cell? ⟨gb243, 1, none⟩ = some (.int .i64 0) := (blk_cell BK243.out 1).trans rfl; have hcz12_2 : w11.cell? ⟨gb243, 2, none⟩ = some (.int .i64 0) := (blk_cell BK243.out 2).trans rfl; have hfz12_0 := blk_frozen BK243.out 0; have hfz12_1 := blk_frozen BK243.out 1; have hfz12_2 := blk_frozen BK243.out 2) | ((with_reducible refine gate_builtin (b := .append) (xs := #[.tmp 21, .tmp 26]) rfl ?_); at_builtin; refine Kd.R_append k62 (w0 := w) w.heap.size rfl (.tmp 21) (.tmp 26) 23 62 (.agg #[(.int .i64 0), (.int .i64 0)]) 16 rfl Try.underlying23 info62 rfl (by decide) (by omega) u3 x3_1 (⟨rd t235 x11_1, t241⟩ : S62) [.int .i64 (rd t235 x11_1), .int .i64 t241] (fun _ => True) (fun _ => False) rfl (by first | (go_simp; done) | (go_simp; rfl)) ?aP (fun _ hk => hk.elim) ?aF ?aO ?aB ?aS ?aL ?_; (case aP => exact k62_mkM _ _ _ (⟨rd t235 x11_1, t241⟩ : S62)); (case aB => exact bsw_); (case aF => exact (fun _ _ => trivial)); (case aO => exact (by (with_reducible repeat (first | apply Kd.R_alloc | apply Kd.R_drewN | apply Kd.R_drew)); exact Kd.R_mono (Kd.R_far (p := ⟨gb243, 2, none⟩) (Kd.R_far (p := ⟨gb243, 1, none⟩) (Kd.R_far (p := ⟨gb243, 0, none⟩) (Kd.R_types HO_3.out BK243.out (by decide)) (fun _ hk => hk.2) (.int .i64 t239)) (fun _ hk => hk.2) (.int .i64 t240)) (fun _ hk => hk.2) (.int .i64 t241)) (fun _ hk => trivial))); (case aS => exact (below_size bsw_)); (case aL => have := LMc9.out; omega); intro v245 w13 ho hb hg hat; rw [← Ny244.out] at ho; replace HO_9 := Aside0.mk (Kd.R_over' (by (with_reducible repeat (first | apply Kd.R_alloc | apply Kd.R_drewN | apply Kd.R_drew)); exact (Kd.R_mono (Kd.R_far (p := ⟨gb243, 2, none⟩) (Kd.R_far (p := ⟨gb243, 1, none⟩) (Kd.R_far (p := ⟨gb243, 0, none⟩) (Kd.R_types HO_9.out BK243.out (by decide)) (fun _ hk => hk.2) (.int .i64 t239)) (fun _ hk => hk.2) (.int .i64 t240)) (fun _ hk => hk.2) (.int .i64 t241)) (fun _ h_ => h_.1))) (Kd.R_typed (by (with_reducible repeat (first | apply Kd.R_alloc | apply Kd.R_drewN | apply Kd.R_drew)); exact (Kd.R_mono (Kd.R_far (p := ⟨gb243, 2, none⟩) (Kd.R_far (p := ⟨gb243, 1, none⟩) (Kd.R_far (p := ⟨gb243, 0, none⟩) (Kd.R_types HO_3.out BK243.out (by decide)) (fun _ hk => hk.2) (.int .i64 t239)) (fun _ hk => hk.2) (.int .i64 t240)) (fun _ hk => hk.2) (.int .i64 t241)) (fun _ h_ => h_.1)))) (by decide) hg); replace BK243 := Aside0.mk (blk_grown (g := gb243) (o := .cells #[.int .i64 t239, .int .i64 t240, .int .i64 t241] 57 (0, 0)) (by (with_reducible repeat (first | refine blk_drewN ?_ _ | refine blk_drew ?_ | refine blk_alloc ?_ _)); refine blk_put (cs := #[.int .i64 t239, .int .i64 t240, .int .i64 0]) ?_ 2 _ rfl; (with_reducible repeat (first | refine blk_drewN ?_ _ | refine blk_drew ?_ | refine blk_alloc ?_ _)); refine blk_put (cs := #[.int .i64 t239, .int .i64 0, .int .i64 0]) ?_ 1 _ rfl; (with_reducible repeat (first | refine blk_drewN ?_ _ | refine blk_drew ?_ | refine blk_alloc ?_ _)); refine blk_put (cs := #[.int .i64 0, .int .i64 0, .int .i64 0]) ?_ 0 _ rfl; (with_reducible repeat (first | refine blk_drewN ?_ _ | refine blk_drew ?_ | refine blk_alloc ?_ _)); exact BK243.out) hg (Kd.R_ne HO_3.out BK243.out (by decide))); replace HB := Aside0.mk (hb); replace HO246 := Aside0.mk (ho); clear HO_3; clear ho hb hg hat))
           go_roundg k1
           case measure => have := HK1.out; omega
           case rel => exact ⟨(y244), (wrap64 (x11_1 + 1)), (by first | rfl | (simp; done) | (simp [*]; done)), H', ⟨by have := HK1.out; omega⟩, ⟨rq_ HO246⟩, ⟨rq_ HO_9⟩, ⟨bsw_⟩⟩
         · rw [if_neg c9] at H
           exact absurd H (by simp)
       · rw [if_neg c7] at H
         exact absurd H (by simp)
     · rw [if_neg c6] at H
       exact absurd H (by simp)
   · rw [if_neg c5] at H
     have c5b0 : decide (x11_1 < (t235.length : Int)) = false := decide_eq_false c5
     clear c5
     obtain rfl := Option.some.inj H
     go_wp2
     go_ret
     exact ⟨_, by first | rfl | (simp [errW_none, errW_some] <;> rfl) | (simp [*, errW_none, errW_some] <;> rfl), rq_ HO_3, bsv_⟩

/-! ### handshakerlaw15_awake: function 15 -/
def handshakerlaw15_awake.f (k : Nat)  : Option (Bool) := (some (([(⟨2, 5⟩ : S62)] : List (S62)) : List (S62))).bind fun y247 => ((sleep_Add.f k ([] : List (S26)) 3 2 0 y247 ([] : List (S80))).bind fun bt258 => ((sleep_Add.f k bt258.1 1 3 0 (([(⟨4, 0⟩ : S62)] : List (S62))) (([(⟨2, 4⟩ : S80)] : List (S80)))).bind fun bt262 => ((sleep_Add.f k bt262.1 3 2 0 y247 ([] : List (S80))).bind fun bt266 => ((sleep_Find.f k bt262.1 3).bind fun bt270 => ((sleep_Drop.f k bt262.1 (([3] : List Int))).bind fun bt284 => ((sleep_Drop.f k bt262.1 (([2] : List Int))).bind fun bt291 => (if bt258.2 = 0 then (if bt262.2 = 0 then (if (bt262.1.length : Int) = 2 then (if 0 < (bt262.1.length : Int) then (if ((rd_T26 bt262.1 0).f0) = 1 then (if bt266.2 = 9 then (if bt270.2.2.2.2.2 = 0 then (if (bt270.2.2.2.1.length : Int) = 1 then (if bt284.2 = 0 then (if (bt284.1.length : Int) = 1 then (if bt291.2 = 3 then ((sleep_Of.f k bt262.1 (([4, 2] : List Int))).bind fun t299 => ((handshakerref03_Numbers.f k t299 (([1, 3] : List Int))).bind fun t305 => (if t305 = true then ((sleep_Watched.f k (([(⟨9, 0, 1⟩ : S57)] : List (S57)))).bind fun t309 => (if (t309.length : Int) = 1 then ((sleep_Right.f k bt262.1).bind fun t312 => (if t312 = true then (some true) else (some false))) else (some false))) else (some false)))) else (some false)) else (some false)) else (some false)) else (some false)) else (some false)) else (some false)) else (some false)) else (none)) else (some false)) else (some false)) else (some false))))))))
theorem handshakerlaw15_awake.mono : ∀ k, LeO (handshakerlaw15_awake.f k ) (handshakerlaw15_awake.f (k + 1) ) := by
 intro  k
 unfold handshakerlaw15_awake.f
 repeat' first
  | (with_reducible exact handshakerref03_Numbers.mono _ _ _)
  | (with_reducible exact sleep_Add.mono _ _ _ _ _ _ _)
  | (with_reducible exact sleep_Drop.mono _ _ _)
  | (with_reducible exact sleep_Find.mono _ _ _)
  | (with_reducible exact sleep_Of.mono _ _ _)
  | (with_reducible exact sleep_Right.mono _ _)
  | (with_reducible exact sleep_Watched.mono _ _)
  | (with_reducible exact LeO.refl _)
  | (with_reducible exact LeO.none _)
  | (with_reducible refine LeO.ite ?_ ?_)
  | (with_reducible refine LeO.bind ?_ (fun _ => ?_))
  | exact handshakerref03_Numbers.mono _ _ _
  | exact sleep_Add.mono _ _ _ _ _ _ _
  | exact sleep_Drop.mono _ _ _
  | exact sleep_Find.mono _ _ _
  | exact sleep_Of.mono _ _ _
  | exact sleep_Right.mono _ _
  | exact sleep_Watched.mono _ _
  | exact LeO.none _
  | refine LeO.ite ?_ ?_
  | refine LeO.bind ?_ (fun _ => ?_)
set_option maxHeartbeats 8000000 in
set_option maxRecDepth 100000 in
theorem handshakerlaw15_awake.callsT (k : Nat)  (r : Bool) (w : World) (HT : Aside0 (r = true)) (h : handshakerlaw15_awake.f k  = some r) :
 Calls Try.prog 15 #[] w fun e w' => e = .returned (.bool r) ∧ Below w.heap.size w w' := by
 have hu62 := Try.underlying62
 have hu26 := Try.underlying26
 have hu80 := Try.underlying80
 have hu57 := Try.underlying57
 have HB := Aside0.mk (Below.refl w.heap.size w)
 have H : ((some (([(⟨2, 5⟩ : S62)] : List (S62)) : List (S62))).bind fun y247 => ((sleep_Add.f k ([] : List (S26)) 3 2 0 y247 ([] : List (S80))).bind fun bt258 => ((sleep_Add.f k bt258.1 1 3 0 (([(⟨4, 0⟩ : S62)] : List (S62))) (([(⟨2, 4⟩ : S80)] : List (S80)))).bind fun bt262 => ((sleep_Add.f k bt262.1 3 2 0 y247 ([] : List (S80))).bind fun bt266 => ((sleep_Find.f k bt262.1 3).bind fun bt270 => ((sleep_Drop.f k bt262.1 (([3] : List Int))).bind fun bt284 => ((sleep_Drop.f k bt262.1 (([2] : List Int))).bind fun bt291 => (if bt258.2 = 0 then (if bt262.2 = 0 then (if (bt262.1.length : Int) = 2 then (if 0 < (bt262.1.length : Int) then (if ((rd_T26 bt262.1 0).f0) = 1 then (if bt266.2 = 9 then (if bt270.2.2.2.2.2 = 0 then (if (bt270.2.2.2.1.length : Int) = 1 then (if bt284.2 = 0 then (if (bt284.1.length : Int) = 1 then (if bt291.2 = 3 then ((sleep_Of.f k bt262.1 (([4, 2] : List Int))).bind fun t299 => ((handshakerref03_Numbers.f k t299 (([1, 3] : List Int))).bind fun t305 => (if t305 = true then ((sleep_Watched.f k (([(⟨9, 0, 1⟩ : S57)] : List (S57)))).bind fun t309 => (if (t309.length : Int) = 1 then ((sleep_Right.f k bt262.1).bind fun t312 => (if t312 = true then (some true) else (some false))) else (some false))) else (some false)))) else (some false)) else (some false)) else (some false)) else (some false)) else (some false)) else (some false)) else (some false)) else (none)) else (some false)) else (some false)) else (some false))))))))) = some r := h
 clear h
 obtain ⟨y247, hy247⟩ : ∃ y_ : List (S62), y_ = (([(⟨2, 5⟩ : S62)] : List (S62))) := ⟨_, rfl⟩
 replace H : ((sleep_Add.f k ([] : List (S26)) 3 2 0 y247 ([] : List (S80))).bind fun bt258 => ((sleep_Add.f k bt258.1 1 3 0 (([(⟨4, 0⟩ : S62)] : List (S62))) (([(⟨2, 4⟩ : S80)] : List (S80)))).bind fun bt262 => ((sleep_Add.f k bt262.1 3 2 0 y247 ([] : List (S80))).bind fun bt266 => ((sleep_Find.f k bt262.1 3).bind fun bt270 => ((sleep_Drop.f k bt262.1 (([3] : List Int))).bind fun bt284 => ((sleep_Drop.f k bt262.1 (([2] : List Int))).bind fun bt291 => (if bt258.2 = 0 then (if bt262.2 = 0 then (if (bt262.1.length : Int) = 2 then (if 0 < (bt262.1.length : Int) then (if ((rd_T26 bt262.1 0).f0) = 1 then (if bt266.2 = 9 then (if bt270.2.2.2.2.2 = 0 then (if (bt270.2.2.2.1.length : Int) = 1 then (if bt284.2 = 0 then (if (bt284.1.length : Int) = 1 then (if bt291.2 = 3 then ((sleep_Of.f k bt262.1 (([4, 2] : List Int))).bind fun t299 => ((handshakerref03_Numbers.f k t299 (([1, 3] : List Int))).bind fun t305 => (if t305 = true then ((sleep_Watched.f k (([(⟨9, 0, 1⟩ : S57)] : List (S57)))).bind fun t309 => (if (t309.length : Int) = 1 then ((sleep_Right.f k bt262.1).bind fun t312 => (if t312 = true then (some true) else (some false))) else (some false))) else (some false)))) else (some false)) else (some false)) else (some false)) else (some false)) else (some false)) else (some false)) else (some false)) else (none)) else (some false)) else (some false)) else (some false)))))))) = some r := by first | (rw [hy247]; with_reducible exact H) | (have H2_ := (Option.bind_some _ _).symm.trans H; rw [hy247]; with_reducible exact H2_) | (have H2_ := (Option.bind_some _ _).symm.trans H; with_reducible exact H2_) | with_reducible exact H | (rw [hy247]; exact H) | exact H
 have Ny247 := Aside0.mk hy247
 clear hy247
 obtain ⟨y251, hy251⟩ : ∃ y_ : List (S62), y_ = (([(⟨4, 0⟩ : S62)] : List (S62))) := ⟨_, rfl⟩
 replace H : ((sleep_Add.f k ([] : List (S26)) 3 2 0 y247 ([] : List (S80))).bind fun bt258 => ((sleep_Add.f k bt258.1 1 3 0 y251 (([(⟨2, 4⟩ : S80)] : List (S80)))).bind fun bt262 => ((sleep_Add.f k bt262.1 3 2 0 y247 ([] : List (S80))).bind fun bt266 => ((sleep_Find.f k bt262.1 3).bind fun bt270 => ((sleep_Drop.f k bt262.1 (([3] : List Int))).bind fun bt284 => ((sleep_Drop.f k bt262.1 (([2] : List Int))).bind fun bt291 => (if bt258.2 = 0 then (if bt262.2 = 0 then (if (bt262.1.length : Int) = 2 then (if 0 < (bt262.1.length : Int) then (if ((rd_T26 bt262.1 0).f0) = 1 then (if bt266.2 = 9 then (if bt270.2.2.2.2.2 = 0 then (if (bt270.2.2.2.1.length : Int) = 1 then (if bt284.2 = 0 then (if (bt284.1.length : Int) = 1 then (if bt291.2 = 3 then ((sleep_Of.f k bt262.1 (([4, 2] : List Int))).bind fun t299 => ((handshakerref03_Numbers.f k t299 (([1, 3] : List Int))).bind fun t305 => (if t305 = true then ((sleep_Watched.f k (([(⟨9, 0, 1⟩ : S57)] : List (S57)))).bind fun t309 => (if (t309.length : Int) = 1 then ((sleep_Right.f k bt262.1).bind fun t312 => (if t312 = true then (some true) else (some false))) else (some false))) else (some false)))) else (some false)) else (some false)) else (some false)) else (some false)) else (some false)) else (some false)) else (some false)) else (none)) else (some false)) else (some false)) else (some false)))))))) = some r := by first | (rw [hy251]; with_reducible exact H) | (have H2_ := (Option.bind_some _ _).symm.trans H; rw [hy251]; with_reducible exact H2_) | (have H2_ := (Option.bind_some _ _).symm.trans H; with_reducible exact H2_) | with_reducible exact H | (rw [hy251]; exact H) | exact H
 have Ny251 := Aside0.mk hy251
 clear hy251
 obtain ⟨y254, hy254⟩ : ∃ y_ : List (S80), y_ = (([(⟨2, 4⟩ : S80)] : List (S80))) := ⟨_, rfl⟩
 replace H : ((sleep_Add.f k ([] : List (S26)) 3 2 0 y247 ([] : List (S80))).bind fun bt258 => ((sleep_Add.f k bt258.1 1 3 0 y251 y254).bind fun bt262 => ((sleep_Add.f k bt262.1 3 2 0 y247 ([] : List (S80))).bind fun bt266 => ((sleep_Find.f k bt262.1 3).bind fun bt270 => ((sleep_Drop.f k bt262.1 (([3] : List Int))).bind fun bt284 => ((sleep_Drop.f k bt262.1 (([2] : List Int))).bind fun bt291 => (if bt258.2 = 0 then (if bt262.2 = 0 then (if (bt262.1.length : Int) = 2 then (if 0 < (bt262.1.length : Int) then (if ((rd_T26 bt262.1 0).f0) = 1 then (if bt266.2 = 9 then (if bt270.2.2.2.2.2 = 0 then (if (bt270.2.2.2.1.length : Int) = 1 then (if bt284.2 = 0 then (if (bt284.1.length : Int) = 1 then (if bt291.2 = 3 then ((sleep_Of.f k bt262.1 (([4, 2] : List Int))).bind fun t299 => ((handshakerref03_Numbers.f k t299 (([1, 3] : List Int))).bind fun t305 => (if t305 = true then ((sleep_Watched.f k (([(⟨9, 0, 1⟩ : S57)] : List (S57)))).bind fun t309 => (if (t309.length : Int) = 1 then ((sleep_Right.f k bt262.1).bind fun t312 => (if t312 = true then (some true) else (some false))) else (some false))) else (some false)))) else (some false)) else (some false)) else (some false)) else (some false)) else (some false)) else (some false)) else (some false)) else (none)) else (some false)) else (some false)) else (some false)))))))) = some r := by first | (rw [hy254]; with_reducible exact H) | (have H2_ := (Option.bind_some _ _).symm.trans H; rw [hy254]; with_reducible exact H2_) | (have H2_ := (Option.bind_some _ _).symm.trans H; with_reducible exact H2_) | with_reducible exact H | (rw [hy254]; exact H) | exact H
 have Ny254 := Aside0.mk hy254
 clear hy254
 replace H := Option.bind_eq_some_iff.mp H
 obtain ⟨⟨t258, t261⟩, A10, H⟩ := H
 have A1 := Aside0.mk A10
 clear A10
 replace H := Option.bind_eq_some_iff.mp H
 obtain ⟨⟨t262, t265⟩, A20, H⟩ := H
 have A2 := Aside0.mk A20
 clear A20
 replace H := Option.bind_eq_some_iff.mp H
 obtain ⟨⟨t266, t269⟩, A30, H⟩ := H
 have A3 := Aside0.mk A30
 clear A30
 replace H := Option.bind_eq_some_iff.mp H
 obtain ⟨⟨t270, t271, t272, t273, t276, t279⟩, A40, H⟩ := H
 have A4 := Aside0.mk A40
 clear A40
 obtain ⟨y281, hy281⟩ : ∃ y_ : List Int, y_ = (([3] : List Int)) := ⟨_, rfl⟩
 replace H : ((sleep_Drop.f k t262 y281).bind fun bt284 => ((sleep_Drop.f k t262 (([2] : List Int))).bind fun bt291 => (if t261 = 0 then (if t265 = 0 then (if (t262.length : Int) = 2 then (if 0 < (t262.length : Int) then (if ((rd_T26 t262 0).f0) = 1 then (if t269 = 9 then (if t279 = 0 then (if (t273.length : Int) = 1 then (if bt284.2 = 0 then (if (bt284.1.length : Int) = 1 then (if bt291.2 = 3 then ((sleep_Of.f k t262 (([4, 2] : List Int))).bind fun t299 => ((handshakerref03_Numbers.f k t299 (([1, 3] : List Int))).bind fun t305 => (if t305 = true then ((sleep_Watched.f k (([(⟨9, 0, 1⟩ : S57)] : List (S57)))).bind fun t309 => (if (t309.length : Int) = 1 then ((sleep_Right.f k t262).bind fun t312 => (if t312 = true then (some true) else (some false))) else (some false))) else (some false)))) else (some false)) else (some false)) else (some false)) else (some false)) else (some false)) else (some false)) else (some false)) else (none)) else (some false)) else (some false)) else (some false)))) = some r := by first | (rw [hy281]; with_reducible exact H) | (have H2_ := (Option.bind_some _ _).symm.trans H; rw [hy281]; with_reducible exact H2_) | (have H2_ := (Option.bind_some _ _).symm.trans H; with_reducible exact H2_) | with_reducible exact H | (rw [hy281]; exact H) | exact H
 have Ny281 := Aside0.mk hy281
 clear hy281
 replace H := Option.bind_eq_some_iff.mp H
 obtain ⟨⟨t284, t287⟩, A50, H⟩ := H
 have A5 := Aside0.mk A50
 clear A50
 obtain ⟨y288, hy288⟩ : ∃ y_ : List Int, y_ = (([2] : List Int)) := ⟨_, rfl⟩
 replace H : ((sleep_Drop.f k t262 y288).bind fun bt291 => (if t261 = 0 then (if t265 = 0 then (if (t262.length : Int) = 2 then (if 0 < (t262.length : Int) then (if ((rd_T26 t262 0).f0) = 1 then (if t269 = 9 then (if t279 = 0 then (if (t273.length : Int) = 1 then (if t287 = 0 then (if (t284.length : Int) = 1 then (if bt291.2 = 3 then ((sleep_Of.f k t262 (([4, 2] : List Int))).bind fun t299 => ((handshakerref03_Numbers.f k t299 (([1, 3] : List Int))).bind fun t305 => (if t305 = true then ((sleep_Watched.f k (([(⟨9, 0, 1⟩ : S57)] : List (S57)))).bind fun t309 => (if (t309.length : Int) = 1 then ((sleep_Right.f k t262).bind fun t312 => (if t312 = true then (some true) else (some false))) else (some false))) else (some false)))) else (some false)) else (some false)) else (some false)) else (some false)) else (some false)) else (some false)) else (some false)) else (none)) else (some false)) else (some false)) else (some false))) = some r := by first | (rw [hy288]; with_reducible exact H) | (have H2_ := (Option.bind_some _ _).symm.trans H; rw [hy288]; with_reducible exact H2_) | (have H2_ := (Option.bind_some _ _).symm.trans H; with_reducible exact H2_) | with_reducible exact H | (rw [hy288]; exact H) | exact H
 have Ny288 := Aside0.mk hy288
 clear hy288
 replace H := Option.bind_eq_some_iff.mp H
 obtain ⟨⟨t291, t294⟩, A60, H⟩ := H
 have A6 := Aside0.mk A60
 clear A60
 by_cases c7 : t261 = 0
 · rw [if_pos c7] at H
   have c7b0 : (t261 == 0) = true := beq_iff_eq.mpr c7
   have c7b1 : (t261 != 0) = false := bne_eq_false_iff_eq.mpr c7
   clear c7
   by_cases c8 : t265 = 0
   · rw [if_pos c8] at H
     have c8b0 : (t265 == 0) = true := beq_iff_eq.mpr c8
     have c8b1 : (t265 != 0) = false := bne_eq_false_iff_eq.mpr c8
     clear c8
     by_cases c9 : (t262.length : Int) = 2
     · rw [if_pos c9] at H
       have c9b0 : ((t262.length : Int) == 2) = true := beq_iff_eq.mpr c9
       have c9b1 : ((t262.length : Int) != 2) = false := bne_eq_false_iff_eq.mpr c9
       clear c9
       by_cases c10 : 0 < (t262.length : Int)
       · rw [if_pos c10] at H
         have c10b0 : decide (0 < (t262.length : Int)) = true := decide_eq_true c10
         have c10b1 : decide (0 < t262.length) = true := decide_eq_true (by omega)
         clear c10
         by_cases c11 : ((rd_T26 t262 0).f0) = 1
         · rw [if_pos c11] at H
           have c11b0 : (((rd_T26 t262 0).f0) == 1) = true := beq_iff_eq.mpr c11
           have c11b1 : (((rd_T26 t262 0).f0) != 1) = false := bne_eq_false_iff_eq.mpr c11
           clear c11
           by_cases c12 : t269 = 9
           · rw [if_pos c12] at H
             have c12b0 : (t269 == 9) = true := beq_iff_eq.mpr c12
             have c12b1 : (t269 != 9) = false := bne_eq_false_iff_eq.mpr c12
             clear c12
             by_cases c13 : t279 = 0
             · rw [if_pos c13] at H
               have c13b0 : (t279 == 0) = true := beq_iff_eq.mpr c13
               have c13b1 : (t279 != 0) = false := bne_eq_false_iff_eq.mpr c13
               clear c13
               by_cases c14 : (t273.length : Int) = 1
               · rw [if_pos c14] at H
                 have c14b0 : ((t273.length : Int) == 1) = true := beq_iff_eq.mpr c14
                 have c14b1 : ((t273.length : Int) != 1) = false := bne_eq_false_iff_eq.mpr c14
                 clear c14
                 by_cases c15 : t287 = 0
                 · rw [if_pos c15] at H
                   have c15b0 : (t287 == 0) = true := beq_iff_eq.mpr c15
                   have c15b1 : (t287 != 0) = false := bne_eq_false_iff_eq.mpr c15
                   clear c15
                   by_cases c16 : (t284.length : Int) = 1
                   · rw [if_pos c16] at H
                     have c16b0 : ((t284.length : Int) == 1) = true := beq_iff_eq.mpr c16
                     have c16b1 : ((t284.length : Int) != 1) = false := bne_eq_false_iff_eq.mpr c16
                     clear c16
                     by_cases c17 : t294 = 3
                     · rw [if_pos c17] at H
                       have c17b0 : (t294 == 3) = true := beq_iff_eq.mpr c17
                       have c17b1 : (t294 != 3) = false := bne_eq_false_iff_eq.mpr c17
                       clear c17
                       obtain ⟨y296, hy296⟩ : ∃ y_ : List Int, y_ = (([4, 2] : List Int)) := ⟨_, rfl⟩
                       replace H : ((sleep_Of.f k t262 y296).bind fun t299 => ((handshakerref03_Numbers.f k t299 (([1, 3] : List Int))).bind fun t305 => (if t305 = true then ((sleep_Watched.f k (([(⟨9, 0, 1⟩ : S57)] : List (S57)))).bind fun t309 => (if (t309.length : Int) = 1 then ((sleep_Right.f k t262).bind fun t312 => (if t312 = true then (some true) else (some false))) else (some false))) else (some false)))) = some r := by first | (rw [hy296]; with_reducible exact H) | (have H2_ := (Option.bind_some _ _).symm.trans H; rw [hy296]; with_reducible exact H2_) | (have H2_ := (Option.bind_some _ _).symm.trans H; with_reducible exact H2_) | with_reducible exact H | (rw [hy296]; exact H) | exact H
                       have Ny296 := Aside0.mk hy296
                       clear hy296
                       replace H := Option.bind_eq_some_iff.mp H
                       obtain ⟨t299, A180, H⟩ := H
                       have A18 := Aside0.mk A180
                       clear A180
                       obtain ⟨y302, hy302⟩ : ∃ y_ : List Int, y_ = (([1, 3] : List Int)) := ⟨_, rfl⟩
                       replace H : ((handshakerref03_Numbers.f k t299 y302).bind fun t305 => (if t305 = true then ((sleep_Watched.f k (([(⟨9, 0, 1⟩ : S57)] : List (S57)))).bind fun t309 => (if (t309.length : Int) = 1 then ((sleep_Right.f k t262).bind fun t312 => (if t312 = true then (some true) else (some false))) else (some false))) else (some false))) = some r := by first | (rw [hy302]; with_reducible exact H) | (have H2_ := (Option.bind_some _ _).symm.trans H; rw [hy302]; with_reducible exact H2_) | (have H2_ := (Option.bind_some _ _).symm.trans H; with_reducible exact H2_) | with_reducible exact H | (rw [hy302]; exact H) | exact H
                       have Ny302 := Aside0.mk hy302
                       clear hy302
                       replace H := Option.bind_eq_some_iff.mp H
                       obtain ⟨t305, A190, H⟩ := H
                       have A19 := Aside0.mk A190
                       clear A190
                       by_cases c20 : t305 = true
                       · subst c20
                         rw [if_pos rfl] at H
                         obtain ⟨y306, hy306⟩ : ∃ y_ : List (S57), y_ = (([(⟨9, 0, 1⟩ : S57)] : List (S57))) := ⟨_, rfl⟩
                         replace H : ((sleep_Watched.f k y306).bind fun t309 => (if (t309.length : Int) = 1 then ((sleep_Right.f k t262).bind fun t312 => (if t312 = true then (some true) else (some false))) else (some false))) = some r := by first | (rw [hy306]; with_reducible exact H) | (have H2_ := (Option.bind_some _ _).symm.trans H; rw [hy306]; with_reducible exact H2_) | (have H2_ := (Option.bind_some _ _).symm.trans H; with_reducible exact H2_) | with_reducible exact H | (rw [hy306]; exact H) | exact H
                         have Ny306 := Aside0.mk hy306
                         clear hy306
                         replace H := Option.bind_eq_some_iff.mp H
                         obtain ⟨t309, A210, H⟩ := H
                         have A21 := Aside0.mk A210
                         clear A210
                         by_cases c22 : (t309.length : Int) = 1
                         · rw [if_pos c22] at H
                           have c22b0 : ((t309.length : Int) == 1) = true := beq_iff_eq.mpr c22
                           have c22b1 : ((t309.length : Int) != 1) = false := bne_eq_false_iff_eq.mpr c22
                           clear c22
                           replace H := Option.bind_eq_some_iff.mp H
                           obtain ⟨t312, A230, H⟩ := H
                           have A23 := Aside0.mk A230
                           clear A230
                           by_cases c24 : t312 = true
                           · subst c24
                             rw [if_pos rfl] at H
                             obtain rfl := Option.some.inj H
                             go_enter Try.func15, Try.ntmps15
                             go_wp2_with (first | ((with_reducible refine gate_dst (N := 15) rfl ?_); (try (refine gate_guard (by rfl) ?_; dsimp only)); refine Kd.R_lit k62 _ 62 ?hg (N := 15) ?hd (xs := ([(⟨2, 5⟩ : S62)] : List (S62))) (inner := [.int .i64 2, .int .i64 5]) (ok := fun _ => True) (okp := fun _ => True) ?hr ?hp (fun _ hk => hk) trivial (Below.refl _ _) (Nat.le_refl _) (by simp) ?_; (case hd => rfl); (case hg => rfl); (case hr => first | (go_simp; done) | (go_simp; rfl)); (case hp => exact (Reps.c2 (show Kd.M k62 _ _ _ (⟨2, 5⟩ : S62) [.int .i64 2, .int .i64 5] from (k62_mkM _ _ _ (⟨2, 5⟩ : S62) )) (Reps.none _ _))); intro v248 w25 ho26 hb hg_ hnew_; clear hg_ hnew_; (first | rw [← Ny247.out] at ho26 | (simp only [Int.reduceToNat] at ho26; rw [← Ny247.out] at ho26)); replace HO249 := Aside0.mk (Kd.R_lower ho26 bsz_); replace HB := Aside0.mk (bst_ hb); clear hb ho26; obtain ⟨Ao27, co27, eo27⟩ := Kd.R_slice HO249.out; subst eo27) | ((with_reducible refine gate_dst (N := 1) rfl ?_); (try (refine gate_guard (by rfl) ?_; dsimp only)); refine box_event ?hg (N := 1) ?hd (cs := #[.int .i64 0, .int .i64 0, .int .i64 0, .slice none 0 0, .slice none 0 0]) (t := 26) ?hr ?_; (case hd => rfl); (case hg => rfl); (case hr => first | (go_simp; done) | (go_simp; rfl)); intro gb250 hg w28 hbox hb; replace HO249 := rb_ HO249 hb; replace BK250 := Aside0.mk (hbox); replace GW250 := Aside0.mk ((by rw [hg]; exact bsz_ : w.heap.size ≤ gb250)); replace HB := Aside0.mk (bst_ hb); replace GE250 := GW250; clear hb hbox hg; have hcz29_0 : w28.cell? ⟨gb250, 0, none⟩ = some (.int .i64 0) := (blk_cell BK250.out 0).trans rfl; have hcz29_1 : w28.cell? ⟨gb250, 1, none⟩ = some (.int .i64 0) := (blk_cell BK250.out 1).trans rfl; have hcz29_2 : w28.cell? ⟨gb250, 2, none⟩ = some (.int .i64 0) := (blk_cell BK250.out 2).trans rfl; have hcz29_3 : w28.cell? ⟨gb250, 3, none⟩ = some (.slice none 0 0) := (blk_cell BK250.out 3).trans rfl; have hcz29_4 : w28.cell? ⟨gb250, 4, none⟩ = some (.slice none 0 0) := (blk_cell BK250.out 4).trans rfl; have hfz29_0 := blk_frozen BK250.out 0; have hfz29_1 := blk_frozen BK250.out 1; have hfz29_2 := blk_frozen BK250.out 2; have hfz29_3 := blk_frozen BK250.out 3; have hfz29_4 := blk_frozen BK250.out 4) | ((with_reducible refine gate_dst (N := 18) rfl ?_); (try (refine gate_guard (by rfl) ?_; dsimp only)); refine Kd.R_lit k62 _ 62 ?hg (N := 18) ?hd (xs := ([(⟨4, 0⟩ : S62)] : List (S62))) (inner := [.int .i64 4, .int .i64 0]) (ok := fun _ => True) (okp := fun _ => True) ?hr ?hp (fun _ hk => hk) trivial (Below.refl _ _) (Nat.le_refl _) (by simp) ?_; (case hd => rfl); (case hg => rfl); (case hr => first | (go_simp; done) | (go_simp; rfl)); (case hp => exact (Reps.c2 (show Kd.M k62 _ _ _ (⟨4, 0⟩ : S62) [.int .i64 4, .int .i64 0] from (k62_mkM _ _ _ (⟨4, 0⟩ : S62) )) (Reps.none _ _))); intro v252 w30 ho31 hb hg_ hnew_; clear hg_ hnew_; (first | rw [← Ny251.out] at ho31 | (simp only [Int.reduceToNat] at ho31; rw [← Ny251.out] at ho31)); replace HO253 := Aside0.mk (Kd.R_lower (Kd.R_new' ho31 (Kd.R_lt (by (with_reducible repeat (first | apply Kd.R_alloc | apply Kd.R_drewN | apply Kd.R_drew)); exact (Kd.R_mono (Kd.R_far (p := ⟨gb250, 4, none⟩) (Kd.R_far (p := ⟨gb250, 3, none⟩) (Kd.R_far (p := ⟨gb250, 2, none⟩) (Kd.R_far (p := ⟨gb250, 1, none⟩) (Kd.R_far (p := ⟨gb250, 0, none⟩) (Kd.R_types HO249.out BK250.out (by decide)) (fun _ hk => hk.2) (.int .i64 3)) (fun _ hk => hk.2) (.int .i64 2)) (fun _ hk => hk.2) (.int .i64 0)) (fun _ hk => hk.2) (.slice Ao27 y247.length co27)) (fun _ hk => hk.2) (.slice none 0 0)) (fun _ h_ => h_.1))))) (below_size bsw_)); replace HO249 := Aside0.mk (Kd.R_elder' (by (with_reducible repeat (first | apply Kd.R_alloc | apply Kd.R_drewN | apply Kd.R_drew)); exact (Kd.R_mono (Kd.R_far (p := ⟨gb250, 4, none⟩) (Kd.R_far (p := ⟨gb250, 3, none⟩) (Kd.R_far (p := ⟨gb250, 2, none⟩) (Kd.R_far (p := ⟨gb250, 1, none⟩) (Kd.R_far (p := ⟨gb250, 0, none⟩) (Kd.R_types HO249.out BK250.out (by decide)) (fun _ hk => hk.2) (.int .i64 3)) (fun _ hk => hk.2) (.int .i64 2)) (fun _ hk => hk.2) (.int .i64 0)) (fun _ hk => hk.2) (.slice Ao27 y247.length co27)) (fun _ hk => hk.2) (.slice none 0 0)) (fun _ h_ => h_.1))) (Kd.R_base ho31) hb); replace BK250 := Aside0.mk (blk_below (g := gb250) (o := .cells #[.int .i64 3, .int .i64 2, .int .i64 0, .slice Ao27 y247.length co27, .slice none 0 0] 26 (0, 0)) (by (with_reducible repeat (first | refine blk_drewN ?_ _ | refine blk_drew ?_ | refine blk_alloc ?_ _)); refine blk_put (cs := #[.int .i64 3, .int .i64 2, .int .i64 0, .slice Ao27 y247.length co27, .slice none 0 0]) ?_ 4 _ rfl; (with_reducible repeat (first | refine blk_drewN ?_ _ | refine blk_drew ?_ | refine blk_alloc ?_ _)); refine blk_put (cs := #[.int .i64 3, .int .i64 2, .int .i64 0, .slice none 0 0, .slice none 0 0]) ?_ 3 _ rfl; (with_reducible repeat (first | refine blk_drewN ?_ _ | refine blk_drew ?_ | refine blk_alloc ?_ _)); refine blk_put (cs := #[.int .i64 3, .int .i64 2, .int .i64 0, .slice none 0 0, .slice none 0 0]) ?_ 2 _ rfl; (with_reducible repeat (first | refine blk_drewN ?_ _ | refine blk_drew ?_ | refine blk_alloc ?_ _)); refine blk_put (cs := #[.int .i64 3, .int .i64 0, .int .i64 0, .slice none 0 0, .slice none 0 0]) ?_ 1 _ rfl; (with_reducible repeat (first | refine blk_drewN ?_ _ | refine blk_drew ?_ | refine blk_alloc ?_ _)); refine blk_put (cs := #[.int .i64 0, .int .i64 0, .int .i64 0, .slice none 0 0, .slice none 0 0]) ?_ 0 _ rfl; (with_reducible repeat (first | refine blk_drewN ?_ _ | refine blk_drew ?_ | refine blk_alloc ?_ _)); exact BK250.out) hb); replace HB := Aside0.mk (below_step bsw_ hb); clear hb ho31) | ((with_reducible refine gate_dst (N := 20) rfl ?_); (try (refine gate_guard (by rfl) ?_; dsimp only)); refine Kd.R_lit k80 _ 80 ?hg (N := 20) ?hd (xs := ([(⟨2, 4⟩ : S80)] : List (S80))) (inner := [.int .i64 2, .int .i64 4]) (ok := fun _ => True) (okp := fun _ => True) ?hr ?hp (fun _ hk => hk) trivial (Below.refl _ _) (Nat.le_refl _) (by simp) ?_; (case hd => rfl); (case hg => rfl); (case hr => first | (go_simp; done) | (go_simp; rfl)); (case hp => exact (Reps.c2 (show Kd.M k80 _ _ _ (⟨2, 4⟩ : S80) [.int .i64 2, .int .i64 4] from (k80_mkM _ _ _ (⟨2, 4⟩ : S80) )) (Reps.none _ _))); intro v255 w32 ho33 hb hg_ hnew_; clear hg_ hnew_; (first | rw [← Ny254.out] at ho33 | (simp only [Int.reduceToNat] at ho33; rw [← Ny254.out] at ho33)); replace HO249 := rb_ HO249 hb; replace HO253 := rb_ HO253 hb; replace HO256 := Aside0.mk (Kd.R_lower ho33 (below_size bsw_)); replace BK250 := bb_ BK250 hb; replace HB := Aside0.mk (below_step bsw_ hb); clear hb ho33; obtain ⟨Ao34, co34, eo34⟩ := Kd.R_slice HO256.out; subst eo34; obtain ⟨Ao35, co35, eo35⟩ := Kd.R_slice HO253.out; subst eo35) | ((with_reducible refine gate_dst (N := 2) rfl ?_); (try (refine gate_guard (by rfl) ?_; dsimp only)); refine box_event ?hg (N := 2) ?hd (cs := #[.int .i64 0, .int .i64 0, .int .i64 0, .slice none 0 0, .slice none 0 0]) (t := 26) ?hr ?_; (case hd => rfl); (case hg => rfl); (case hr => first | (go_simp; done) | (go_simp; rfl)); intro gb257 hg w36 hbox hb; replace HO249 := rb_ HO249 hb; replace HO253 := rb_ HO253 hb; replace HO256 := rb_ HO256 hb; replace BK257 := Aside0.mk (hbox); replace GW257 := Aside0.mk ((by rw [hg]; exact (below_size bsw_) : w.heap.size ≤ gb257)); replace HB := Aside0.mk (below_step bsw_ hb); replace GE257 := GW257; replace NB250_257 := Aside0.mk ((by rw [hg]; exact Nat.ne_of_lt (blk_lt (g := gb250) (o := .cells #[.int .i64 3, .int .i64 2, .int .i64 0, .slice Ao27 y247.length co27, .slice none 0 0] 26 (0, 0)) (bq_ BK250)) : gb250 ≠ gb257)); replace NB257_250 := Aside0.mk ((by rw [hg]; exact Nat.ne_of_gt (blk_lt (g := gb250) (o := .cells #[.int .i64 3, .int .i64 2, .int .i64 0, .slice Ao27 y247.length co27, .slice none 0 0] 26 (0, 0)) (bq_ BK250)) : gb257 ≠ gb250)); replace BK250 := bb_ BK250 hb; clear hb hbox hg; have hnb37 := NB257_250.out; have hnc37 := NB250_257.out; have hcz38_0 : w36.cell? ⟨gb257, 0, none⟩ = some (.int .i64 0) := (blk_cell BK257.out 0).trans rfl; have hcz38_1 : w36.cell? ⟨gb257, 1, none⟩ = some (.int .i64 0) := (blk_cell BK257.out 1).trans rfl; have hcz38_2 : w36.cell? ⟨gb257, 2, none⟩ = some (.int .i64 0) := (blk_cell BK257.out 2).trans rfl; have hcz38_3 : w36.cell? ⟨gb257, 3, none⟩ = some (.slice none 0 0) := (blk_cell BK257.out 3).trans rfl; have hcz38_4 : w36.cell? ⟨gb257, 4, none⟩ = some (.slice none 0 0) := (blk_cell BK257.out 4).trans rfl; have hfz38_0 := blk_frozen BK257.out 0; have hfz38_1 := blk_frozen BK257.out 1; have hfz38_2 := blk_frozen BK257.out 2; have hfz38_3 := blk_frozen BK257.out 3; have hfz38_4 := blk_frozen BK257.out 4) | ((with_reducible refine gate_store (t := 26) (p := 2) rfl ?_); refine store_event (t := 26) (p := 2) (v := ?vo_w39) (w1 := (((((w36.setCell ⟨gb257, 0, none⟩ (.int .i64 1)).setCell ⟨gb257, 1, none⟩ (.int .i64 3)).setCell ⟨gb257, 2, none⟩ (.int .i64 0)).setCell ⟨gb257, 3, none⟩ (.slice Ao35 y251.length co35)).setCell ⟨gb257, 4, none⟩ (.slice Ao34 y254.length co34))) ?hg ?ho ?hn ?hr ?_; (case ho => rfl); (case hg => rfl); (case hn => rfl); (case hr => first | (go_simp; done) | (go_simp; rfl)); intro w39 hw; have n0_ : Aside0 (Kd.R k62 62 w39 w.heap.size (fun k_ => some k_ ≠ (.slice Ao35 y251.length co35 : Value).ownBlock) (.slice Ao27 y247.length co27) y247) := ⟨(by rw [hw]; exact (by (with_reducible repeat (first | apply Kd.R_alloc | apply Kd.R_drewN | apply Kd.R_drew)); exact Kd.R_mono (Kd.R_far (p := ⟨gb257, 4, none⟩) (Kd.R_far (p := ⟨gb257, 3, none⟩) (Kd.R_far (p := ⟨gb257, 2, none⟩) (Kd.R_far (p := ⟨gb257, 1, none⟩) (Kd.R_far (p := ⟨gb257, 0, none⟩) (Kd.R_types HO249.out BK257.out (by decide)) (fun _ hk => hk.2) (.int .i64 1)) (fun _ hk => hk.2) (.int .i64 3)) (fun _ hk => hk.2) (.int .i64 0)) (fun _ hk => hk.2) (.slice Ao35 y251.length co35)) (fun _ hk => hk.2) (.slice Ao34 y254.length co34)) (fun _ hk => hk.1.2)))⟩; have n1_ : Aside0 (Kd.R k62 62 w39 w.heap.size (fun k_ => some k_ ≠ (.slice Ao27 y247.length co27 : Value).ownBlock) (.slice Ao35 y251.length co35) y251) := ⟨(by rw [hw]; exact (by (with_reducible repeat (first | apply Kd.R_alloc | apply Kd.R_drewN | apply Kd.R_drew)); exact Kd.R_mono (Kd.R_far (p := ⟨gb257, 4, none⟩) (Kd.R_far (p := ⟨gb257, 3, none⟩) (Kd.R_far (p := ⟨gb257, 2, none⟩) (Kd.R_far (p := ⟨gb257, 1, none⟩) (Kd.R_far (p := ⟨gb257, 0, none⟩) (Kd.R_types HO253.out BK257.out (by decide)) (fun _ hk => hk.2) (.int .i64 1)) (fun _ hk => hk.2) (.int .i64 3)) (fun _ hk => hk.2) (.int .i64 0)) (fun _ hk => hk.2) (.slice Ao35 y251.length co35)) (fun _ hk => hk.2) (.slice Ao34 y254.length co34)) (fun _ hk => hk.1.2)))⟩; have n2_ : Aside0 (Kd.R k80 80 w39 w.heap.size (fun _ => True) (.slice Ao34 y254.length co34) y254) := ⟨(by rw [hw]; exact (by (with_reducible repeat (first | apply Kd.R_alloc | apply Kd.R_drewN | apply Kd.R_drew)); exact Kd.R_mono (Kd.R_far (p := ⟨gb257, 4, none⟩) (Kd.R_far (p := ⟨gb257, 3, none⟩) (Kd.R_far (p := ⟨gb257, 2, none⟩) (Kd.R_far (p := ⟨gb257, 1, none⟩) (Kd.R_far (p := ⟨gb257, 0, none⟩) (Kd.R_types HO256.out BK257.out (by decide)) (fun _ hk => hk.2) (.int .i64 1)) (fun _ hk => hk.2) (.int .i64 3)) (fun _ hk => hk.2) (.int .i64 0)) (fun _ hk => hk.2) (.slice Ao35 y251.length co35)) (fun _ hk => hk.2) (.slice Ao34 y254.length co34)) (fun _ hk => trivial)))⟩; have n3_ : Aside0 (w39.heap[gb250]? = some (.cells #[.int .i64 3, .int .i64 2, .int .i64 0, .slice Ao27 y247.length co27, .slice none 0 0] 26 (0, 0))) := ⟨(by rw [hw]; exact (by (with_reducible repeat (first | refine blk_drewN ?_ _ | refine blk_drew ?_ | refine blk_alloc ?_ _)); refine blk_far ?_ NB250_257.out _; (with_reducible repeat (first | refine blk_drewN ?_ _ | refine blk_drew ?_ | refine blk_alloc ?_ _)); refine blk_far ?_ NB250_257.out _; (with_reducible repeat (first | refine blk_drewN ?_ _ | refine blk_drew ?_ | refine blk_alloc ?_ _)); refine blk_far ?_ NB250_257.out _; (with_reducible repeat (first | refine blk_drewN ?_ _ | refine blk_drew ?_ | refine blk_alloc ?_ _)); refine blk_far ?_ NB250_257.out _; (with_reducible repeat (first | refine blk_drewN ?_ _ | refine blk_drew ?_ | refine blk_alloc ?_ _)); refine blk_far ?_ NB250_257.out _; (with_reducible repeat (first | refine blk_drewN ?_ _ | refine blk_drew ?_ | refine blk_alloc ?_ _)); exact BK250.out))⟩; have n4_ : Aside0 (w39.heap[gb257]? = some (.cells #[.int .i64 1, .int .i64 3, .int .i64 0, .slice Ao35 y251.length co35, .slice Ao34 y254.length co34] 26 (0, 0))) := ⟨(by rw [hw]; exact (by (with_reducible repeat (first | refine blk_drewN ?_ _ | refine blk_drew ?_ | refine blk_alloc ?_ _)); refine blk_put (cs := #[.int .i64 1, .int .i64 3, .int .i64 0, .slice Ao35 y251.length co35, .slice none 0 0]) ?_ 4 _ rfl; (with_reducible repeat (first | refine blk_drewN ?_ _ | refine blk_drew ?_ | refine blk_alloc ?_ _)); refine blk_put (cs := #[.int .i64 1, .int .i64 3, .int .i64 0, .slice none 0 0, .slice none 0 0]) ?_ 3 _ rfl; (with_reducible repeat (first | refine blk_drewN ?_ _ | refine blk_drew ?_ | refine blk_alloc ?_ _)); refine blk_put (cs := #[.int .i64 1, .int .i64 3, .int .i64 0, .slice none 0 0, .slice none 0 0]) ?_ 2 _ rfl; (with_reducible repeat (first | refine blk_drewN ?_ _ | refine blk_drew ?_ | refine blk_alloc ?_ _)); refine blk_put (cs := #[.int .i64 1, .int .i64 0, .int .i64 0, .slice none 0 0, .slice none 0 0]) ?_ 1 _ rfl; (with_reducible repeat (first | refine blk_drewN ?_ _ | refine blk_drew ?_ | refine blk_alloc ?_ _)); refine blk_put (cs := #[.int .i64 0, .int .i64 0, .int .i64 0, .slice none 0 0, .slice none 0 0]) ?_ 0 _ rfl; (with_reducible repeat (first | refine blk_drewN ?_ _ | refine blk_drew ?_ | refine blk_alloc ?_ _)); exact BK257.out))⟩; have n5_ : Aside0 (Below w.heap.size w w39) := ⟨(by rw [hw]; exact (by repeat (first | (with_reducible first | exact HB.out | apply below_alloc | apply pw_below_drewN | apply below_drew1 | refine below_set ?_ GE250.out | refine below_set ?_ GE257.out) | exact HB.out)))⟩; clear hw; clear HO249; clear HO253; clear HO256; clear BK250; clear BK257; clear HB; have HO249 := n0_; have HO253 := n1_; have HO256 := n2_; have BK250 := n3_; have BK257 := n4_; have HB := n5_; clear n0_ n1_ n2_ n3_ n4_ n5_; have hcz40_0 : w39.cell? ⟨gb250, 0, none⟩ = some (.int .i64 3) := (blk_cell BK250.out 0).trans rfl; have hcz40_1 : w39.cell? ⟨gb250, 1, none⟩ = some (.int .i64 2) := (blk_cell BK250.out 1).trans rfl; have hcz40_2 : w39.cell? ⟨gb250, 2, none⟩ = some (.int .i64 0) := (blk_cell BK250.out 2).trans rfl; have hcz40_3 : w39.cell? ⟨gb250, 3, none⟩ = some (.slice Ao27 y247.length co27) := (blk_cell BK250.out 3).trans rfl; have hcz40_4 : w39.cell? ⟨gb250, 4, none⟩ = some (.slice none 0 0) := (blk_cell BK250.out 4).trans rfl; have hfz40_0 := blk_frozen BK250.out 0; have hfz40_1 := blk_frozen BK250.out 1; have hfz40_2 := blk_frozen BK250.out 2; have hfz40_3 := blk_frozen BK250.out 3; have hfz40_4 := blk_frozen BK250.out 4) | ((with_reducible refine gate_callee (f := 17) rfl ?_); refine goesL_ (some 24) rfl rfl Try.func17 (by kernel_rfl) rfl #[.slice none 0 0, .agg #[.int .i64 3, .int .i64 2, .int .i64 0, .slice Ao27 y247.length co27, .slice none 0 0]] rfl mp_ ?_; (refine (sleep_Add.calls k (fun k_ => False) _ _ ([] : List (S26)) 3 2 0 (fun k_ => some k_ = (.slice Ao27 y247.length co27 : Value).ownBlock) _ _ y247 (fun k_ => False) _ _ ([] : List (S80)) t258 t261 _ ?side1 ?side2 ?side3 A1.out).mono ?_); (case side1 => exact Kd.V_nil _ _ _ _ _); (case side2 => exact Kd.R_V (Kd.R_tight rfl (Kd.R_types (Kd.R_types (Kd.R_apart' (HO249.out) (Kd.R_typed HO256.out) (by decide)) BK250.out (by decide)) BK257.out (by decide)))); (case side3 => exact Kd.V_nil _ _ _ _ _); rintro e w41 ⟨v259, rfl, ho0, hb⟩; refine ⟨_, rfl, ?_⟩; replace HO260 := Aside0.mk (Kd.V_lower (Kd.V_mono (ok' := fun k_ => some k_ ≠ (.slice Ao35 y251.length co35 : Value).ownBlock ∧ some k_ ≠ (.slice Ao34 y254.length co34 : Value).ownBlock ∧ k_ ≠ gb250 ∧ k_ ≠ gb257) ho0 (fun k_ hk_ => ⟨Or.elim hk_ (fun hs_ => Or.elim hs_ (fun hs_ => (hs_).elim) (fun hs_ => Or.elim hs_ (fun hs_ => ((Kd.R_types (Kd.R_types (Kd.R_apart' (HO249.out) (Kd.R_typed HO256.out) (by decide)) BK250.out (by decide)) BK257.out (by decide)).1 k_ hs_.symm).1.1.1) (fun hs_ => (hs_).elim))) (fun hn_ => (Kd.fresh' (Kd.R_lt (rq_ HO253)) k_ hn_)), Or.elim hk_ (fun hs_ => Or.elim hs_ (fun hs_ => (hs_).elim) (fun hs_ => Or.elim hs_ (fun hs_ => ((Kd.R_types (Kd.R_types (Kd.R_apart' (HO249.out) (Kd.R_typed HO256.out) (by decide)) BK250.out (by decide)) BK257.out (by decide)).1 k_ hs_.symm).1.1.2) (fun hs_ => (hs_).elim))) (fun hn_ => (Kd.fresh' (Kd.R_lt (rq_ HO256)) k_ hn_)), Or.elim hk_ (fun hs_ => Or.elim hs_ (fun hs_ => (hs_).elim) (fun hs_ => Or.elim hs_ (fun hs_ => ((Kd.R_types (Kd.R_types (Kd.R_apart' (HO249.out) (Kd.R_typed HO256.out) (by decide)) BK250.out (by decide)) BK257.out (by decide)).1 k_ hs_.symm).1.2) (fun hs_ => (hs_).elim))) (fun hn_ => (Kd.freshB (g := gb250) (o := .cells #[.int .i64 3, .int .i64 2, .int .i64 0, .slice Ao27 y247.length co27, .slice none 0 0] 26 (0, 0)) (bq_ BK250) k_ hn_)), Or.elim hk_ (fun hs_ => Or.elim hs_ (fun hs_ => (hs_).elim) (fun hs_ => Or.elim hs_ (fun hs_ => ((Kd.R_types (Kd.R_types (Kd.R_apart' (HO249.out) (Kd.R_typed HO256.out) (by decide)) BK250.out (by decide)) BK257.out (by decide)).1 k_ hs_.symm).2) (fun hs_ => (hs_).elim))) (fun hn_ => (Kd.freshB (g := gb257) (o := .cells #[.int .i64 1, .int .i64 3, .int .i64 0, .slice Ao35 y251.length co35, .slice Ao34 y254.length co34] 26 (0, 0)) (bq_ BK257) k_ hn_))⟩)) (below_size (by repeat (first | (with_reducible first | exact HB.out | apply below_alloc | apply pw_below_drewN | apply below_drew1 | refine below_set ?_ GE250.out | refine below_set ?_ GE257.out) | exact HB.out)))); replace HO249 := rb_ HO249 hb; replace HO253 := rb_ HO253 hb; replace HO256 := rb_ HO256 hb; replace BK250 := bb_ BK250 hb; replace BK257 := bb_ BK257 hb; replace HB := Aside0.mk (below_step (by repeat (first | (with_reducible first | exact HB.out | apply below_alloc | apply pw_below_drewN | apply below_drew1 | refine below_set ?_ GE250.out | refine below_set ?_ GE257.out) | exact HB.out)) hb); (try clear hb); (try clear hb2); (try clear hk); (try clear hi); (try clear ho0); have hcz42_0 : w41.cell? ⟨gb257, 0, none⟩ = some (.int .i64 1) := (blk_cell BK257.out 0).trans rfl; have hcz42_1 : w41.cell? ⟨gb257, 1, none⟩ = some (.int .i64 3) := (blk_cell BK257.out 1).trans rfl; have hcz42_2 : w41.cell? ⟨gb257, 2, none⟩ = some (.int .i64 0) := (blk_cell BK257.out 2).trans rfl; have hcz42_3 : w41.cell? ⟨gb257, 3, none⟩ = some (.slice Ao35 y251.length co35) := (blk_cell BK257.out 3).trans rfl; have hcz42_4 : w41.cell? ⟨gb257, 4, none⟩ = some (.slice Ao34 y254.length co34) := (blk_cell BK257.out 4).trans rfl; have hfz42_0 := blk_frozen BK257.out 0; have hfz42_1 := blk_frozen BK257.out 1; have hfz42_2 := blk_frozen BK257.out 2; have hfz42_3 := blk_frozen BK257.out 3; have hfz42_4 := blk_frozen BK257.out 4; obtain ⟨Ao43, co43, eo43⟩ := Kd.V_slice HO260.out; subst eo43) | ((with_reducible refine gate_callee (f := 17) rfl ?_); refine goesL_ (some 30) rfl rfl Try.func17 (by kernel_rfl) rfl #[.slice Ao43 t258.length co43, .agg #[.int .i64 1, .int .i64 3, .int .i64 0, .slice Ao35 y251.length co35, .slice Ao34 y254.length co34]] rfl mp_ ?_; (with_reducible refine (sleep_Add.calls k (fun k_ => (some k_ ≠ (.slice Ao35 y251.length co35 : Value).ownBlock ∧ (some k_ ≠ (.slice Ao34 y254.length co34 : Value).ownBlock ∧ (k_ ≠ gb250 ∧ k_ ≠ gb257)))) _ _ t258 1 3 0 (fun k_ => some k_ = (.slice Ao35 y251.length co35 : Value).ownBlock) _ _ y251 (fun k_ => some k_ = (.slice Ao34 y254.length co34 : Value).ownBlock) _ _ y254 t262 t265 _ ?side1 ?side2 ?side3 A2.out).mono ?_); (case side1 => exact HO260.out); (case side2 => exact Kd.R_V (Kd.R_tight rfl (Kd.R_types (Kd.R_types (Kd.R_apart' (HO253.out) (Kd.R_typed HO256.out) (by decide)) BK250.out (by decide)) BK257.out (by decide)))); (case side3 => exact Kd.R_V (Kd.R_tight rfl (Kd.R_types (Kd.R_types (Kd.R_apart' (Kd.R_apart' (HO256.out) (Kd.R_typed HO249.out) (by decide)) (Kd.R_typed HO253.out) (by decide)) BK250.out (by decide)) BK257.out (by decide)))); rintro e w44 ⟨v263, rfl, ho0, hb⟩; refine ⟨_, rfl, ?_⟩; replace HO260 := vb_ HO260 hb; replace HO264 := Aside0.mk (Kd.V_lower (Kd.V_mono (ok' := fun k_ => k_ ≠ gb250 ∧ k_ ≠ gb257) ho0 (fun k_ hk_ => ⟨Or.elim hk_ (fun hs_ => Or.elim hs_ (fun hs_ => hs_.2.2.1) (fun hs_ => Or.elim hs_ (fun hs_ => ((Kd.R_types (Kd.R_types (Kd.R_apart' (HO253.out) (Kd.R_typed HO256.out) (by decide)) BK250.out (by decide)) BK257.out (by decide)).1 k_ hs_.symm).1.2) (fun hs_ => ((Kd.R_types (Kd.R_types (Kd.R_apart' (Kd.R_apart' (HO256.out) (Kd.R_typed HO249.out) (by decide)) (Kd.R_typed HO253.out) (by decide)) BK250.out (by decide)) BK257.out (by decide)).1 k_ hs_.symm).1.2))) (fun hn_ => (Kd.freshB (g := gb250) (o := .cells #[.int .i64 3, .int .i64 2, .int .i64 0, .slice Ao27 y247.length co27, .slice none 0 0] 26 (0, 0)) (bq_ BK250) k_ hn_)), Or.elim hk_ (fun hs_ => Or.elim hs_ (fun hs_ => hs_.2.2.2) (fun hs_ => Or.elim hs_ (fun hs_ => ((Kd.R_types (Kd.R_types (Kd.R_apart' (HO253.out) (Kd.R_typed HO256.out) (by decide)) BK250.out (by decide)) BK257.out (by decide)).1 k_ hs_.symm).2) (fun hs_ => ((Kd.R_types (Kd.R_types (Kd.R_apart' (Kd.R_apart' (HO256.out) (Kd.R_typed HO249.out) (by decide)) (Kd.R_typed HO253.out) (by decide)) BK250.out (by decide)) BK257.out (by decide)).1 k_ hs_.symm).2))) (fun hn_ => (Kd.freshB (g := gb257) (o := .cells #[.int .i64 1, .int .i64 3, .int .i64 0, .slice Ao35 y251.length co35, .slice Ao34 y254.length co34] 26 (0, 0)) (bq_ BK257) k_ hn_))⟩)) (below_size (by repeat (first | (with_reducible first | exact HB.out | apply below_alloc | apply pw_below_drewN | apply below_drew1 | refine below_set ?_ GE250.out | refine below_set ?_ GE257.out) | exact HB.out)))); replace HO249 := rb_ HO249 hb; replace HO253 := rb_ HO253 hb; replace HO256 := rb_ HO256 hb; replace BK250 := bb_ BK250 hb; replace BK257 := bb_ BK257 hb; replace HB := Aside0.mk (below_step (by repeat (first | (with_reducible first | exact HB.out | apply below_alloc | apply pw_below_drewN | apply below_drew1 | refine below_set ?_ GE250.out | refine below_set ?_ GE257.out) | exact HB.out)) hb); (try clear hb); (try clear hb2); (try clear hk); (try clear hi); (try clear ho0); have hcz45_0 : w44.cell? ⟨gb250, 0, none⟩ = some (.int .i64 3) := (blk_cell BK250.out 0).trans rfl; have hcz45_1 : w44.cell? ⟨gb250, 1, none⟩ = some (.int .i64 2) := (blk_cell BK250.out 1).trans rfl; have hcz45_2 : w44.cell? ⟨gb250, 2, none⟩ = some (.int .i64 0) := (blk_cell BK250.out 2).trans rfl; have hcz45_3 : w44.cell? ⟨gb250, 3, none⟩ = some (.slice Ao27 y247.length co27) := (blk_cell BK250.out 3).trans rfl; have hcz45_4 : w44.cell? ⟨gb250, 4, none⟩ = some (.slice none 0 0) := (blk_cell BK250.out 4).trans rfl; have hfz45_0 := blk_frozen BK250.out 0; have hfz45_1 := blk_frozen BK250.out 1; have hfz45_2 := blk_frozen BK250.out 2; have hfz45_3 := blk_frozen BK250.out 3; have hfz45_4 := blk_frozen BK250.out 4; obtain ⟨Ao46, co46, eo46⟩ := Kd.V_slice HO264.out; subst eo46) | ((with_reducible refine gate_callee (f := 17) rfl ?_); refine goesL_ (some 36) rfl rfl Try.func17 (by kernel_rfl) rfl #[.slice Ao46 t262.length co46, .agg #[.int .i64 3, .int .i64 2, .int .i64 0, .slice Ao27 y247.length co27, .slice none 0 0]] rfl mp_ ?_; (refine (sleep_Add.calls k (fun k_ => (k_ ≠ gb250 ∧ k_ ≠ gb257)) _ _ t262 3 2 0 (fun k_ => some k_ = (.slice Ao27 y247.length co27 : Value).ownBlock) _ _ y247 (fun k_ => False) _ _ ([] : List (S80)) t266 t269 _ ?side1 ?side2 ?side3 A3.out).mono ?_); (case side1 => exact HO264.out); (case side2 => exact Kd.R_V (Kd.R_tight rfl (Kd.R_types (Kd.R_types (Kd.R_apart' (HO249.out) (Kd.R_typed HO256.out) (by decide)) BK250.out (by decide)) BK257.out (by decide)))); (case side3 => exact Kd.V_nil _ _ _ _ _); rintro e w47 ⟨v267, rfl, ho0, hb⟩; refine ⟨_, rfl, ?_⟩; replace HO253 := rb_ HO253 hb; replace HO260 := vb_ HO260 hb; replace HO264 := vb_ HO264 hb; replace HO268 := Aside0.mk (Kd.V_lower (Kd.V_mono (ok' := fun k_ => k_ ≠ gb250 ∧ k_ ≠ gb257) ho0 (fun k_ hk_ => ⟨Or.elim hk_ (fun hs_ => Or.elim hs_ (fun hs_ => hs_.1) (fun hs_ => Or.elim hs_ (fun hs_ => ((Kd.R_types (Kd.R_types (Kd.R_apart' (HO249.out) (Kd.R_typed HO256.out) (by decide)) BK250.out (by decide)) BK257.out (by decide)).1 k_ hs_.symm).1.2) (fun hs_ => (hs_).elim))) (fun hn_ => (Kd.freshB (g := gb250) (o := .cells #[.int .i64 3, .int .i64 2, .int .i64 0, .slice Ao27 y247.length co27, .slice none 0 0] 26 (0, 0)) (bq_ BK250) k_ hn_)), Or.elim hk_ (fun hs_ => Or.elim hs_ (fun hs_ => hs_.2) (fun hs_ => Or.elim hs_ (fun hs_ => ((Kd.R_types (Kd.R_types (Kd.R_apart' (HO249.out) (Kd.R_typed HO256.out) (by decide)) BK250.out (by decide)) BK257.out (by decide)).1 k_ hs_.symm).2) (fun hs_ => (hs_).elim))) (fun hn_ => (Kd.freshB (g := gb257) (o := .cells #[.int .i64 1, .int .i64 3, .int .i64 0, .slice Ao35 y251.length co35, .slice Ao34 y254.length co34] 26 (0, 0)) (bq_ BK257) k_ hn_))⟩)) (below_size (by repeat (first | (with_reducible first | exact HB.out | apply below_alloc | apply pw_below_drewN | apply below_drew1 | refine below_set ?_ GE250.out | refine below_set ?_ GE257.out) | exact HB.out)))); replace HO249 := rb_ HO249 hb; replace HO256 := rb_ HO256 hb; replace BK250 := bb_ BK250 hb; replace BK257 := bb_ BK257 hb; replace HB := Aside0.mk (below_step (by repeat (first | (with_reducible first | exact HB.out | apply below_alloc | apply pw_below_drewN | apply below_drew1 | refine below_set ?_ GE250.out | refine below_set ?_ GE257.out) | exact HB.out)) hb); (try clear hb); (try clear hb2); (try clear hk); (try clear hi); (try clear ho0)) | ((with_reducible refine gate_callee (f := 23) rfl ?_); refine goesL_ (some 41) rfl rfl Try.func23 (by kernel_rfl) rfl #[.slice Ao46 t262.length co46, .int .i64 3] rfl mp_ ?_; (with_reducible refine (sleep_Find.calls k (fun k_ => (k_ ≠ gb250 ∧ k_ ≠ gb257)) _ _ t262 3 t270 t271 t272 t273 t276 t279 _ ?side1 A4.out).mono ?_); (case side1 => exact HO264.out); rintro e w48 ⟨v274, v277, rfl, ho0, ho1, hb⟩; refine ⟨_, rfl, ?_⟩; replace HO249 := rb_ HO249 hb; replace HO253 := rb_ HO253 hb; replace HO256 := rb_ HO256 hb; replace HO260 := vb_ HO260 hb; replace HO264 := vb_ HO264 hb; replace HO268 := vb_ HO268 hb; replace HO275 := Aside0.mk (Kd.V_lower (Kd.V_mono (ok' := fun k_ => k_ ≠ gb250 ∧ k_ ≠ gb257) ho0 (fun k_ hk_ => ⟨Or.elim hk_ (fun hs_ => hs_.1) (fun hn_ => (Kd.freshB (g := gb250) (o := .cells #[.int .i64 3, .int .i64 2, .int .i64 0, .slice Ao27 y247.length co27, .slice none 0 0] 26 (0, 0)) (bq_ BK250) k_ hn_)), Or.elim hk_ (fun hs_ => hs_.2) (fun hn_ => (Kd.freshB (g := gb257) (o := .cells #[.int .i64 1, .int .i64 3, .int .i64 0, .slice Ao35 y251.length co35, .slice Ao34 y254.length co34] 26 (0, 0)) (bq_ BK257) k_ hn_))⟩)) (below_size (by repeat (first | (with_reducible first | exact HB.out | apply below_alloc | apply pw_below_drewN | apply below_drew1 | refine below_set ?_ GE250.out | refine below_set ?_ GE257.out) | exact HB.out)))); replace HO278 := Aside0.mk (Kd.V_lower (Kd.V_mono (ok' := fun k_ => k_ ≠ gb250 ∧ k_ ≠ gb257) ho1 (fun k_ hk_ => ⟨Or.elim hk_ (fun hs_ => hs_.1) (fun hn_ => (Kd.freshB (g := gb250) (o := .cells #[.int .i64 3, .int .i64 2, .int .i64 0, .slice Ao27 y247.length co27, .slice none 0 0] 26 (0, 0)) (bq_ BK250) k_ hn_)), Or.elim hk_ (fun hs_ => hs_.2) (fun hn_ => (Kd.freshB (g := gb257) (o := .cells #[.int .i64 1, .int .i64 3, .int .i64 0, .slice Ao35 y251.length co35, .slice Ao34 y254.length co34] 26 (0, 0)) (bq_ BK257) k_ hn_))⟩)) (below_size (by repeat (first | (with_reducible first | exact HB.out | apply below_alloc | apply pw_below_drewN | apply below_drew1 | refine below_set ?_ GE250.out | refine below_set ?_ GE257.out) | exact HB.out)))); replace BK250 := bb_ BK250 hb; replace BK257 := bb_ BK257 hb; replace HB := Aside0.mk (below_step (by repeat (first | (with_reducible first | exact HB.out | apply below_alloc | apply pw_below_drewN | apply below_drew1 | refine below_set ?_ GE250.out | refine below_set ?_ GE257.out) | exact HB.out)) hb); (try clear hb); (try clear hb2); (try clear hk); (try clear hi); (try clear ho0); (try clear ho1)) | ((with_reducible refine gate_dst (N := 8) rfl ?_); (try (refine gate_guard (by rfl) ?_; dsimp only)); refine box_event ?hg (N := 8) ?hd (cs := #[.int .i64 0, .int .i64 0, .int .i64 0, .slice none 0 0, .slice none 0 0]) (t := 26) ?hr ?_; (case hd => rfl); (case hg => rfl); (case hr => first | (go_simp; done) | (go_simp; rfl)); intro gb280 hg w49 hbox hb; replace HO249 := rb_ HO249 hb; replace HO253 := rb_ HO253 hb; replace HO256 := rb_ HO256 hb; replace HO260 := Aside0.mk (Kd.V_below (Kd.V_elderB (vq_ HO260) gb280 (Nat.le_of_eq hg.symm)) hb); replace HO264 := Aside0.mk (Kd.V_below (Kd.V_elderB (vq_ HO264) gb280 (Nat.le_of_eq hg.symm)) hb); replace HO268 := Aside0.mk (Kd.V_below (Kd.V_elderB (vq_ HO268) gb280 (Nat.le_of_eq hg.symm)) hb); replace HO275 := Aside0.mk (Kd.V_below (Kd.V_elderB (vq_ HO275) gb280 (Nat.le_of_eq hg.symm)) hb); replace HO278 := Aside0.mk (Kd.V_below (Kd.V_elderB (vq_ HO278) gb280 (Nat.le_of_eq hg.symm)) hb); replace BK280 := Aside0.mk (hbox); replace GW280 := Aside0.mk ((by rw [hg]; exact (below_size (by repeat (first | (with_reducible first | exact HB.out | apply below_alloc | apply pw_below_drewN | apply below_drew1 | refine below_set ?_ GE250.out | refine below_set ?_ GE257.out) | exact HB.out))) : w.heap.size ≤ gb280)); replace HB := Aside0.mk (below_step (by repeat (first | (with_reducible first | exact HB.out | apply below_alloc | apply pw_below_drewN | apply below_drew1 | refine below_set ?_ GE250.out | refine below_set ?_ GE257.out) | exact HB.out)) hb); replace GE280 := GW280; replace NB250_280 := Aside0.mk ((by rw [hg]; exact Nat.ne_of_lt (blk_lt (g := gb250) (o := .cells #[.int .i64 3, .int .i64 2, .int .i64 0, .slice Ao27 y247.length co27, .slice none 0 0] 26 (0, 0)) (bq_ BK250)) : gb250 ≠ gb280)); replace NB280_250 := Aside0.mk ((by rw [hg]; exact Nat.ne_of_gt (blk_lt (g := gb250) (o := .cells #[.int .i64 3, .int .i64 2, .int .i64 0, .slice Ao27 y247.length co27, .slice none 0 0] 26 (0, 0)) (bq_ BK250)) : gb280 ≠ gb250)); replace BK250 := bb_ BK250 hb; replace NB257_280 := Aside0.mk ((by rw [hg]; exact Nat.ne_of_lt (blk_lt (g := gb257) (o := .cells #[.int .i64 1, .int .i64 3, .int .i64 0, .slice Ao35 y251.length co35, .slice Ao34 y254.length co34] 26 (0, 0)) (bq_ BK257)) : gb257 ≠ gb280)); replace NB280_257 := Aside0.mk ((by rw [hg]; exact Nat.ne_of_gt (blk_lt (g := gb257) (o := .cells #[.int .i64 1, .int .i64 3, .int .i64 0, .slice Ao35 y251.length co35, .slice Ao34 y254.length co34] 26 (0, 0)) (bq_ BK257)) : gb280 ≠ gb257)); replace BK257 := bb_ BK257 hb; clear hb hbox hg; have hnb50 := NB280_250.out; have hnc50 := NB250_280.out; have hnb51 := NB280_257.out; have hnc51 := NB257_280.out; have hcz52_0 : w49.cell? ⟨gb280, 0, none⟩ = some (.int .i64 0) := (blk_cell BK280.out 0).trans rfl; have hcz52_1 : w49.cell? ⟨gb280, 1, none⟩ = some (.int .i64 0) := (blk_cell BK280.out 1).trans rfl; have hcz52_2 : w49.cell? ⟨gb280, 2, none⟩ = some (.int .i64 0) := (blk_cell BK280.out 2).trans rfl; have hcz52_3 : w49.cell? ⟨gb280, 3, none⟩ = some (.slice none 0 0) := (blk_cell BK280.out 3).trans rfl; have hcz52_4 : w49.cell? ⟨gb280, 4, none⟩ = some (.slice none 0 0) := (blk_cell BK280.out 4).trans rfl; have hfz52_0 := blk_frozen BK280.out 0; have hfz52_1 := blk_frozen BK280.out 1; have hfz52_2 := blk_frozen BK280.out 2; have hfz52_3 := blk_frozen BK280.out 3; have hfz52_4 := blk_frozen BK280.out 4; obtain ⟨Ao53, co53, eo53⟩ := Kd.V_slice HO275.out; subst eo53; obtain ⟨Ao54, co54, eo54⟩ := Kd.V_slice HO278.out; subst eo54) | ((with_reducible refine gate_dst (N := 46) rfl ?_); (try (refine gate_guard (by rfl) ?_; dsimp only)); refine Kd.R_lit (Kd.int .i64) _ 3 ?hg (N := 46) ?hd (xs := ([3] : List Int)) (inner := [.int .i64 3]) (ok := fun _ => True) (okp := fun _ => True) ?hr ?hp (fun _ hk => hk) trivial (Below.refl _ _) (Nat.le_refl _) (by simp) ?_; (case hd => rfl); (case hg => rfl); (case hr => first | (go_simp; done) | (go_simp; rfl)); (case hp => exact (Reps.one (show Kd.M (Kd.int .i64) _ _ _ 3 [.int .i64 3] from rfl) (Reps.none _ _))); intro v282 w55 ho56 hb hg_ hnew_; clear hg_ hnew_; (first | rw [← Ny281.out] at ho56 | (simp only [Int.reduceToNat] at ho56; rw [← Ny281.out] at ho56)); replace HO249 := Aside0.mk (Kd.R_below (by (with_reducible repeat (first | apply Kd.R_alloc | apply Kd.R_drewN | apply Kd.R_drew)); exact (Kd.R_mono (Kd.R_far (p := ⟨gb280, 4, none⟩) (Kd.R_far (p := ⟨gb280, 3, none⟩) (Kd.R_far (p := ⟨gb280, 2, none⟩) (Kd.R_far (p := ⟨gb280, 1, none⟩) (Kd.R_far (p := ⟨gb280, 0, none⟩) (Kd.R_types HO249.out BK280.out (by decide)) (fun _ hk => hk.2) (.int .i64 t270)) (fun _ hk => hk.2) (.int .i64 t271)) (fun _ hk => hk.2) (.int .i64 t272)) (fun _ hk => hk.2) (.slice Ao53 t273.length co53)) (fun _ hk => hk.2) (.slice Ao54 t276.length co54)) (fun _ h_ => h_.1))) hb); replace HO253 := Aside0.mk (Kd.R_below (by (with_reducible repeat (first | apply Kd.R_alloc | apply Kd.R_drewN | apply Kd.R_drew)); exact (Kd.R_mono (Kd.R_far (p := ⟨gb280, 4, none⟩) (Kd.R_far (p := ⟨gb280, 3, none⟩) (Kd.R_far (p := ⟨gb280, 2, none⟩) (Kd.R_far (p := ⟨gb280, 1, none⟩) (Kd.R_far (p := ⟨gb280, 0, none⟩) (Kd.R_types HO253.out BK280.out (by decide)) (fun _ hk => hk.2) (.int .i64 t270)) (fun _ hk => hk.2) (.int .i64 t271)) (fun _ hk => hk.2) (.int .i64 t272)) (fun _ hk => hk.2) (.slice Ao53 t273.length co53)) (fun _ hk => hk.2) (.slice Ao54 t276.length co54)) (fun _ h_ => h_.1))) hb); replace HO256 := Aside0.mk (Kd.R_below (by (with_reducible repeat (first | apply Kd.R_alloc | apply Kd.R_drewN | apply Kd.R_drew)); exact (Kd.R_mono (Kd.R_far (p := ⟨gb280, 4, none⟩) (Kd.R_far (p := ⟨gb280, 3, none⟩) (Kd.R_far (p := ⟨gb280, 2, none⟩) (Kd.R_far (p := ⟨gb280, 1, none⟩) (Kd.R_far (p := ⟨gb280, 0, none⟩) (Kd.R_types HO256.out BK280.out (by decide)) (fun _ hk => hk.2) (.int .i64 t270)) (fun _ hk => hk.2) (.int .i64 t271)) (fun _ hk => hk.2) (.int .i64 t272)) (fun _ hk => hk.2) (.slice Ao53 t273.length co53)) (fun _ hk => hk.2) (.slice Ao54 t276.length co54)) (fun _ h_ => h_.1))) hb); replace HO260 := Aside0.mk (Kd.V_elder' (by (with_reducible repeat (first | apply Kd.V_alloc | apply Kd.V_drewN | apply Kd.V_drew)); exact (Kd.V_mono (Kd.V_far (p := ⟨gb280, 4, none⟩) (Kd.V_far (p := ⟨gb280, 3, none⟩) (Kd.V_far (p := ⟨gb280, 2, none⟩) (Kd.V_far (p := ⟨gb280, 1, none⟩) (Kd.V_far (p := ⟨gb280, 0, none⟩) (Kd.V_mono HO260.out (fun k_ hk => (⟨hk, hk.2⟩ : _ ∧ k_ ≠ gb280))) (fun _ hk => hk.2) (.int .i64 t270)) (fun _ hk => hk.2) (.int .i64 t271)) (fun _ hk => hk.2) (.int .i64 t272)) (fun _ hk => hk.2) (.slice Ao53 t273.length co53)) (fun _ hk => hk.2) (.slice Ao54 t276.length co54)) (fun _ h_ => h_.1))) (Kd.R_base ho56) hb); replace HO264 := Aside0.mk (Kd.V_elder' (by (with_reducible repeat (first | apply Kd.V_alloc | apply Kd.V_drewN | apply Kd.V_drew)); exact (Kd.V_mono (Kd.V_far (p := ⟨gb280, 4, none⟩) (Kd.V_far (p := ⟨gb280, 3, none⟩) (Kd.V_far (p := ⟨gb280, 2, none⟩) (Kd.V_far (p := ⟨gb280, 1, none⟩) (Kd.V_far (p := ⟨gb280, 0, none⟩) (Kd.V_mono HO264.out (fun k_ hk => (⟨hk, hk.2⟩ : _ ∧ k_ ≠ gb280))) (fun _ hk => hk.2) (.int .i64 t270)) (fun _ hk => hk.2) (.int .i64 t271)) (fun _ hk => hk.2) (.int .i64 t272)) (fun _ hk => hk.2) (.slice Ao53 t273.length co53)) (fun _ hk => hk.2) (.slice Ao54 t276.length co54)) (fun _ h_ => h_.1))) (Kd.R_base ho56) hb); replace HO268 := Aside0.mk (Kd.V_elder' (by (with_reducible repeat (first | apply Kd.V_alloc | apply Kd.V_drewN | apply Kd.V_drew)); exact (Kd.V_mono (Kd.V_far (p := ⟨gb280, 4, none⟩) (Kd.V_far (p := ⟨gb280, 3, none⟩) (Kd.V_far (p := ⟨gb280, 2, none⟩) (Kd.V_far (p := ⟨gb280, 1, none⟩) (Kd.V_far (p := ⟨gb280, 0, none⟩) (Kd.V_mono HO268.out (fun k_ hk => (⟨hk, hk.2⟩ : _ ∧ k_ ≠ gb280))) (fun _ hk => hk.2) (.int .i64 t270)) (fun _ hk => hk.2) (.int .i64 t271)) (fun _ hk => hk.2) (.int .i64 t272)) (fun _ hk => hk.2) (.slice Ao53 t273.length co53)) (fun _ hk => hk.2) (.slice Ao54 t276.length co54)) (fun _ h_ => h_.1))) (Kd.R_base ho56) hb); replace HO275 := Aside0.mk (Kd.V_elder' (by (with_reducible repeat (first | apply Kd.V_alloc | apply Kd.V_drewN | apply Kd.V_drew)); exact (Kd.V_mono (Kd.V_far (p := ⟨gb280, 4, none⟩) (Kd.V_far (p := ⟨gb280, 3, none⟩) (Kd.V_far (p := ⟨gb280, 2, none⟩) (Kd.V_far (p := ⟨gb280, 1, none⟩) (Kd.V_far (p := ⟨gb280, 0, none⟩) (Kd.V_mono HO275.out (fun k_ hk => (⟨hk, hk.2⟩ : _ ∧ k_ ≠ gb280))) (fun _ hk => hk.2) (.int .i64 t270)) (fun _ hk => hk.2) (.int .i64 t271)) (fun _ hk => hk.2) (.int .i64 t272)) (fun _ hk => hk.2) (.slice Ao53 t273.length co53)) (fun _ hk => hk.2) (.slice Ao54 t276.length co54)) (fun _ h_ => h_.1))) (Kd.R_base ho56) hb); replace HO278 := Aside0.mk (Kd.V_elder' (by (with_reducible repeat (first | apply Kd.V_alloc | apply Kd.V_drewN | apply Kd.V_drew)); exact (Kd.V_mono (Kd.V_far (p := ⟨gb280, 4, none⟩) (Kd.V_far (p := ⟨gb280, 3, none⟩) (Kd.V_far (p := ⟨gb280, 2, none⟩) (Kd.V_far (p := ⟨gb280, 1, none⟩) (Kd.V_far (p := ⟨gb280, 0, none⟩) (Kd.V_mono HO278.out (fun k_ hk => (⟨hk, hk.2⟩ : _ ∧ k_ ≠ gb280))) (fun _ hk => hk.2) (.int .i64 t270)) (fun _ hk => hk.2) (.int .i64 t271)) (fun _ hk => hk.2) (.int .i64 t272)) (fun _ hk => hk.2) (.slice Ao53 t273.length co53)) (fun _ hk => hk.2) (.slice Ao54 t276.length co54)) (fun _ h_ => h_.1))) (Kd.R_base ho56) hb); replace HO283 := Aside0.mk (Kd.R_lower ho56 (below_size (by repeat (first | (with_reducible first | exact HB.out | apply below_alloc | apply pw_below_drewN | apply below_drew1 | refine below_set ?_ GE250.out | refine below_set ?_ GE257.out | refine below_set ?_ GE280.out) | exact HB.out)))); replace BK250 := Aside0.mk (blk_below (g := gb250) (o := .cells #[.int .i64 3, .int .i64 2, .int .i64 0, .slice Ao27 y247.length co27, .slice none 0 0] 26 (0, 0)) (by (with_reducible repeat (first | refine blk_drewN ?_ _ | refine blk_drew ?_ | refine blk_alloc ?_ _)); refine blk_far ?_ NB250_280.out _; (with_reducible repeat (first | refine blk_drewN ?_ _ | refine blk_drew ?_ | refine blk_alloc ?_ _)); refine blk_far ?_ NB250_280.out _; (with_reducible repeat (first | refine blk_drewN ?_ _ | refine blk_drew ?_ | refine blk_alloc ?_ _)); refine blk_far ?_ NB250_280.out _; (with_reducible repeat (first | refine blk_drewN ?_ _ | refine blk_drew ?_ | refine blk_alloc ?_ _)); refine blk_far ?_ NB250_280.out _; (with_reducible repeat (first | refine blk_drewN ?_ _ | refine blk_drew ?_ | refine blk_alloc ?_ _)); refine blk_far ?_ NB250_280.out _; (with_reducible repeat (first | refine blk_drewN ?_ _ | refine blk_drew ?_ | refine blk_alloc ?_ _)); exact BK250.out) hb); replace BK257 := Aside0.mk (blk_below (g := gb257) (o := .cells #[.int .i64 1, .int .i64 3, .int .i64 0, .slice Ao35 y251.length co35, .slice Ao34 y254.length co34] 26 (0, 0)) (by (with_reducible repeat (first | refine blk_drewN ?_ _ | refine blk_drew ?_ | refine blk_alloc ?_ _)); refine blk_far ?_ NB257_280.out _; (with_reducible repeat (first | refine blk_drewN ?_ _ | refine blk_drew ?_ | refine blk_alloc ?_ _)); refine blk_far ?_ NB257_280.out _; (with_reducible repeat (first | refine blk_drewN ?_ _ | refine blk_drew ?_ | refine blk_alloc ?_ _)); refine blk_far ?_ NB257_280.out _; (with_reducible repeat (first | refine blk_drewN ?_ _ | refine blk_drew ?_ | refine blk_alloc ?_ _)); refine blk_far ?_ NB257_280.out _; (with_reducible repeat (first | refine blk_drewN ?_ _ | refine blk_drew ?_ | refine blk_alloc ?_ _)); refine blk_far ?_ NB257_280.out _; (with_reducible repeat (first | refine blk_drewN ?_ _ | refine blk_drew ?_ | refine blk_alloc ?_ _)); exact BK257.out) hb); replace BK280 := Aside0.mk (blk_below (g := gb280) (o := .cells #[.int .i64 t270, .int .i64 t271, .int .i64 t272, .slice Ao53 t273.length co53, .slice Ao54 t276.length co54] 26 (0, 0)) (by (with_reducible repeat (first | refine blk_drewN ?_ _ | refine blk_drew ?_ | refine blk_alloc ?_ _)); refine blk_put (cs := #[.int .i64 t270, .int .i64 t271, .int .i64 t272, .slice Ao53 t273.length co53, .slice none 0 0]) ?_ 4 _ rfl; (with_reducible repeat (first | refine blk_drewN ?_ _ | refine blk_drew ?_ | refine blk_alloc ?_ _)); refine blk_put (cs := #[.int .i64 t270, .int .i64 t271, .int .i64 t272, .slice none 0 0, .slice none 0 0]) ?_ 3 _ rfl; (with_reducible repeat (first | refine blk_drewN ?_ _ | refine blk_drew ?_ | refine blk_alloc ?_ _)); refine blk_put (cs := #[.int .i64 t270, .int .i64 t271, .int .i64 0, .slice none 0 0, .slice none 0 0]) ?_ 2 _ rfl; (with_reducible repeat (first | refine blk_drewN ?_ _ | refine blk_drew ?_ | refine blk_alloc ?_ _)); refine blk_put (cs := #[.int .i64 t270, .int .i64 0, .int .i64 0, .slice none 0 0, .slice none 0 0]) ?_ 1 _ rfl; (with_reducible repeat (first | refine blk_drewN ?_ _ | refine blk_drew ?_ | refine blk_alloc ?_ _)); refine blk_put (cs := #[.int .i64 0, .int .i64 0, .int .i64 0, .slice none 0 0, .slice none 0 0]) ?_ 0 _ rfl; (with_reducible repeat (first | refine blk_drewN ?_ _ | refine blk_drew ?_ | refine blk_alloc ?_ _)); exact BK280.out) hb); replace HB := Aside0.mk (below_step (by repeat (first | (with_reducible first | exact HB.out | apply below_alloc | apply pw_below_drewN | apply below_drew1 | refine below_set ?_ GE250.out | refine below_set ?_ GE257.out | refine below_set ?_ GE280.out) | exact HB.out)) hb); clear hb ho56; obtain ⟨Ao57, co57, eo57⟩ := Kd.R_slice HO283.out; subst eo57) | ((with_reducible refine gate_callee (f := 20) rfl ?_); refine goesL_ (some 47) rfl rfl Try.func20 (by kernel_rfl) rfl #[.slice Ao46 t262.length co46, .slice Ao57 y281.length co57] rfl mp_ ?_; (with_reducible refine (sleep_Drop.calls k (fun k_ => (((k_ ≠ gb250 ∧ k_ ≠ gb257) ∧ k_ ≠ gb280) ∧ some k_ ≠ (.slice Ao57 y281.length co57 : Value).ownBlock)) _ _ t262 _ _ y281 t284 t287 _ ?side1 ?side2 ?side3 A5.out).mono ?_); (case side1 => exact HO264.out); (case side2 => repeat (first | exact (Kd.R_reads' HO283.out).2.2 | with_reducible first | refine Kd.C_alloc ?_ _ | refine Kd.C_drewN ?_ _ | refine Kd.C_drew ?_)); (case side3 => exact (Kd.R_reads' HO283.out).2.1); rintro e w58 ⟨v285, rfl, ho0, hb⟩; refine ⟨_, rfl, ?_⟩; replace HO249 := rb_ HO249 hb; replace HO253 := rb_ HO253 hb; replace HO256 := rb_ HO256 hb; replace HO260 := vb_ HO260 hb; replace HO264 := vb_ HO264 hb; replace HO268 := vb_ HO268 hb; replace HO275 := vb_ HO275 hb; replace HO278 := vb_ HO278 hb; replace HO286 := Aside0.mk (Kd.V_lower (Kd.V_mono (ok' := fun k_ => some k_ ≠ (.slice Ao57 y281.length co57 : Value).ownBlock ∧ k_ ≠ gb250 ∧ k_ ≠ gb257 ∧ k_ ≠ gb280) ho0 (fun k_ hk_ => ⟨Or.elim hk_ (fun hs_ => hs_.2) (fun hn_ => (Kd.fresh' (Kd.R_lt (rq_ HO283)) k_ hn_)), Or.elim hk_ (fun hs_ => hs_.1.1.1) (fun hn_ => (Kd.freshB (g := gb250) (o := .cells #[.int .i64 3, .int .i64 2, .int .i64 0, .slice Ao27 y247.length co27, .slice none 0 0] 26 (0, 0)) (bq_ BK250) k_ hn_)), Or.elim hk_ (fun hs_ => hs_.1.1.2) (fun hn_ => (Kd.freshB (g := gb257) (o := .cells #[.int .i64 1, .int .i64 3, .int .i64 0, .slice Ao35 y251.length co35, .slice Ao34 y254.length co34] 26 (0, 0)) (bq_ BK257) k_ hn_)), Or.elim hk_ (fun hs_ => hs_.1.2) (fun hn_ => (Kd.freshB (g := gb280) (o := .cells #[.int .i64 t270, .int .i64 t271, .int .i64 t272, .slice Ao53 t273.length co53, .slice Ao54 t276.length co54] 26 (0, 0)) (bq_ BK280) k_ hn_))⟩)) (below_size (by repeat (first | (with_reducible first | exact HB.out | apply below_alloc | apply pw_below_drewN | apply below_drew1 | refine below_set ?_ GE250.out | refine below_set ?_ GE257.out | refine below_set ?_ GE280.out) | exact HB.out)))); replace HO283 := rb_ HO283 hb; replace BK250 := bb_ BK250 hb; replace BK257 := bb_ BK257 hb; replace BK280 := bb_ BK280 hb; replace HB := Aside0.mk (below_step (by repeat (first | (with_reducible first | exact HB.out | apply below_alloc | apply pw_below_drewN | apply below_drew1 | refine below_set ?_ GE250.out | refine below_set ?_ GE257.out | refine below_set ?_ GE280.out) | exact HB.out)) hb); (try clear hb); (try clear hb2); (try clear hk); (try clear hi); (try clear ho0)) | ((with_reducible refine gate_dst (N := 52) rfl ?_); (try (refine gate_guard (by rfl) ?_; dsimp only)); refine Kd.R_lit (Kd.int .i64) _ 3 ?hg (N := 52) ?hd (xs := ([2] : List Int)) (inner := [.int .i64 2]) (ok := fun _ => True) (okp := fun _ => True) ?hr ?hp (fun _ hk => hk) trivial (Below.refl _ _) (Nat.le_refl _) (by simp) ?_; (case hd => rfl); (case hg => rfl); (case hr => first | (go_simp; done) | (go_simp; rfl)); (case hp => exact (Reps.one (show Kd.M (Kd.int .i64) _ _ _ 2 [.int .i64 2] from rfl) (Reps.none _ _))); intro v289 w59 ho60 hb hg_ hnew_; clear hg_ hnew_; (first | rw [← Ny288.out] at ho60 | (simp only [Int.reduceToNat] at ho60; rw [← Ny288.out] at ho60)); replace HO249 := rb_ HO249 hb; replace HO253 := rb_ HO253 hb; replace HO256 := rb_ HO256 hb; replace HO260 := Aside0.mk (Kd.V_elder' (vq_ HO260) (Kd.R_base ho60) hb); replace HO264 := Aside0.mk (Kd.V_elder' (vq_ HO264) (Kd.R_base ho60) hb); replace HO268 := Aside0.mk (Kd.V_elder' (vq_ HO268) (Kd.R_base ho60) hb); replace HO275 := Aside0.mk (Kd.V_elder' (vq_ HO275) (Kd.R_base ho60) hb); replace HO278 := Aside0.mk (Kd.V_elder' (vq_ HO278) (Kd.R_base ho60) hb); replace HO286 := Aside0.mk (Kd.V_elder' (vq_ HO286) (Kd.R_base ho60) hb); replace HO290 := Aside0.mk (Kd.R_lower (Kd.R_new' ho60 (Kd.R_lt (rq_ HO283))) (below_size (by repeat (first | (with_reducible first | exact HB.out | apply below_alloc | apply pw_below_drewN | apply below_drew1 | refine below_set ?_ GE250.out | refine below_set ?_ GE257.out | refine below_set ?_ GE280.out) | exact HB.out)))); replace HO283 := Aside0.mk (Kd.R_elder' (rq_ HO283) (Kd.R_base ho60) hb); replace BK250 := bb_ BK250 hb; replace BK257 := bb_ BK257 hb; replace BK280 := bb_ BK280 hb; replace HB := Aside0.mk (below_step (by repeat (first | (with_reducible first | exact HB.out | apply below_alloc | apply pw_below_drewN | apply below_drew1 | refine below_set ?_ GE250.out | refine below_set ?_ GE257.out | refine below_set ?_ GE280.out) | exact HB.out)) hb); clear hb ho60; obtain ⟨Ao61, co61, eo61⟩ := Kd.R_slice HO290.out; subst eo61) | ((with_reducible refine gate_callee (f := 20) rfl ?_); refine goesL_ (some 53) rfl rfl Try.func20 (by kernel_rfl) rfl #[.slice Ao46 t262.length co46, .slice Ao61 y288.length co61] rfl mp_ ?_; (with_reducible refine (sleep_Drop.calls k (fun k_ => ((((k_ ≠ gb250 ∧ k_ ≠ gb257) ∧ k_ ≠ gb280) ∧ some k_ ≠ (.slice Ao57 y281.length co57 : Value).ownBlock) ∧ some k_ ≠ (.slice Ao61 y288.length co61 : Value).ownBlock)) _ _ t262 _ _ y288 t291 t294 _ ?side1 ?side2 ?side3 A6.out).mono ?_); (case side1 => exact HO264.out); (case side2 => repeat (first | exact (Kd.R_reads' HO290.out).2.2 | with_reducible first | refine Kd.C_alloc ?_ _ | refine Kd.C_drewN ?_ _ | refine Kd.C_drew ?_)); (case side3 => exact (Kd.R_reads' HO290.out).2.1); rintro e w62 ⟨v292, rfl, ho0, hb⟩; refine ⟨_, rfl, ?_⟩; replace HO249 := rb_ HO249 hb; replace HO253 := rb_ HO253 hb; replace HO256 := rb_ HO256 hb; replace HO260 := vb_ HO260 hb; replace HO264 := vb_ HO264 hb; replace HO268 := vb_ HO268 hb; replace HO275 := vb_ HO275 hb; replace HO278 := vb_ HO278 hb; replace HO286 := vb_ HO286 hb; replace HO293 := Aside0.mk (Kd.V_lower (Kd.V_mono (ok' := fun k_ => some k_ ≠ (.slice Ao57 y281.length co57 : Value).ownBlock ∧ some k_ ≠ (.slice Ao61 y288.length co61 : Value).ownBlock ∧ k_ ≠ gb250 ∧ k_ ≠ gb257 ∧ k_ ≠ gb280) ho0 (fun k_ hk_ => ⟨Or.elim hk_ (fun hs_ => hs_.1.2) (fun hn_ => (Kd.fresh' (Kd.R_lt (rq_ HO283)) k_ hn_)), Or.elim hk_ (fun hs_ => hs_.2) (fun hn_ => (Kd.fresh' (Kd.R_lt (rq_ HO290)) k_ hn_)), Or.elim hk_ (fun hs_ => hs_.1.1.1.1) (fun hn_ => (Kd.freshB (g := gb250) (o := .cells #[.int .i64 3, .int .i64 2, .int .i64 0, .slice Ao27 y247.length co27, .slice none 0 0] 26 (0, 0)) (bq_ BK250) k_ hn_)), Or.elim hk_ (fun hs_ => hs_.1.1.1.2) (fun hn_ => (Kd.freshB (g := gb257) (o := .cells #[.int .i64 1, .int .i64 3, .int .i64 0, .slice Ao35 y251.length co35, .slice Ao34 y254.length co34] 26 (0, 0)) (bq_ BK257) k_ hn_)), Or.elim hk_ (fun hs_ => hs_.1.1.2) (fun hn_ => (Kd.freshB (g := gb280) (o := .cells #[.int .i64 t270, .int .i64 t271, .int .i64 t272, .slice Ao53 t273.length co53, .slice Ao54 t276.length co54] 26 (0, 0)) (bq_ BK280) k_ hn_))⟩)) (below_size (by repeat (first | (with_reducible first | exact HB.out | apply below_alloc | apply pw_below_drewN | apply below_drew1 | refine below_set ?_ GE250.out | refine below_set ?_ GE257.out | refine below_set ?_ GE280.out) | exact HB.out)))); replace HO283 := rb_ HO283 hb; replace HO290 := rb_ HO290 hb; replace BK250 := bb_ BK250 hb; replace BK257 := bb_ BK257 hb; replace BK280 := bb_ BK280 hb; replace HB := Aside0.mk (below_step (by repeat (first | (with_reducible first | exact HB.out | apply below_alloc | apply pw_below_drewN | apply below_drew1 | refine below_set ?_ GE250.out | refine below_set ?_ GE257.out | refine below_set ?_ GE280.out) | exact HB.out)) hb); (try clear hb); (try clear hb2); (try clear hk); (try clear hi); (try clear ho0); have p295 : 0 ≤ (0 : Int) := (by omega); have q295 : 0 < (t262.length : Int) := oda_; obtain ⟨ad295, A295_3, c295_3, A295_4, c295_4, e295, hx295_0, hx295_1, hx295_2, hx295_3, hx295_4, hl295_3, hi295_3, hl295_4, hi295_4⟩ := at_T26 (Kd.V_reads' HO264.out).2.2 0 p295 q295; cases e295; obtain ⟨ce295, hce295, hMe295, hcc295⟩ := Kd.V_get HO264.out z26 0 p295 (by first | exact q295 | exact oda_ | (have e_ := (Kd.V_reads' HO264.out).1; omega)); obtain ⟨ua295_3, uc295_3, ua295_4, uc295_4, rfl, ul295_3, ge295_3, ul295_4, ge295_4⟩ := k26_openF hMe295; have hv295_3 := hcc295 3 _ rfl; rw [add_field _ _ 3 (by omega)] at hv295_3; replace hv295_3 := Option.some.inj (hv295_3.symm.trans hx295_3); injection hv295_3 with hva_ hvn_ hvc_; rw [hva_] at ge295_3; rw [hvc_] at ul295_3; have HL295_3 := Aside0.mk (show Kd.V k62 62 _ w.heap.size _ _ ((rd_T26 t262 0).f3) from Kd.V_mk ul295_3 ge295_3); clear hva_ hvn_ hvc_ ge295_3 ul295_3; have hv295_4 := hcc295 4 _ rfl; rw [add_field _ _ 4 (by omega)] at hv295_4; replace hv295_4 := Option.some.inj (hv295_4.symm.trans hx295_4); injection hv295_4 with hva_ hvn_ hvc_; rw [hva_] at ge295_4; rw [hvc_] at ul295_4; have HL295_4 := Aside0.mk (show Kd.V k80 80 _ w.heap.size _ _ ((rd_T26 t262 0).f4) from Kd.V_mk ul295_4 ge295_4); clear hva_ hvn_ hvc_ ge295_4 ul295_4; clear hcc295 hce295; have qi295 : (0 < t262.length) = True := eq_true (by omega); (try rw [show ((0 : Int)).toNat = 0 from rfl] at hx295_0); (try rw [show 0 * 5 = 0 from rfl] at hx295_0); (try rw [Addr.add_zero'] at hx295_0); (try rw [show ((0 : Int)).toNat = 0 from rfl] at hx295_1); (try rw [show 0 * 5 = 0 from rfl] at hx295_1); (try rw [Addr.add_zero'] at hx295_1); (try rw [show ((0 : Int)).toNat = 0 from rfl] at hx295_2); (try rw [show 0 * 5 = 0 from rfl] at hx295_2); (try rw [Addr.add_zero'] at hx295_2); (try rw [show ((0 : Int)).toNat = 0 from rfl] at hx295_3); (try rw [show 0 * 5 = 0 from rfl] at hx295_3); (try rw [Addr.add_zero'] at hx295_3); (try rw [show ((0 : Int)).toNat = 0 from rfl] at hx295_4); (try rw [show 0 * 5 = 0 from rfl] at hx295_4); (try rw [Addr.add_zero'] at hx295_4); have HR295_3 := Aside0.mk hi295_3; have HC295_3 := Aside0.mk hl295_3; clear hi295_3 hl295_3; have HR295_4 := Aside0.mk hi295_4; have HC295_4 := Aside0.mk hl295_4; clear hi295_4 hl295_4; replace p295 := eq_true p295; replace q295 := eq_true q295; have hcz63_0 : w62.cell? ⟨gb280, 0, none⟩ = some (.int .i64 t270) := (blk_cell BK280.out 0).trans rfl; have hcz63_1 : w62.cell? ⟨gb280, 1, none⟩ = some (.int .i64 t271) := (blk_cell BK280.out 1).trans rfl; have hcz63_2 : w62.cell? ⟨gb280, 2, none⟩ = some (.int .i64 t272) := (blk_cell BK280.out 2).trans rfl; have hcz63_3 : w62.cell? ⟨gb280, 3, none⟩ = some (.slice Ao53 t273.length co53) := (blk_cell BK280.out 3).trans rfl; have hcz63_4 : w62.cell? ⟨gb280, 4, none⟩ = some (.slice Ao54 t276.length co54) := (blk_cell BK280.out 4).trans rfl; have hfz63_0 := blk_frozen BK280.out 0; have hfz63_1 := blk_frozen BK280.out 1; have hfz63_2 := blk_frozen BK280.out 2; have hfz63_3 := blk_frozen BK280.out 3; have hfz63_4 := blk_frozen BK280.out 4; obtain ⟨Ao64, co64, eo64⟩ := Kd.V_slice HO286.out; subst eo64) | ((with_reducible refine gate_dst (N := 103) rfl ?_); (try (refine gate_guard (by rfl) ?_; dsimp only)); refine Kd.R_lit (Kd.int .i64) _ 3 ?hg (N := 103) ?hd (xs := ([4, 2] : List Int)) (inner := [.int .i64 4, .int .i64 2]) (ok := fun _ => True) (okp := fun _ => True) ?hr ?hp (fun _ hk => hk) trivial (Below.refl _ _) (Nat.le_refl _) (by simp) ?_; (case hd => rfl); (case hg => rfl); (case hr => first | (go_simp; done) | (go_simp; rfl)); (case hp => exact (Reps.one (show Kd.M (Kd.int .i64) _ _ _ 4 [.int .i64 4] from rfl) (Reps.one (show Kd.M (Kd.int .i64) _ _ _ 2 [.int .i64 2] from rfl) (Reps.none _ _)))); intro v297 w65 ho66 hb hg_ hnew_; clear hg_ hnew_; (first | rw [← Ny296.out] at ho66 | (simp only [Int.reduceToNat] at ho66; rw [← Ny296.out] at ho66)); replace HO249 := rb_ HO249 hb; replace HO253 := rb_ HO253 hb; replace HO256 := rb_ HO256 hb; replace HO260 := Aside0.mk (Kd.V_elder' (vq_ HO260) (Kd.R_base ho66) hb); replace HO264 := Aside0.mk (Kd.V_elder' (vq_ HO264) (Kd.R_base ho66) hb); replace HO268 := Aside0.mk (Kd.V_elder' (vq_ HO268) (Kd.R_base ho66) hb); replace HO275 := Aside0.mk (Kd.V_elder' (vq_ HO275) (Kd.R_base ho66) hb); replace HO278 := Aside0.mk (Kd.V_elder' (vq_ HO278) (Kd.R_base ho66) hb); replace HO286 := Aside0.mk (Kd.V_elder' (vq_ HO286) (Kd.R_base ho66) hb); replace HO293 := Aside0.mk (Kd.V_elder' (vq_ HO293) (Kd.R_base ho66) hb); replace HL295_3 := Aside0.mk (Kd.V_elder' (vq_ HL295_3) (Kd.R_base ho66) hb); replace HL295_4 := Aside0.mk (Kd.V_elder' (vq_ HL295_4) (Kd.R_base ho66) hb); replace HO298 := Aside0.mk (Kd.R_lower (Kd.R_new' (Kd.R_new' ho66 (Kd.R_lt (rq_ HO283))) (Kd.R_lt (rq_ HO290))) (below_size (by repeat (first | (with_reducible first | exact HB.out | apply below_alloc | apply pw_below_drewN | apply below_drew1 | refine below_set ?_ GE250.out | refine below_set ?_ GE257.out | refine below_set ?_ GE280.out) | exact HB.out)))); replace HO283 := Aside0.mk (Kd.R_elder' (rq_ HO283) (Kd.R_base ho66) hb); replace HO290 := Aside0.mk (Kd.R_elder' (rq_ HO290) (Kd.R_base ho66) hb); replace BK250 := bb_ BK250 hb; replace BK257 := bb_ BK257 hb; replace BK280 := bb_ BK280 hb; replace HR295_3 := Aside0.mk (Kd.V_reads' HL295_3.out).2.2; replace HR295_4 := Aside0.mk (Kd.V_reads' HL295_4.out).2.2; replace HB := Aside0.mk (below_step (by repeat (first | (with_reducible first | exact HB.out | apply below_alloc | apply pw_below_drewN | apply below_drew1 | refine below_set ?_ GE250.out | refine below_set ?_ GE257.out | refine below_set ?_ GE280.out) | exact HB.out)) hb); clear hb ho66; obtain ⟨Ao67, co67, eo67⟩ := Kd.R_slice HO298.out; subst eo67) | (go_at_call 29; (with_reducible refine (sleep_Of.calls k _ _ t262 _ _ y296 t299 _ ?side1 ?side2 ?side3 ?side4 A18.out).mono ?_); (case side1 => repeat (first | exact (Kd.V_reads' HO264.out).2.2 | with_reducible first | refine Kd.C_alloc ?_ _ | refine Kd.C_drewN ?_ _ | refine Kd.C_drew ?_)); (case side2 => exact (Kd.V_reads' HO264.out).2.1); (case side3 => repeat (first | exact (Kd.R_reads' HO298.out).2.2 | with_reducible first | refine Kd.C_alloc ?_ _ | refine Kd.C_drewN ?_ _ | refine Kd.C_drew ?_)); (case side4 => exact (Kd.R_reads' HO298.out).2.1); rintro e w68 ⟨v300, rfl, ho0, hb⟩; replace HO249 := rb_ HO249 hb; replace HO253 := rb_ HO253 hb; replace HO256 := rb_ HO256 hb; replace HO260 := Aside0.mk (Kd.V_elder' (vq_ HO260) (Kd.R_base ho0) hb); replace HO264 := Aside0.mk (Kd.V_elder' (vq_ HO264) (Kd.R_base ho0) hb); replace HO268 := Aside0.mk (Kd.V_elder' (vq_ HO268) (Kd.R_base ho0) hb); replace HO275 := Aside0.mk (Kd.V_elder' (vq_ HO275) (Kd.R_base ho0) hb); replace HO278 := Aside0.mk (Kd.V_elder' (vq_ HO278) (Kd.R_base ho0) hb); replace HO286 := Aside0.mk (Kd.V_elder' (vq_ HO286) (Kd.R_base ho0) hb); replace HO293 := Aside0.mk (Kd.V_elder' (vq_ HO293) (Kd.R_base ho0) hb); replace HL295_3 := Aside0.mk (Kd.V_elder' (vq_ HL295_3) (Kd.R_base ho0) hb); replace HL295_4 := Aside0.mk (Kd.V_elder' (vq_ HL295_4) (Kd.R_base ho0) hb); replace HO301 := Aside0.mk (Kd.R_lower (Kd.R_new' (Kd.R_new' (Kd.R_new' ho0 (Kd.R_lt (rq_ HO283))) (Kd.R_lt (rq_ HO290))) (Kd.R_lt (rq_ HO298))) (below_size (by repeat (first | (with_reducible first | exact HB.out | apply below_alloc | apply pw_below_drewN | apply below_drew1 | refine below_set ?_ GE250.out | refine below_set ?_ GE257.out | refine below_set ?_ GE280.out) | exact HB.out)))); replace HO283 := Aside0.mk (Kd.R_elder' (rq_ HO283) (Kd.R_base ho0) hb); replace HO290 := Aside0.mk (Kd.R_elder' (rq_ HO290) (Kd.R_base ho0) hb); replace HO298 := Aside0.mk (Kd.R_elder' (rq_ HO298) (Kd.R_base ho0) hb); replace BK250 := bb_ BK250 hb; replace BK257 := bb_ BK257 hb; replace BK280 := bb_ BK280 hb; replace HR295_3 := Aside0.mk (Kd.V_reads' HL295_3.out).2.2; replace HR295_4 := Aside0.mk (Kd.V_reads' HL295_4.out).2.2; replace HB := Aside0.mk (below_step (by repeat (first | (with_reducible first | exact HB.out | apply below_alloc | apply pw_below_drewN | apply below_drew1 | refine below_set ?_ GE250.out | refine below_set ?_ GE257.out | refine below_set ?_ GE280.out) | exact HB.out)) hb); (try clear hb); (try clear hb2); (try clear hk); (try clear hi); (try clear ho0)) | ((with_reducible refine gate_dst (N := 105) rfl ?_); (try (refine gate_guard (by rfl) ?_; dsimp only)); refine Kd.R_lit (Kd.int .i64) _ 3 ?hg (N := 105) ?hd (xs := ([1, 3] : List Int)) (inner := [.int .i64 1, .int .i64 3]) (ok := fun _ => True) (okp := fun _ => True) ?hr ?hp (fun _ hk => hk) trivial (Below.refl _ _) (Nat.le_refl _) (by simp) ?_; (case hd => rfl); (case hg => rfl); (case hr => first | (go_simp; done) | (go_simp; rfl)); (case hp => exact (Reps.one (show Kd.M (Kd.int .i64) _ _ _ 1 [.int .i64 1] from rfl) (Reps.one (show Kd.M (Kd.int .i64) _ _ _ 3 [.int .i64 3] from rfl) (Reps.none _ _)))); intro v303 w69 ho70 hb hg_ hnew_; clear hg_ hnew_; (first | rw [← Ny302.out] at ho70 | (simp only [Int.reduceToNat] at ho70; rw [← Ny302.out] at ho70)); replace HO249 := rb_ HO249 hb; replace HO253 := rb_ HO253 hb; replace HO256 := rb_ HO256 hb; replace HO260 := Aside0.mk (Kd.V_elder' (vq_ HO260) (Kd.R_base ho70) hb); replace HO264 := Aside0.mk (Kd.V_elder' (vq_ HO264) (Kd.R_base ho70) hb); replace HO268 := Aside0.mk (Kd.V_elder' (vq_ HO268) (Kd.R_base ho70) hb); replace HO275 := Aside0.mk (Kd.V_elder' (vq_ HO275) (Kd.R_base ho70) hb); replace HO278 := Aside0.mk (Kd.V_elder' (vq_ HO278) (Kd.R_base ho70) hb); replace HO286 := Aside0.mk (Kd.V_elder' (vq_ HO286) (Kd.R_base ho70) hb); replace HO293 := Aside0.mk (Kd.V_elder' (vq_ HO293) (Kd.R_base ho70) hb); replace HL295_3 := Aside0.mk (Kd.V_elder' (vq_ HL295_3) (Kd.R_base ho70) hb); replace HL295_4 := Aside0.mk (Kd.V_elder' (vq_ HL295_4) (Kd.R_base ho70) hb); replace HO304 := Aside0.mk (Kd.R_lower (Kd.R_new' (Kd.R_new' (Kd.R_new' (Kd.R_new' ho70 (Kd.R_lt (rq_ HO283))) (Kd.R_lt (rq_ HO290))) (Kd.R_lt (rq_ HO298))) (Kd.R_lt (rq_ HO301))) (below_size (by repeat (first | (with_reducible first | exact HB.out | apply below_alloc | apply pw_below_drewN | apply below_drew1 | refine below_set ?_ GE250.out | refine below_set ?_ GE257.out | refine below_set ?_ GE280.out) | exact HB.out)))); replace HO283 := Aside0.mk (Kd.R_elder' (rq_ HO283) (Kd.R_base ho70) hb); replace HO290 := Aside0.mk (Kd.R_elder' (rq_ HO290) (Kd.R_base ho70) hb); replace HO298 := Aside0.mk (Kd.R_elder' (rq_ HO298) (Kd.R_base ho70) hb); replace HO301 := Aside0.mk (Kd.R_elder' (rq_ HO301) (Kd.R_base ho70) hb); replace BK250 := bb_ BK250 hb; replace BK257 := bb_ BK257 hb; replace BK280 := bb_ BK280 hb; replace HR295_3 := Aside0.mk (Kd.V_reads' HL295_3.out).2.2; replace HR295_4 := Aside0.mk (Kd.V_reads' HL295_4.out).2.2; replace HB := Aside0.mk (below_step (by repeat (first | (with_reducible first | exact HB.out | apply below_alloc | apply pw_below_drewN | apply below_drew1 | refine below_set ?_ GE250.out | refine below_set ?_ GE257.out | refine below_set ?_ GE280.out) | exact HB.out)) hb); clear hb ho70; obtain ⟨Ao71, co71, eo71⟩ := Kd.R_slice HO301.out; subst eo71; obtain ⟨Ao72, co72, eo72⟩ := Kd.R_slice HO304.out; subst eo72) | (go_at_call 28; (with_reducible refine (handshakerref03_Numbers.calls k _ _ t299 _ _ y302 true _ ?side1 ?side2 ?side3 ?side4 A19.out).mono ?_); (case side1 => repeat (first | exact (Kd.R_reads' HO301.out).2.2 | with_reducible first | refine Kd.C_alloc ?_ _ | refine Kd.C_drewN ?_ _ | refine Kd.C_drew ?_)); (case side2 => exact (Kd.R_reads' HO301.out).2.1); (case side3 => repeat (first | exact (Kd.R_reads' HO304.out).2.2 | with_reducible first | refine Kd.C_alloc ?_ _ | refine Kd.C_drewN ?_ _ | refine Kd.C_drew ?_)); (case side4 => exact (Kd.R_reads' HO304.out).2.1); rintro e w' ⟨rfl, ⟨nd, rfl⟩⟩) | ((with_reducible refine gate_dst (N := 110) rfl ?_); (try (refine gate_guard (by rfl) ?_; dsimp only)); refine Kd.R_lit k57 _ 57 ?hg (N := 110) ?hd (xs := ([(⟨9, 0, 1⟩ : S57)] : List (S57))) (inner := [.int .i64 9, .int .i64 0, .int .i64 1]) (ok := fun _ => True) (okp := fun _ => True) ?hr ?hp (fun _ hk => hk) trivial (Below.refl _ _) (Nat.le_refl _) (by simp) ?_; (case hd => rfl); (case hg => rfl); (case hr => first | (go_simp; done) | (go_simp; rfl)); (case hp => exact (Reps.c3 (show Kd.M k57 _ _ _ (⟨9, 0, 1⟩ : S57) [.int .i64 9, .int .i64 0, .int .i64 1] from (k57_mkM _ _ _ (⟨9, 0, 1⟩ : S57) )) (Reps.none _ _))); intro v307 w73 ho74 hb hg_ hnew_; clear hg_ hnew_; (first | rw [← Ny306.out] at ho74 | (simp only [Int.reduceToNat] at ho74; rw [← Ny306.out] at ho74)); replace HO249 := rb_ HO249 hb; replace HO253 := rb_ HO253 hb; replace HO256 := rb_ HO256 hb; replace HO260 := Aside0.mk (Kd.V_elder' (vq_ HO260) (Kd.R_base ho74) hb); replace HO264 := Aside0.mk (Kd.V_elder' (vq_ HO264) (Kd.R_base ho74) hb); replace HO268 := Aside0.mk (Kd.V_elder' (vq_ HO268) (Kd.R_base ho74) hb); replace HO275 := Aside0.mk (Kd.V_elder' (vq_ HO275) (Kd.R_base ho74) hb); replace HO278 := Aside0.mk (Kd.V_elder' (vq_ HO278) (Kd.R_base ho74) hb); replace HO283 := rb_ HO283 hb; replace HO286 := Aside0.mk (Kd.V_elder' (vq_ HO286) (Kd.R_base ho74) hb); replace HO290 := rb_ HO290 hb; replace HO293 := Aside0.mk (Kd.V_elder' (vq_ HO293) (Kd.R_base ho74) hb); replace HL295_3 := Aside0.mk (Kd.V_elder' (vq_ HL295_3) (Kd.R_base ho74) hb); replace HL295_4 := Aside0.mk (Kd.V_elder' (vq_ HL295_4) (Kd.R_base ho74) hb); replace HO298 := rb_ HO298 hb; replace HO301 := rb_ HO301 hb; replace HO304 := rb_ HO304 hb; replace HO308 := Aside0.mk (Kd.R_lower ho74 (below_size (by repeat (first | (with_reducible first | exact HB.out | apply below_alloc | apply pw_below_drewN | apply below_drew1 | refine below_set ?_ GE250.out | refine below_set ?_ GE257.out | refine below_set ?_ GE280.out) | exact HB.out)))); replace BK250 := bb_ BK250 hb; replace BK257 := bb_ BK257 hb; replace BK280 := bb_ BK280 hb; replace HR295_3 := Aside0.mk (Kd.V_reads' HL295_3.out).2.2; replace HR295_4 := Aside0.mk (Kd.V_reads' HL295_4.out).2.2; replace HB := Aside0.mk (below_step (by repeat (first | (with_reducible first | exact HB.out | apply below_alloc | apply pw_below_drewN | apply below_drew1 | refine below_set ?_ GE250.out | refine below_set ?_ GE257.out | refine below_set ?_ GE280.out) | exact HB.out)) hb); clear hb ho74; obtain ⟨Ao75, co75, eo75⟩ := Kd.R_slice HO308.out; subst eo75) | (go_at_call 31; (with_reducible refine (sleep_Watched.calls k _ _ y306 t309 _ ?side1 ?side2 A21.out).mono ?_); (case side1 => repeat (first | exact (Kd.R_reads' HO308.out).2.2 | with_reducible first | refine Kd.C_alloc ?_ _ | refine Kd.C_drewN ?_ _ | refine Kd.C_drew ?_)); (case side2 => exact (Kd.R_reads' HO308.out).2.1); rintro e w76 ⟨v310, rfl, ho0, hb⟩; replace HO256 := rb_ HO256 hb; replace HO260 := Aside0.mk (Kd.V_elder' (vq_ HO260) (Kd.R_base ho0) hb); replace HO264 := Aside0.mk (Kd.V_elder' (vq_ HO264) (Kd.R_base ho0) hb); replace HO268 := Aside0.mk (Kd.V_elder' (vq_ HO268) (Kd.R_base ho0) hb); replace HO275 := Aside0.mk (Kd.V_elder' (vq_ HO275) (Kd.R_base ho0) hb); replace HO278 := Aside0.mk (Kd.V_elder' (vq_ HO278) (Kd.R_base ho0) hb); replace HO283 := rb_ HO283 hb; replace HO286 := Aside0.mk (Kd.V_elder' (vq_ HO286) (Kd.R_base ho0) hb); replace HO290 := rb_ HO290 hb; replace HO293 := Aside0.mk (Kd.V_elder' (vq_ HO293) (Kd.R_base ho0) hb); replace HL295_3 := Aside0.mk (Kd.V_elder' (vq_ HL295_3) (Kd.R_base ho0) hb); replace HL295_4 := Aside0.mk (Kd.V_elder' (vq_ HL295_4) (Kd.R_base ho0) hb); replace HO298 := rb_ HO298 hb; replace HO301 := rb_ HO301 hb; replace HO304 := rb_ HO304 hb; replace HO308 := rb_ HO308 hb; replace HO311 := Aside0.mk (Kd.R_lower (Kd.R_new' (Kd.R_new' ho0 (Kd.R_lt (rq_ HO249))) (Kd.R_lt (rq_ HO253))) (below_size (by repeat (first | (with_reducible first | exact HB.out | apply below_alloc | apply pw_below_drewN | apply below_drew1 | refine below_set ?_ GE250.out | refine below_set ?_ GE257.out | refine below_set ?_ GE280.out) | exact HB.out)))); replace HO249 := Aside0.mk (Kd.R_elder' (rq_ HO249) (Kd.R_base ho0) hb); replace HO253 := Aside0.mk (Kd.R_elder' (rq_ HO253) (Kd.R_base ho0) hb); replace BK250 := bb_ BK250 hb; replace BK257 := bb_ BK257 hb; replace BK280 := bb_ BK280 hb; replace HR295_3 := Aside0.mk (Kd.V_reads' HL295_3.out).2.2; replace HR295_4 := Aside0.mk (Kd.V_reads' HL295_4.out).2.2; replace HB := Aside0.mk (below_step (by repeat (first | (with_reducible first | exact HB.out | apply below_alloc | apply pw_below_drewN | apply below_drew1 | refine below_set ?_ GE250.out | refine below_set ?_ GE257.out | refine below_set ?_ GE280.out) | exact HB.out)) hb); (try clear hb); (try clear hb2); (try clear hk); (try clear hi); (try clear ho0); obtain ⟨Ao77, co77, eo77⟩ := Kd.R_slice HO311.out; subst eo77) | (go_at_call 26; (with_reducible refine (sleep_Right.calls k _ _ t262 true _ ?side1 ?side2 A23.out).mono ?_); (case side1 => repeat (first | exact (Kd.V_reads' HO264.out).2.2 | with_reducible first | refine Kd.C_alloc ?_ _ | refine Kd.C_drewN ?_ _ | refine Kd.C_drew ?_)); (case side2 => exact (Kd.V_reads' HO264.out).2.1); rintro e w78 ⟨rfl, hb⟩; replace HO249 := rb_ HO249 hb; replace HO253 := rb_ HO253 hb; replace HO256 := rb_ HO256 hb; replace HO260 := vb_ HO260 hb; replace HO264 := vb_ HO264 hb; replace HO268 := vb_ HO268 hb; replace HO275 := vb_ HO275 hb; replace HO278 := vb_ HO278 hb; replace HO283 := rb_ HO283 hb; replace HO286 := vb_ HO286 hb; replace HO290 := rb_ HO290 hb; replace HO293 := vb_ HO293 hb; replace HL295_3 := vb_ HL295_3 hb; replace HL295_4 := vb_ HL295_4 hb; replace HO298 := rb_ HO298 hb; replace HO301 := rb_ HO301 hb; replace HO304 := rb_ HO304 hb; replace HO308 := rb_ HO308 hb; replace HO311 := rb_ HO311 hb; replace BK250 := bb_ BK250 hb; replace BK257 := bb_ BK257 hb; replace BK280 := bb_ BK280 hb; replace HR295_3 := Aside0.mk (Kd.V_reads' HL295_3.out).2.2; replace HR295_4 := Aside0.mk (Kd.V_reads' HL295_4.out).2.2; replace HB := Aside0.mk (below_step (by repeat (first | (with_reducible first | exact HB.out | apply below_alloc | apply pw_below_drewN | apply below_drew1 | refine below_set ?_ GE250.out | refine below_set ?_ GE257.out | refine below_set ?_ GE280.out) | exact HB.out)) hb); (try clear hb); (try clear hb2); (try clear hk); (try clear hi)))
                             go_ret
                             exact ⟨by first | rfl | (simp [errW_none, errW_some] <;> rfl) | (simp [*, errW_none, errW_some] <;> rfl), by repeat (first | (with_reducible first | exact HB.out | apply below_alloc | apply pw_below_drewN | apply below_drew1 | refine below_set ?_ GE250.out | refine below_set ?_ GE257.out | refine below_set ?_ GE280.out) | exact HB.out)⟩
                           · replace c24 := Bool.eq_false_iff.mpr c24
                             subst c24
                             rw [if_neg (show ¬ (false = true) by decide)] at H
                             exact absurd (Option.some.inj H) (by rw [HT.out]; decide)
                         · rw [if_neg c22] at H
                           have c22b0 : ((t309.length : Int) == 1) = false := beq_eq_false_iff_ne.mpr c22
                           have c22b1 : ((t309.length : Int) != 1) = true := bne_iff_ne.mpr c22
                           exact absurd (Option.some.inj H) (by rw [HT.out]; decide)
                       · replace c20 := Bool.eq_false_iff.mpr c20
                         subst c20
                         rw [if_neg (show ¬ (false = true) by decide)] at H
                         exact absurd (Option.some.inj H) (by rw [HT.out]; decide)
                     · rw [if_neg c17] at H
                       have c17b0 : (t294 == 3) = false := beq_eq_false_iff_ne.mpr c17
                       have c17b1 : (t294 != 3) = true := bne_iff_ne.mpr c17
                       exact absurd (Option.some.inj H) (by rw [HT.out]; decide)
                   · rw [if_neg c16] at H
                     have c16b0 : ((t284.length : Int) == 1) = false := beq_eq_false_iff_ne.mpr c16
                     have c16b1 : ((t284.length : Int) != 1) = true := bne_iff_ne.mpr c16
                     exact absurd (Option.some.inj H) (by rw [HT.out]; decide)
                 · rw [if_neg c15] at H
                   have c15b0 : (t287 == 0) = false := beq_eq_false_iff_ne.mpr c15
                   have c15b1 : (t287 != 0) = true := bne_iff_ne.mpr c15
                   exact absurd (Option.some.inj H) (by rw [HT.out]; decide)
               · rw [if_neg c14] at H
                 have c14b0 : ((t273.length : Int) == 1) = false := beq_eq_false_iff_ne.mpr c14
                 have c14b1 : ((t273.length : Int) != 1) = true := bne_iff_ne.mpr c14
                 exact absurd (Option.some.inj H) (by rw [HT.out]; decide)
             · rw [if_neg c13] at H
               have c13b0 : (t279 == 0) = false := beq_eq_false_iff_ne.mpr c13
               have c13b1 : (t279 != 0) = true := bne_iff_ne.mpr c13
               exact absurd (Option.some.inj H) (by rw [HT.out]; decide)
           · rw [if_neg c12] at H
             have c12b0 : (t269 == 9) = false := beq_eq_false_iff_ne.mpr c12
             have c12b1 : (t269 != 9) = true := bne_iff_ne.mpr c12
             exact absurd (Option.some.inj H) (by rw [HT.out]; decide)
         · rw [if_neg c11] at H
           have c11b0 : (((rd_T26 t262 0).f0) == 1) = false := beq_eq_false_iff_ne.mpr c11
           have c11b1 : (((rd_T26 t262 0).f0) != 1) = true := bne_iff_ne.mpr c11
           exact absurd (Option.some.inj H) (by rw [HT.out]; decide)
       · rw [if_neg c10] at H
         exact absurd H (by simp)
     · rw [if_neg c9] at H
       have c9b0 : ((t262.length : Int) == 2) = false := beq_eq_false_iff_ne.mpr c9
       have c9b1 : ((t262.length : Int) != 2) = true := bne_iff_ne.mpr c9
       exact absurd (Option.some.inj H) (by rw [HT.out]; decide)
   · rw [if_neg c8] at H
     have c8b0 : (t265 == 0) = false := beq_eq_false_iff_ne.mpr c8
     have c8b1 : (t265 != 0) = true := bne_iff_ne.mpr c8
     exact absurd (Option.some.inj H) (by rw [HT.out]; decide)
 · rw [if_neg c7] at H
   have c7b0 : (t261 == 0) = false := beq_eq_false_iff_ne.mpr c7
   have c7b1 : (t261 != 0) = true := bne_iff_ne.mpr c7
   exact absurd (Option.some.inj H) (by rw [HT.out]; decide)

theorem handshakerlaw15_awake.only (k : Nat) (r : Bool) (h : handshakerlaw15_awake.f k = some r) : r = true := by
 have h1 : handshakerlaw15_awake.f 60 = some true := by decide +kernel
 have h2 := at_rounds (g := handshakerlaw15_awake.f) handshakerlaw15_awake.mono (Nat.le_max_left k 60) h
 have h3 := at_rounds (g := handshakerlaw15_awake.f) handshakerlaw15_awake.mono (Nat.le_max_right k 60) h1
 rw [h2] at h3
 exact Option.some.inj h3
theorem handshakerlaw15_awake.calls (k : Nat) (r : Bool) (w : World) (h : handshakerlaw15_awake.f k = some r) :
 Calls Try.prog 15 #[] w fun e w' => e = .returned (.bool r) ∧ Below w.heap.size w w' :=
 handshakerlaw15_awake.callsT k r w ⟨handshakerlaw15_awake.only k r h⟩ h

end Go.Proofs.Ytjnkpocfmpbpoaa.Sa
