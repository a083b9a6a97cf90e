-- PRINTED by print.py (a twelfth state) out of the translation. Not trusted: Lean checks it.
import Derived.Test.YtihcnbhcemkncaaBx0
namespace Go.Proofs.Ytihcnbhcemkncaa.B
open Go.Proofs.Ytihcnbhcemkncaa.Ho
open Go.RowKit Go.Proofs.YtihcnbhcemkncaaW.PrintWords Go.Proofs.YtihcnbhcemkncaaW.PrintLast Go.Proofs.YtihcnbhcemkncaaW.PrintMore
attribute [local go_sem] max2_int min2_int max_two min_two max_three min_three max_four min_four   -- for this text's walks alone
set_option linter.unusedVariables false
set_option linter.unusedSimpArgs false

/-! ### handshakerlaw22_Refs: function 13 -/
mutual
def handshakerlaw22_Refs.l0 : Nat → List (S39) → List (S25) → Int → Int → Option ((List (S39)))
 | 0, _, _, _, _ => none
 | k + 1, x3, x9, x10, x11 => if x11 < x10 then (if 0 ≤ x11 then (if x11 < (x9.length : Int) then (handshakerlaw22_Refs.l1 k x3 x9 x10 x11 ((rd_T25 x9 x11).f1) (((rd_T25 x9 x11).f1).length : Int) 0 ((rd_T25 x9 x11).f0) ([] : List (S87))) else (none)) else (none)) else (some x3)
def handshakerlaw22_Refs.l1 : Nat → List (S39) → List (S25) → Int → Int → List (S61) → Int → Int → Int → List (S87) → Option ((List (S39)))
 | 0, _, _, _, _, _, _, _, _, _ => none
 | k + 1, x3, x9, x10, x11, x19, x20, x21, x284000, x284001 => if x21 < x20 then (if 0 ≤ x21 then (if x21 < (x19.length : Int) then (if x284001.length < 5864062014805 then (handshakerlaw22_Refs.l1 k x3 x9 x10 x11 x19 x20 (wrap64 (x21 + 1)) x284000 (x284001 ++ [(⟨(rd_T61 x19 x21).f0, (rd_T61 x19 x21).f1, (rd_T61 x19 x21).f2⟩ : S87)])) else (none)) else (none)) else (none)) else (if x3.length < 4398046511104 then (handshakerlaw22_Refs.l0 k (x3 ++ [(⟨x284000, x284001⟩ : S39)]) x9 x10 (wrap64 (x11 + 1))) else (none))
end
def handshakerlaw22_Refs.f (k : Nat) (l0 : List (S25)) : Option ((List (S39))) := handshakerlaw22_Refs.l0 k ([] : List (S39)) l0 (l0.length : Int) 0
theorem handshakerlaw22_Refs.mono_l : ∀ k, (∀ y0 y1 y2 y3, LeO (handshakerlaw22_Refs.l0 k y0 y1 y2 y3) (handshakerlaw22_Refs.l0 (k + 1) y0 y1 y2 y3)) ∧ (∀ y0 y1 y2 y3 y4 y5 y6 y7 y8, LeO (handshakerlaw22_Refs.l1 k y0 y1 y2 y3 y4 y5 y6 y7 y8) (handshakerlaw22_Refs.l1 (k + 1) y0 y1 y2 y3 y4 y5 y6 y7 y8))
 | 0 => ⟨fun _ _ _ _ r h => by simp [handshakerlaw22_Refs.l0] at h, fun _ _ _ _ _ _ _ _ _ r h => by simp [handshakerlaw22_Refs.l1] at h⟩
 | k + 1 => by
  obtain ⟨ih0, ih1⟩ := handshakerlaw22_Refs.mono_l k
  refine ⟨?_, ?_⟩
  · intro y0 y1 y2 y3
    unfold handshakerlaw22_Refs.l0
    repeat' first
    | (with_reducible exact ih0 _ _ _ _)
    | (with_reducible exact ih1 _ _ _ _ _ _ _ _ _)
    | (with_reducible exact LeO.refl _)
    | (with_reducible exact LeO.none _)
    | (with_reducible refine LeO.ite ?_ ?_)
    | (with_reducible refine LeO.bind ?_ (fun _ => ?_))
    | exact ih0 _ _ _ _
    | exact ih1 _ _ _ _ _ _ _ _ _
    | exact LeO.none _
    | refine LeO.ite ?_ ?_
    | refine LeO.bind ?_ (fun _ => ?_)
  · intro y0 y1 y2 y3 y4 y5 y6 y7 y8
    unfold handshakerlaw22_Refs.l1
    repeat' first
    | (with_reducible exact ih0 _ _ _ _)
    | (with_reducible exact ih1 _ _ _ _ _ _ _ _ _)
    | (with_reducible exact LeO.refl _)
    | (with_reducible exact LeO.none _)
    | (with_reducible refine LeO.ite ?_ ?_)
    | (with_reducible refine LeO.bind ?_ (fun _ => ?_))
    | exact ih0 _ _ _ _
    | exact ih1 _ _ _ _ _ _ _ _ _
    | exact LeO.none _
    | refine LeO.ite ?_ ?_
    | refine LeO.bind ?_ (fun _ => ?_)
theorem handshakerlaw22_Refs.mono : ∀ a0 k, LeO (handshakerlaw22_Refs.f k a0) (handshakerlaw22_Refs.f (k + 1) a0) := by
 intro a0 k
 obtain ⟨ih0, ih1⟩ := handshakerlaw22_Refs.mono_l k
 unfold handshakerlaw22_Refs.f
 repeat' first
  | (with_reducible exact ih0 _ _ _ _)
  | (with_reducible exact ih1 _ _ _ _ _ _ _ _ _)
  | (with_reducible exact LeO.refl _)
  | (with_reducible exact LeO.none _)
  | (with_reducible refine LeO.ite ?_ ?_)
  | (with_reducible refine LeO.bind ?_ (fun _ => ?_))
  | exact ih0 _ _ _ _
  | exact ih1 _ _ _ _ _ _ _ _ _
  | exact LeO.none _
  | refine LeO.ite ?_ ?_
  | refine LeO.bind ?_ (fun _ => ?_)
set_option maxHeartbeats 8000000 in
set_option maxRecDepth 100000 in
theorem handshakerlaw22_Refs.calls (k : Nat) (A0 : Option Addr) (c0 : Nat) (l0 : List (S25)) (r : List (S39)) (w : World) (hr0 : Kd.C k25 w A0 l0.length l0) (hc0 : l0.length ≤ c0) (h : handshakerlaw22_Refs.f k l0 = some r) :
 Calls Try.prog 13 #[.slice A0 l0.length c0] w fun e w' => ∃ v0_ : Value, e = .returned (v0_) ∧ Kd.S k39 39 w' w.heap.size (fun _ => True) v0_ r ∧ Below w.heap.size w w' := by
 have hu25 := Try.underlying25
 have hu39 := Try.underlying39
 have hu61 := Try.underlying61
 have HR0 := Aside0.mk hr0
 have HC0 := Aside0.mk hc0
 clear hr0 hc0
 have HB := Aside0.mk (Below.refl w.heap.size w)
 have H : (handshakerlaw22_Refs.l0 k ([] : List (S39)) l0 (l0.length : Int) 0) = some r := h
 clear h
 have H' := Aside0.mk H
 clear H
 go_enter Try.func13, Try.ntmps13
 go_wp2
 go_loopg [3, 11] k (fun kq v3 v11 w' => ∃ (x3_1 : List (S39)) (x11_1 : Int), v11 = .int .i64 x11_1 ∧ Aside0 (handshakerlaw22_Refs.l0 kq x3_1 l0 (l0.length : Int) x11_1 = some r) ∧ Aside0 (kq ≤ k) ∧ Aside0 (Kd.S k39 39 w' w.heap.size (fun _ => True) v3 x3_1) ∧ Aside0 (Below w.heap.size w w'))
 case atStart => exact ⟨(([] : List (S39))), (0), (by first | rfl | (simp; done) | (simp [*]; done)), H', ⟨Nat.le_refl _⟩, ⟨by first | exact Kd.S_nil _ _ _ _ _ | exact Kd.N_nil _ _ _ _ _ | exact Kd.V_nil _ _ _ _ _ | exact Kd.Q_nil _ _ _ _ _ | exact Kd.R_nil _ _ _ _ _⟩, ⟨bsv_⟩⟩
 case round =>
  clear H'
  try clear c1
  obtain ⟨x3_1, x11_1, rfl, HA, HK1, HO_3, HB⟩ := hrel
  cases gk with
  | zero => exact absurd HA.out (by simp [handshakerlaw22_Refs.l0])
  | succ k1 =>
   have H := HA.out
   clear HA
   simp only [handshakerlaw22_Refs.l0] at H
   by_cases c2 : x11_1 < (l0.length : Int)
   · rw [if_pos c2] at H
     have c2b0 : decide (x11_1 < (l0.length : Int)) = true := decide_eq_true c2
     clear c2
     by_cases c3 : 0 ≤ x11_1
     · rw [if_pos c3] at H
       have c3b0 : decide (0 ≤ x11_1) = true := decide_eq_true c3
       clear c3
       by_cases c4 : x11_1 < (l0.length : Int)
       · rw [if_pos c4] at H
         have c4b0 : decide (x11_1 < (l0.length : Int)) = true := decide_eq_true c4
         clear c4
         have H' := Aside0.mk H
         clear H
         have p281 : 0 ≤ (x11_1 : Int) := oda_
         have q281 : x11_1 < (l0.length : Int) := oda_
         obtain ⟨ad281, A281_1, c281_1, e281, hx281_0, hx281_1, hl281_1, hi281_1⟩ := at_T25 HR0.out x11_1 p281 q281
         cases e281
         replace hx281_0 := (HB.out.cell (World.block_lt_of_cell? w _ hx281_0)).trans hx281_0
         replace hx281_1 := (HB.out.cell (World.block_lt_of_cell? w _ hx281_1)).trans hx281_1
         have HR281_1 := Aside0.mk hi281_1
         have HC281_1 := Aside0.mk hl281_1
         clear hi281_1 hl281_1
         replace p281 := eq_true p281
         replace q281 := eq_true q281
         go_wp2_with (first | ((with_reducible refine gate_dst (N := 5) rfl ?_); refine box_event ?hg (N := 5) ?hd (cs := #[.int .i64 0, .slice none 0 0]) (t := 25) ?hr ?_; (case hd => rfl); (case hg => rfl); (case hr => first | (go_simp; done) | (go_simp; rfl)); intro gb282 hg w5 hbox hb; replace HO_3 := Aside0.mk (Kd.S_below (sq_ HO_3) hb); replace BK282 := Aside0.mk (hbox); replace GW282 := Aside0.mk ((by rw [hg]; exact bsz_ : w.heap.size ≤ gb282)); replace HB := Aside0.mk (bst_ hb); replace GE282 := GW282; clear hb hbox hg; have hcz6_0 : w5.cell? ⟨gb282, 0, none⟩ = some (.int .i64 0) := (blk_cell BK282.out 0).trans rfl; have hcz6_1 : w5.cell? ⟨gb282, 1, none⟩ = some (.slice none 0 0) := (blk_cell BK282.out 1).trans rfl; have hfz6_0 := blk_frozen BK282.out 0; have hfz6_1 := blk_frozen BK282.out 1) | ((with_reducible refine gate_dst (N := 6) rfl ?_); refine box_event ?hg (N := 6) ?hd (cs := #[.int .i64 0, .slice none 0 0]) (t := 39) ?hr ?_; (case hd => rfl); (case hg => rfl); (case hr => first | (go_simp; done) | (go_simp; rfl)); intro gb283 hg w7 hbox hb; replace HO_3 := Aside0.mk (Kd.S_below (Kd.S_elderB (by (with_reducible repeat (first | apply Kd.S_alloc | apply Kd.S_drewN | apply Kd.S_drew)); exact (Kd.S_mono (Kd.S_far (p := ⟨gb282, 1, none⟩) (Kd.S_far (p := ⟨gb282, 0, none⟩) (Kd.S_types HO_3.out BK282.out (by decide)) (fun _ hk => hk.2) (.int .i64 ((rd_T25 l0 x11_1).f0))) (fun _ hk => hk.2) (.slice A281_1 ((rd_T25 l0 x11_1).f1).length c281_1)) (fun _ h_ => h_.1))) gb283 (Nat.le_of_eq hg.symm)) hb); replace BK283 := Aside0.mk (hbox); replace GW283 := Aside0.mk ((by rw [hg]; exact (below_size bsw_) : w.heap.size ≤ gb283)); replace HB := Aside0.mk (below_step bsw_ hb); replace GE283 := GW283; replace NB282_283 := Aside0.mk ((by rw [hg]; exact Nat.ne_of_lt (blk_lt (g := gb282) (o := .cells #[.int .i64 ((rd_T25 l0 x11_1).f0), .slice A281_1 ((rd_T25 l0 x11_1).f1).length c281_1] 25 (0, 0)) (by (with_reducible repeat (first | refine blk_drewN ?_ _ | refine blk_drew ?_ | refine blk_alloc ?_ _)); refine blk_put (cs := #[.int .i64 ((rd_T25 l0 x11_1).f0), .slice none 0 0]) ?_ 1 _ rfl; (with_reducible repeat (first | refine blk_drewN ?_ _ | refine blk_drew ?_ | refine blk_alloc ?_ _)); refine blk_put (cs := #[.int .i64 0, .slice none 0 0]) ?_ 0 _ rfl; (with_reducible repeat (first | refine blk_drewN ?_ _ | refine blk_drew ?_ | refine blk_alloc ?_ _)); exact BK282.out)) : gb282 ≠ gb283)); replace NB283_282 := Aside0.mk ((by rw [hg]; exact Nat.ne_of_gt (blk_lt (g := gb282) (o := .cells #[.int .i64 ((rd_T25 l0 x11_1).f0), .slice A281_1 ((rd_T25 l0 x11_1).f1).length c281_1] 25 (0, 0)) (by (with_reducible repeat (first | refine blk_drewN ?_ _ | refine blk_drew ?_ | refine blk_alloc ?_ _)); refine blk_put (cs := #[.int .i64 ((rd_T25 l0 x11_1).f0), .slice none 0 0]) ?_ 1 _ rfl; (with_reducible repeat (first | refine blk_drewN ?_ _ | refine blk_drew ?_ | refine blk_alloc ?_ _)); refine blk_put (cs := #[.int .i64 0, .slice none 0 0]) ?_ 0 _ rfl; (with_reducible repeat (first | refine blk_drewN ?_ _ | refine blk_drew ?_ | refine blk_alloc ?_ _)); exact BK282.out)) : gb283 ≠ gb282)); replace BK282 := Aside0.mk (blk_below (g := gb282) (o := .cells #[.int .i64 ((rd_T25 l0 x11_1).f0), .slice A281_1 ((rd_T25 l0 x11_1).f1).length c281_1] 25 (0, 0)) (by (with_reducible repeat (first | refine blk_drewN ?_ _ | refine blk_drew ?_ | refine blk_alloc ?_ _)); refine blk_put (cs := #[.int .i64 ((rd_T25 l0 x11_1).f0), .slice none 0 0]) ?_ 1 _ rfl; (with_reducible repeat (first | refine blk_drewN ?_ _ | refine blk_drew ?_ | refine blk_alloc ?_ _)); refine blk_put (cs := #[.int .i64 0, .slice none 0 0]) ?_ 0 _ rfl; (with_reducible repeat (first | refine blk_drewN ?_ _ | refine blk_drew ?_ | refine blk_alloc ?_ _)); exact BK282.out) hb); clear hb hbox hg; have hnb8 := NB283_282.out; have hnc8 := NB282_283.out; have hcz9_0 : w7.cell? ⟨gb283, 0, none⟩ = some (.int .i64 0) := (blk_cell BK283.out 0).trans rfl; have hcz9_1 : w7.cell? ⟨gb283, 1, none⟩ = some (.slice none 0 0) := (blk_cell BK283.out 1).trans rfl; have hfz9_0 := blk_frozen BK283.out 0; have hfz9_1 := blk_frozen BK283.out 1; have hcz10_0 : w7.cell? ⟨gb282, 0, none⟩ = some (.int .i64 ((rd_T25 l0 x11_1).f0)) := (blk_cell BK282.out 0).trans rfl; have hcz10_1 : w7.cell? ⟨gb282, 1, none⟩ = some (.slice A281_1 ((rd_T25 l0 x11_1).f1).length c281_1) := (blk_cell BK282.out 1).trans rfl; have hfz10_0 := blk_frozen BK282.out 0; have hfz10_1 := blk_frozen BK282.out 1))
         go_loopg [21] k1 (fun kq v21 w' => ∃ (x21_2 : Int) (x284001_2 : List (S87)) (u284001 : Value), v21 = .int .i64 x21_2 ∧ Aside0 (handshakerlaw22_Refs.l1 kq x3_1 l0 (l0.length : Int) x11_1 ((rd_T25 l0 x11_1).f1) (((rd_T25 l0 x11_1).f1).length : Int) x21_2 ((rd_T25 l0 x11_1).f0) x284001_2 = some r) ∧ Aside0 (kq ≤ k1) ∧ Aside0 (Kd.S k39 39 w' w.heap.size (fun k_ => some k_ ≠ (u284001 : Value).ownBlock ∧ k_ ≠ gb283) u3 x3_1) ∧ Aside0 (Kd.R k87 87 w' w.heap.size (fun _ => True) u284001 x284001_2) ∧ Aside0 (w'.heap[gb282]? = some (.cells #[.int .i64 ((rd_T25 l0 x11_1).f0), (.slice A281_1 ((rd_T25 l0 x11_1).f1).length c281_1)] 25 (0, 0))) ∧ Aside0 (w'.heap[gb283]? = some (.cells #[.int .i64 ((rd_T25 l0 x11_1).f0), u284001] 39 (0, 0))) ∧ Aside0 (Below w.heap.size w w'))
         case atStart => exact ⟨(0), (([] : List (S87))), (.slice none 0 0), (by first | rfl | (simp; done) | (simp [*]; done)), H', ⟨Nat.le_refl _⟩, ⟨by (with_reducible repeat (first | apply Kd.S_alloc | apply Kd.S_drewN | apply Kd.S_drew)); exact Kd.S_mono (Kd.S_far (p := ⟨gb283, 1, none⟩) (Kd.S_far (p := ⟨gb283, 0, none⟩) (Kd.S_mono HO_3.out (fun k_ hk => (⟨hk, hk.2⟩ : _ ∧ k_ ≠ gb283))) (fun _ hk => hk.2) (.int .i64 ((rd_T25 l0 x11_1).f0))) (fun _ hk => hk.2) (.slice none 0 0)) (fun _ hk => ⟨(by simp [Value.ownBlock]), hk.1.2⟩)⟩, ⟨by first | exact Kd.R_nil _ _ _ _ _ | exact Kd.N_nil _ _ _ _ _ | exact Kd.V_nil _ _ _ _ _ | exact Kd.Q_nil _ _ _ _ _ | exact Kd.S_nil _ _ _ _ _⟩, ⟨by (with_reducible repeat (first | refine blk_drewN ?_ _ | refine blk_drew ?_ | refine blk_alloc ?_ _)); refine blk_far ?_ NB282_283.out _; (with_reducible repeat (first | refine blk_drewN ?_ _ | refine blk_drew ?_ | refine blk_alloc ?_ _)); refine blk_far ?_ NB282_283.out _; (with_reducible repeat (first | refine blk_drewN ?_ _ | refine blk_drew ?_ | refine blk_alloc ?_ _)); exact BK282.out⟩, ⟨by (with_reducible repeat (first | refine blk_drewN ?_ _ | refine blk_drew ?_ | refine blk_alloc ?_ _)); refine blk_put (cs := #[.int .i64 ((rd_T25 l0 x11_1).f0), .slice none 0 0]) ?_ 1 _ rfl; (with_reducible repeat (first | refine blk_drewN ?_ _ | refine blk_drew ?_ | refine blk_alloc ?_ _)); refine blk_put (cs := #[.int .i64 0, .slice none 0 0]) ?_ 0 _ rfl; (with_reducible repeat (first | refine blk_drewN ?_ _ | refine blk_drew ?_ | refine blk_alloc ?_ _)); exact BK283.out⟩, ⟨by repeat (first | (with_reducible first | exact HB.out | apply below_alloc | apply pw_below_drewN | apply below_drew1 | refine below_set ?_ GE282.out | refine below_set ?_ GE283.out) | exact HB.out)⟩⟩
         case round =>
          clear H'
          try clear c1
          try clear c2
          try clear c2b0
          try clear p2
          try clear q2
          try clear hx2
          try clear c3
          try clear c3b0
          try clear c4
          try clear c4b0
          try clear c8
          try clear hcz10_0
          try clear hcz10_1
          try clear hcz6_0
          try clear hcz6_1
          try clear hcz9_0
          try clear hcz9_1
          try clear hfz10_0
          try clear hfz10_1
          try clear hfz6_0
          try clear hfz6_1
          try clear hfz9_0
          try clear hfz9_1
          try clear hx281_0
          try clear hx281_1
          try clear p281
          try clear q281
          obtain ⟨x21_2, x284001_2, u284001, rfl, HA, HK2, HO_3, HO_284001, BK282, BK283, HB⟩ := hrel
          cases gk with
          | zero => exact absurd HA.out (by simp [handshakerlaw22_Refs.l1])
          | succ k2 =>
           have H := HA.out
           clear HA
           simp only [handshakerlaw22_Refs.l1] at H
           by_cases c11 : x21_2 < (((rd_T25 l0 x11_1).f1).length : Int)
           · rw [if_pos c11] at H
             have c11b0 : decide (x21_2 < (((rd_T25 l0 x11_1).f1).length : Int)) = true := decide_eq_true c11
             clear c11
             by_cases c12 : 0 ≤ x21_2
             · rw [if_pos c12] at H
               have c12b0 : decide (0 ≤ x21_2) = true := decide_eq_true c12
               clear c12
               by_cases c13 : x21_2 < (((rd_T25 l0 x11_1).f1).length : Int)
               · rw [if_pos c13] at H
                 have c13b0 : decide (x21_2 < (((rd_T25 l0 x11_1).f1).length : Int)) = true := decide_eq_true c13
                 clear c13
                 by_cases c14 : x284001_2.length < 5864062014805
                 · rw [if_pos c14] at H
                   have LMc14 := Aside0.mk c14
                   clear c14
                   obtain ⟨y286, hy286⟩ : ∃ y_ : List (S87), y_ = (x284001_2 ++ [(⟨(rd_T61 ((rd_T25 l0 x11_1).f1) x21_2).f0, (rd_T61 ((rd_T25 l0 x11_1).f1) x21_2).f1, (rd_T61 ((rd_T25 l0 x11_1).f1) x21_2).f2⟩ : S87)]) := ⟨_, rfl⟩
                   replace H : (handshakerlaw22_Refs.l1 k2 x3_1 l0 (l0.length : Int) x11_1 ((rd_T25 l0 x11_1).f1) (((rd_T25 l0 x11_1).f1).length : Int) (wrap64 (x21_2 + 1)) ((rd_T25 l0 x11_1).f0) y286) = some r := by first | (rw [hy286]; with_reducible exact H) | (have H2_ := (Option.bind_some _ _).symm.trans H; rw [hy286]; with_reducible exact H2_) | (have H2_ := (Option.bind_some _ _).symm.trans H; with_reducible exact H2_) | with_reducible exact H | (rw [hy286]; exact H) | exact H
                   have Ny286 := Aside0.mk hy286
                   clear hy286
                   have H' := Aside0.mk H
                   clear H
                   have p284 : 0 ≤ (x21_2 : Int) := oda_
                   have q284 : x21_2 < (((rd_T25 l0 x11_1).f1).length : Int) := oda_
                   obtain ⟨ad284, e284, hx284_0, hx284_1, hx284_2⟩ := at_T61 HR281_1.out x21_2 p284 q284
                   cases e284
                   replace hx284_0 := (HB.out.cell (World.block_lt_of_cell? w _ hx284_0)).trans hx284_0
                   replace hx284_1 := (HB.out.cell (World.block_lt_of_cell? w _ hx284_1)).trans hx284_1
                   replace hx284_2 := (HB.out.cell (World.block_lt_of_cell? w _ hx284_2)).trans hx284_2
                   replace p284 := eq_true p284
                   replace q284 := eq_true q284
                   go_wp2_with (first | ((with_reducible refine gate_dst (N := 8) rfl ?_); refine box_event ?hg (N := 8) ?hd (cs := #[.int .i64 0, .int .i64 0, .int .i64 0]) (t := 61) ?hr ?_; (case hd => rfl); (case hg => rfl); (case hr => first | (go_simp; done) | (go_simp; rfl)); intro gb285 hg w15 hbox hb; replace HO_3 := Aside0.mk (Kd.S_below (sq_ HO_3) hb); replace HO_284001 := rb_ HO_284001 hb; replace BK285 := Aside0.mk (hbox); replace GW285 := Aside0.mk ((by rw [hg]; exact (below_size (by repeat (first | (with_reducible first | exact HB.out | apply below_alloc | apply pw_below_drewN | apply below_drew1 | refine below_set ?_ GE282.out | refine below_set ?_ GE283.out) | exact HB.out))) : w.heap.size ≤ gb285)); replace HB := Aside0.mk (below_step (by repeat (first | (with_reducible first | exact HB.out | apply below_alloc | apply pw_below_drewN | apply below_drew1 | refine below_set ?_ GE282.out | refine below_set ?_ GE283.out) | exact HB.out)) hb); replace GE285 := GW285; replace NB282_285 := Aside0.mk ((by rw [hg]; exact Nat.ne_of_lt (blk_lt (g := gb282) (o := .cells #[.int .i64 ((rd_T25 l0 x11_1).f0), .slice (some ad284) ((rd_T25 l0 x11_1).f1).length c281_1] 25 (0, 0)) (bq_ BK282)) : gb282 ≠ gb285)); replace NB285_282 := Aside0.mk ((by rw [hg]; exact Nat.ne_of_gt (blk_lt (g := gb282) (o := .cells #[.int .i64 ((rd_T25 l0 x11_1).f0), .slice (some ad284) ((rd_T25 l0 x11_1).f1).length c281_1] 25 (0, 0)) (bq_ BK282)) : gb285 ≠ gb282)); replace BK282 := bb_ BK282 hb; replace NB283_285 := Aside0.mk ((by rw [hg]; exact Nat.ne_of_lt (blk_lt (g := gb283) (o := .cells #[.int .i64 ((rd_T25 l0 x11_1).f0), u284001] 39 (0, 0)) (bq_ BK283)) : gb283 ≠ gb285)); replace NB285_283 := Aside0.mk ((by rw [hg]; exact Nat.ne_of_gt (blk_lt (g := gb283) (o := .cells #[.int .i64 ((rd_T25 l0 x11_1).f0), u284001] 39 (0, 0)) (bq_ BK283)) : gb285 ≠ gb283)); replace BK283 := bb_ BK283 hb; clear hb hbox hg; have hnb16 := NB285_282.out; have hnc16 := NB282_285.out; have hnb17 := NB285_283.out; have hnc17 := NB283_285.out; have hcz18_0 : w15.cell? ⟨gb285, 0, none⟩ = some (.int .i64 0) := (blk_cell BK285.out 0).trans rfl; have hcz18_1 : w15.cell? ⟨gb285, 1, none⟩ = some (.int .i64 0) := (blk_cell BK285.out 1).trans rfl; have hcz18_2 : w15.cell? ⟨gb285, 2, none⟩ = some (.int .i64 0) := (blk_cell BK285.out 2).trans rfl; have hfz18_0 := blk_frozen BK285.out 0; have hfz18_1 := blk_frozen BK285.out 1; have hfz18_2 := blk_frozen BK285.out 2; have hnb19 := NB283_282.out; have hnc19 := NB282_283.out; have hcz20_0 : w15.cell? ⟨gb283, 0, none⟩ = some (.int .i64 ((rd_T25 l0 x11_1).f0)) := (blk_cell BK283.out 0).trans rfl; have hcz20_1 : w15.cell? ⟨gb283, 1, none⟩ = some (u284001) := (blk_cell BK283.out 1).trans rfl; have hfz20_0 := blk_frozen BK283.out 0; have hfz20_1 := blk_frozen BK283.out 1) | ((with_reducible refine gate_builtin (b := .append) (xs := #[.tmp 26, .tmp 28]) rfl ?_); at_builtin; refine Kd.R_append k87 (w0 := w) w.heap.size rfl (.tmp 26) (.tmp 28) 37 87 (.agg #[(.int .i64 0), (.int .i64 0), (.int .i64 0)]) 24 rfl Try.underlying37 info87 rfl (by decide) (by omega) u284001 x284001_2 (⟨(rd_T61 ((rd_T25 l0 x11_1).f1) x21_2).f0, (rd_T61 ((rd_T25 l0 x11_1).f1) x21_2).f1, (rd_T61 ((rd_T25 l0 x11_1).f1) x21_2).f2⟩ : S87) [.int .i64 ((rd_T61 ((rd_T25 l0 x11_1).f1) x21_2).f0), .int .i64 ((rd_T61 ((rd_T25 l0 x11_1).f1) x21_2).f1), .int .i64 ((rd_T61 ((rd_T25 l0 x11_1).f1) x21_2).f2)] (fun _ => True) (fun _ => False) rfl (by first | (go_simp; done) | (go_simp; rfl)) ?aP (fun _ hk => hk.elim) ?aF ?aO ?aB ?aS ?aL ?_; (case aP => exact k87_mkM _ _ _ (⟨(rd_T61 ((rd_T25 l0 x11_1).f1) x21_2).f0, (rd_T61 ((rd_T25 l0 x11_1).f1) x21_2).f1, (rd_T61 ((rd_T25 l0 x11_1).f1) x21_2).f2⟩ : S87)); (case aB => exact (by repeat (first | (with_reducible first | exact HB.out | apply below_alloc | apply pw_below_drewN | apply below_drew1 | refine below_set ?_ GE282.out | refine below_set ?_ GE283.out | refine below_set ?_ GE285.out) | exact HB.out))); (case aF => exact (fun _ _ => trivial)); (case aO => exact (by (with_reducible repeat (first | apply Kd.R_alloc | apply Kd.R_drewN | apply Kd.R_drew)); exact Kd.R_mono (Kd.R_far (p := ⟨gb285, 2, none⟩) (Kd.R_far (p := ⟨gb285, 1, none⟩) (Kd.R_far (p := ⟨gb285, 0, none⟩) (Kd.R_types HO_284001.out BK285.out (by decide)) (fun _ hk => hk.2) (.int .i64 ((rd_T61 ((rd_T25 l0 x11_1).f1) x21_2).f0))) (fun _ hk => hk.2) (.int .i64 ((rd_T61 ((rd_T25 l0 x11_1).f1) x21_2).f1))) (fun _ hk => hk.2) (.int .i64 ((rd_T61 ((rd_T25 l0 x11_1).f1) x21_2).f2))) (fun _ hk => trivial))); (case aS => exact (below_size (by repeat (first | (with_reducible first | exact HB.out | apply below_alloc | apply pw_below_drewN | apply below_drew1 | refine below_set ?_ GE282.out | refine below_set ?_ GE283.out | refine below_set ?_ GE285.out) | exact HB.out)))); (case aL => have := LMc14.out; omega); intro v287 w21 ho hb hg hat; rw [← Ny286.out] at ho; replace HO_3 := Aside0.mk (Kd.S_after (ok := (fun k_ => k_ ≠ gb283)) (by (with_reducible repeat (first | apply Kd.S_alloc | apply Kd.S_drewN | apply Kd.S_drew)); exact Kd.S_mono (Kd.S_far (p := ⟨gb285, 2, none⟩) (Kd.S_far (p := ⟨gb285, 1, none⟩) (Kd.S_far (p := ⟨gb285, 0, none⟩) (Kd.S_types HO_3.out BK285.out (by decide)) (fun _ hk => hk.2) (.int .i64 ((rd_T61 ((rd_T25 l0 x11_1).f1) x21_2).f0))) (fun _ hk => hk.2) (.int .i64 ((rd_T61 ((rd_T25 l0 x11_1).f1) x21_2).f1))) (fun _ hk => hk.2) (.int .i64 ((rd_T61 ((rd_T25 l0 x11_1).f1) x21_2).f2))) (fun _ hk => ⟨hk.1.2, hk.1.1⟩)) hg hat); replace BK282 := Aside0.mk (blk_grown (g := gb282) (o := .cells #[.int .i64 ((rd_T25 l0 x11_1).f0), .slice (some ad284) ((rd_T25 l0 x11_1).f1).length c281_1] 25 (0, 0)) (by (with_reducible repeat (first | refine blk_drewN ?_ _ | refine blk_drew ?_ | refine blk_alloc ?_ _)); refine blk_far ?_ NB282_285.out _; (with_reducible repeat (first | refine blk_drewN ?_ _ | refine blk_drew ?_ | refine blk_alloc ?_ _)); refine blk_far ?_ NB282_285.out _; (with_reducible repeat (first | refine blk_drewN ?_ _ | refine blk_drew ?_ | refine blk_alloc ?_ _)); refine blk_far ?_ NB282_285.out _; (with_reducible repeat (first | refine blk_drewN ?_ _ | refine blk_drew ?_ | refine blk_alloc ?_ _)); exact BK282.out) hg (Kd.R_ne HO_284001.out BK282.out (by decide))); replace BK283 := Aside0.mk (blk_grown (g := gb283) (o := .cells #[.int .i64 ((rd_T25 l0 x11_1).f0), u284001] 39 (0, 0)) (by (with_reducible repeat (first | refine blk_drewN ?_ _ | refine blk_drew ?_ | refine blk_alloc ?_ _)); refine blk_far ?_ NB283_285.out _; (with_reducible repeat (first | refine blk_drewN ?_ _ | refine blk_drew ?_ | refine blk_alloc ?_ _)); refine blk_far ?_ NB283_285.out _; (with_reducible repeat (first | refine blk_drewN ?_ _ | refine blk_drew ?_ | refine blk_alloc ?_ _)); refine blk_far ?_ NB283_285.out _; (with_reducible repeat (first | refine blk_drewN ?_ _ | refine blk_drew ?_ | refine blk_alloc ?_ _)); exact BK283.out) hg (Kd.R_ne HO_284001.out BK283.out (by decide))); replace BK285 := Aside0.mk (blk_grown (g := gb285) (o := .cells #[.int .i64 ((rd_T61 ((rd_T25 l0 x11_1).f1) x21_2).f0), .int .i64 ((rd_T61 ((rd_T25 l0 x11_1).f1) x21_2).f1), .int .i64 ((rd_T61 ((rd_T25 l0 x11_1).f1) x21_2).f2)] 61 (0, 0)) (by (with_reducible repeat (first | refine blk_drewN ?_ _ | refine blk_drew ?_ | refine blk_alloc ?_ _)); refine blk_put (cs := #[.int .i64 ((rd_T61 ((rd_T25 l0 x11_1).f1) x21_2).f0), .int .i64 ((rd_T61 ((rd_T25 l0 x11_1).f1) x21_2).f1), .int .i64 0]) ?_ 2 _ rfl; (with_reducible repeat (first | refine blk_drewN ?_ _ | refine blk_drew ?_ | refine blk_alloc ?_ _)); refine blk_put (cs := #[.int .i64 ((rd_T61 ((rd_T25 l0 x11_1).f1) x21_2).f0), .int .i64 0, .int .i64 0]) ?_ 1 _ rfl; (with_reducible repeat (first | refine blk_drewN ?_ _ | refine blk_drew ?_ | refine blk_alloc ?_ _)); refine blk_put (cs := #[.int .i64 0, .int .i64 0, .int .i64 0]) ?_ 0 _ rfl; (with_reducible repeat (first | refine blk_drewN ?_ _ | refine blk_drew ?_ | refine blk_alloc ?_ _)); exact BK285.out) hg (Kd.R_ne HO_284001.out BK285.out (by decide))); replace HB := Aside0.mk (hb); replace HO288 := Aside0.mk (ho); clear HO_284001; clear ho hb hg hat; obtain ⟨Ao22, co22, eo22⟩ := Kd.R_slice HO288.out; subst eo22; have hcz23_0 : w21.cell? ⟨gb283, 0, none⟩ = some (.int .i64 ((rd_T25 l0 x11_1).f0)) := (blk_cell BK283.out 0).trans rfl; have hcz23_1 : w21.cell? ⟨gb283, 1, none⟩ = some (u284001) := (blk_cell BK283.out 1).trans rfl; have hfz23_0 := blk_frozen BK283.out 0; have hfz23_1 := blk_frozen BK283.out 1))
                   go_roundg k2
                   case measure => have := HK1.out; have := HK2.out; omega
                   case rel => exact ⟨(wrap64 (x21_2 + 1)), (y286), (.slice Ao22 y286.length co22), (by first | rfl | (simp; done) | (simp [*]; done)), H', ⟨by have := HK1.out; have := HK2.out; omega⟩, ⟨by (with_reducible repeat (first | apply Kd.S_alloc | apply Kd.S_drewN | apply Kd.S_drew)); exact Kd.S_mono (Kd.S_far (p := ⟨gb283, 1, none⟩) (Kd.S_mono HO_3.out (fun k_ hk => (⟨hk, hk.1⟩ : _ ∧ k_ ≠ gb283))) (fun _ hk => hk.2) (.slice Ao22 y286.length co22)) (fun _ hk => ⟨hk.1.2, hk.1.1⟩)⟩, ⟨by (with_reducible repeat (first | apply Kd.R_alloc | apply Kd.R_drewN | apply Kd.R_drew)); exact Kd.R_mono (Kd.R_far (p := ⟨gb283, 1, none⟩) (Kd.R_types HO288.out BK283.out (by decide)) (fun _ hk => hk.2) (.slice Ao22 y286.length co22)) (fun _ hk => trivial)⟩, ⟨by (with_reducible repeat (first | refine blk_drewN ?_ _ | refine blk_drew ?_ | refine blk_alloc ?_ _)); refine blk_far ?_ NB282_283.out _; (with_reducible repeat (first | refine blk_drewN ?_ _ | refine blk_drew ?_ | refine blk_alloc ?_ _)); exact BK282.out⟩, ⟨by (with_reducible repeat (first | refine blk_drewN ?_ _ | refine blk_drew ?_ | refine blk_alloc ?_ _)); refine blk_put (cs := #[.int .i64 ((rd_T25 l0 x11_1).f0), u284001]) ?_ 1 _ rfl; (with_reducible repeat (first | refine blk_drewN ?_ _ | refine blk_drew ?_ | refine blk_alloc ?_ _)); exact BK283.out⟩, ⟨by repeat (first | (with_reducible first | exact HB.out | apply below_alloc | apply pw_below_drewN | apply below_drew1 | refine below_set ?_ GE282.out | refine below_set ?_ GE283.out | refine below_set ?_ GE285.out) | exact HB.out)⟩⟩
                 · rw [if_neg c14] at H
                   exact absurd H (by simp)
               · rw [if_neg c13] at H
                 exact absurd H (by simp)
             · rw [if_neg c12] at H
               exact absurd H (by simp)
           · rw [if_neg c11] at H
             have c11b0 : decide (x21_2 < (((rd_T25 l0 x11_1).f1).length : Int)) = false := decide_eq_false c11
             clear c11
             by_cases c24 : x3_1.length < 4398046511104
             · rw [if_pos c24] at H
               have LMc24 := Aside0.mk c24
               clear c24
               obtain ⟨y289, hy289⟩ : ∃ y_ : List (S39), y_ = (x3_1 ++ [(⟨((rd_T25 l0 x11_1).f0), x284001_2⟩ : S39)]) := ⟨_, rfl⟩
               replace H : (handshakerlaw22_Refs.l0 k2 y289 l0 (l0.length : Int) (wrap64 (x11_1 + 1))) = some r := by first | (rw [hy289]; with_reducible exact H) | (have H2_ := (Option.bind_some _ _).symm.trans H; rw [hy289]; with_reducible exact H2_) | (have H2_ := (Option.bind_some _ _).symm.trans H; with_reducible exact H2_) | with_reducible exact H | (rw [hy289]; exact H) | exact H
               have Ny289 := Aside0.mk hy289
               clear hy289
               have H' := Aside0.mk H
               clear H
               have hnb25 := NB283_282.out
               have hnc25 := NB282_283.out
               have hcz26_0 : wr.cell? ⟨gb283, 0, none⟩ = some (.int .i64 ((rd_T25 l0 x11_1).f0)) := (blk_cell BK283.out 0).trans rfl
               have hcz26_1 : wr.cell? ⟨gb283, 1, none⟩ = some (u284001) := (blk_cell BK283.out 1).trans rfl
               have hfz26_0 := blk_frozen BK283.out 0
               have hfz26_1 := blk_frozen BK283.out 1
               obtain ⟨Ao28, co28, eo28⟩ := Kd.R_slice HO_284001.out
               subst eo28
               go_wp2_with (first | ((with_reducible refine gate_builtin (b := .append) (xs := #[.tmp 32, .tmp 34]) rfl ?_); at_builtin; refine Kd.S_append k39 (w0 := w) w.heap.size rfl (.tmp 32) (.tmp 34) 30 39 (.agg #[(.int .i64 0), (.slice none 0 0)]) 32 rfl Try.underlying30 info39 rfl (by decide) (by omega) u3 x3_1 (⟨((rd_T25 l0 x11_1).f0), x284001_2⟩ : S39) [.int .i64 ((rd_T25 l0 x11_1).f0), .slice Ao28 x284001_2.length co28] (fun k_ => k_ ≠ gb283) (fun k_ => some k_ = (.slice Ao28 x284001_2.length co28 : Value).ownBlock) rfl rfl ?aP (fun k_ hk_ => ((Kd.R_mono (ok' := fun k_ => ((fun k_ => k_ ≠ gb283)) k_ ∧ some k_ ≠ (u3 : Value).ownBlock) (Kd.R_types (Kd.R_apart' (HO_284001.out) (Kd.S_typed HO_3.out) (by decide)) BK283.out (by decide)) (fun k_ hk => ⟨hk.2, hk.1.2⟩))).1 k_ hk_.symm) ?aF ?aO ?aB ?aS ?aL ?_; (case aP => exact k39_mkM _ _ _ (⟨((rd_T25 l0 x11_1).f0), x284001_2⟩ : S39) (Kd.R_mono (Kd.R_tight rfl (Kd.R_mono (ok' := fun k_ => ((fun k_ => k_ ≠ gb283)) k_ ∧ some k_ ≠ (u3 : Value).ownBlock) (Kd.R_types (Kd.R_apart' (HO_284001.out) (Kd.S_typed HO_3.out) (by decide)) BK283.out (by decide)) (fun k_ hk => ⟨hk.2, hk.1.2⟩))) (fun _ h_ => h_))); (case aB => exact (by repeat (first | (with_reducible first | exact HB.out | apply below_alloc | apply pw_below_drewN | apply below_drew1 | refine below_set ?_ GE282.out | refine below_set ?_ GE283.out) | exact HB.out))); (case aF => exact (fun k_ hk => Kd.freshB (g := gb283) (o := .cells #[.int .i64 ((rd_T25 l0 x11_1).f0), .slice Ao28 x284001_2.length co28] 39 (0, 0)) (bq_ BK283) k_ hk)); (case aO => exact (Kd.S_mono (sq_ HO_3) (fun k_ hk => ⟨hk.2, fun e_ => hk.1 e_⟩))); (case aS => exact (below_size (by repeat (first | (with_reducible first | exact HB.out | apply below_alloc | apply pw_below_drewN | apply below_drew1 | refine below_set ?_ GE282.out | refine below_set ?_ GE283.out) | exact HB.out)))); (case aL => have := LMc24.out; omega); intro v290 w27 ho hb hg hat; rw [← Ny289.out] at ho; replace BK282 := Aside0.mk (blk_grown (g := gb282) (o := .cells #[.int .i64 ((rd_T25 l0 x11_1).f0), .slice A281_1 ((rd_T25 l0 x11_1).f1).length c281_1] 25 (0, 0)) (bq_ BK282) hg (Kd.S_ne HO_3.out BK282.out (by decide))); replace BK283 := Aside0.mk (blk_grown (g := gb283) (o := .cells #[.int .i64 ((rd_T25 l0 x11_1).f0), .slice Ao28 x284001_2.length co28] 39 (0, 0)) (bq_ BK283) hg (Kd.S_away HO_3.out (fun _ hk => hk.2))); replace HB := Aside0.mk (hb); replace HO291 := Aside0.mk (ho); clear HO_3; clear HO_284001; clear ho hb hg hat))
               go_roundg k2
               case measure => have := HK1.out; have := HK2.out; omega
               case rel => exact ⟨(y289), (wrap64 (x11_1 + 1)), (by first | rfl | (simp; done) | (simp [*]; done)), H', ⟨by have := HK1.out; have := HK2.out; omega⟩, ⟨Kd.S_mono (sq_ HO291) (fun _ hk => trivial)⟩, ⟨by repeat (first | (with_reducible first | exact HB.out | apply below_alloc | apply pw_below_drewN | apply below_drew1 | refine below_set ?_ GE282.out | refine below_set ?_ GE283.out) | exact HB.out)⟩⟩
             · rw [if_neg c24] at H
               exact absurd H (by simp)
       · rw [if_neg c4] at H
         exact absurd H (by simp)
     · rw [if_neg c3] at H
       exact absurd H (by simp)
   · rw [if_neg c2] at H
     have c2b0 : decide (x11_1 < (l0.length : Int)) = false := decide_eq_false c2
     clear c2
     obtain rfl := Option.some.inj H
     go_wp2
     go_ret
     exact ⟨_, by first | rfl | (simp [errW_none, errW_some] <;> rfl) | (simp [*, errW_none, errW_some] <;> rfl), sq_ HO_3, bsv_⟩

/-! ### handshakerref03_Who: function 70 -/
def handshakerref03_Who.f (a0 : Int) : Option (Bool) := if a0 > 0 then (some (decide (a0 < 9))) else (some false)
set_option maxHeartbeats 8000000 in
set_option maxRecDepth 100000 in
theorem handshakerref03_Who.calls (a0 : Int) (r : Bool) (w : World) (h : handshakerref03_Who.f a0 = some r) :
 Calls Try.prog 70 #[.int .i64 a0] w fun e w' => e = .returned (.bool r) ∧ Drawn0 w w' := by
 have H : (if a0 > 0 then (some (decide (a0 < 9))) else (some false)) = some r := h
 clear h
 by_cases c2 : a0 > 0
 · rw [if_pos c2] at H
   have c2b0 : decide (0 < a0) = true := decide_eq_true c2
   clear c2
   obtain rfl := Option.some.inj H
   go_enter Try.func70, Try.ntmps70
   go_wp2
   go_ret
   exact ⟨by first | rfl | (simp; done) | (simp [*]; done), by repeat (first | exact Drawn0.refl _ | apply Drawn0.step)⟩
 · rw [if_neg c2] at H
   have c2b0 : decide (0 < a0) = false := decide_eq_false c2
   clear c2
   obtain rfl := Option.some.inj H
   go_enter Try.func70, Try.ntmps70
   go_wp2
   go_ret
   exact ⟨by first | rfl | (simp; done) | (simp [*]; done), by repeat (first | exact Drawn0.refl _ | apply Drawn0.step)⟩

/-! ### handshakerref01_Right: function 71 -/
def handshakerref01_Right.f (a0 : Int) : Option (Bool) := if a0 ≥ (-2147483648) then (some (decide (a0 ≤ 2147483647))) else (some false)
set_option maxHeartbeats 8000000 in
set_option maxRecDepth 100000 in
theorem handshakerref01_Right.calls (a0 : Int) (r : Bool) (w : World) (h : handshakerref01_Right.f a0 = some r) :
 Calls Try.prog 71 #[.int .i64 a0] w fun e w' => e = .returned (.bool r) ∧ Drawn0 w w' := by
 have H : (if a0 ≥ (-2147483648) then (some (decide (a0 ≤ 2147483647))) else (some false)) = some r := h
 clear h
 by_cases c2 : a0 ≥ (-2147483648)
 · rw [if_pos c2] at H
   have c2b0 : decide ((-2147483648) ≤ a0) = true := decide_eq_true c2
   clear c2
   obtain rfl := Option.some.inj H
   go_enter Try.func71, Try.ntmps71
   go_wp2
   go_ret
   exact ⟨by first | rfl | (simp; done) | (simp [*]; done), by repeat (first | exact Drawn0.refl _ | apply Drawn0.step)⟩
 · rw [if_neg c2] at H
   have c2b0 : decide ((-2147483648) ≤ a0) = false := decide_eq_false c2
   clear c2
   obtain rfl := Option.some.inj H
   go_enter Try.func71, Try.ntmps71
   go_wp2
   go_ret
   exact ⟨by first | rfl | (simp; done) | (simp [*]; done), by repeat (first | exact Drawn0.refl _ | apply Drawn0.step)⟩

/-! ### handshakerref22_one: function 41 -/
mutual
def handshakerref22_one.j0 : Nat → Bool → Int → List (S87) → Option (Bool)
 | 0, _, _, _ => none
 | k + 1, x23, x293000, x293001 => if x23 = true then (some false) else (handshakerref22_one.l0 k 0 x293000 x293001)
def handshakerref22_one.l0 : Nat → Int → Int → List (S87) → Option (Bool)
 | 0, _, _, _ => none
 | k + 1, x4, x293000, x293001 => if x4 < (x293001.length : Int) then (if 0 ≤ x4 then ((handshakerref01_Right.f ((rd_T87 x293001 x4).f2)).bind fun t296 => (if t296 = true then (if ((rd_T87 x293001 x4).f0) < 0 then (some false) else (if ((rd_T87 x293001 x4).f0) > 63 then (some false) else (if ((rd_T87 x293001 x4).f1) < 1 then (some false) else (if ((rd_T87 x293001 x4).f1) > 2 then (some false) else (handshakerref22_one.l0 k (wrap64 (x4 + 1)) x293000 x293001))))) else (some false))) else (none)) else (some true)
end
def handshakerref22_one.f (k : Nat) (a0_0 : Int) (l0_1 : List (S87)) : Option (Bool) := (handshakerref03_Who.f a0_0).bind fun t293 => (if t293 = true then (if (l0_1.length : Int) < 1 then (handshakerref22_one.j0 k true a0_0 l0_1) else (handshakerref22_one.j0 k (decide ((l0_1.length : Int) > 8)) a0_0 l0_1)) else (handshakerref22_one.j0 k true a0_0 l0_1))
theorem handshakerref22_one.mono_l : ∀ k, (∀ y0 y1 y2, LeO (handshakerref22_one.j0 k y0 y1 y2) (handshakerref22_one.j0 (k + 1) y0 y1 y2)) ∧ (∀ y0 y1 y2, LeO (handshakerref22_one.l0 k y0 y1 y2) (handshakerref22_one.l0 (k + 1) y0 y1 y2))
 | 0 => ⟨fun _ _ _ r h => by simp [handshakerref22_one.j0] at h, fun _ _ _ r h => by simp [handshakerref22_one.l0] at h⟩
 | k + 1 => by
  obtain ⟨ih0, ih1⟩ := handshakerref22_one.mono_l k
  refine ⟨?_, ?_⟩
  · intro y0 y1 y2
    unfold handshakerref22_one.j0
    repeat' first
    | (with_reducible exact ih0 _ _ _)
    | (with_reducible exact ih1 _ _ _)
    | (with_reducible exact LeO.refl _)
    | (with_reducible exact LeO.none _)
    | (with_reducible refine LeO.ite ?_ ?_)
    | (with_reducible refine LeO.bind ?_ (fun _ => ?_))
    | exact ih0 _ _ _
    | exact ih1 _ _ _
    | exact LeO.none _
    | refine LeO.ite ?_ ?_
    | refine LeO.bind ?_ (fun _ => ?_)
  · intro y0 y1 y2
    unfold handshakerref22_one.l0
    repeat' first
    | (with_reducible exact ih0 _ _ _)
    | (with_reducible exact ih1 _ _ _)
    | (with_reducible exact LeO.refl _)
    | (with_reducible exact LeO.none _)
    | (with_reducible refine LeO.ite ?_ ?_)
    | (with_reducible refine LeO.bind ?_ (fun _ => ?_))
    | exact ih0 _ _ _
    | exact ih1 _ _ _
    | exact LeO.none _
    | refine LeO.ite ?_ ?_
    | refine LeO.bind ?_ (fun _ => ?_)
theorem handshakerref22_one.mono : ∀ a0 a1 k, LeO (handshakerref22_one.f k a0 a1) (handshakerref22_one.f (k + 1) a0 a1) := by
 intro a0 a1 k
 obtain ⟨ih0, ih1⟩ := handshakerref22_one.mono_l k
 unfold handshakerref22_one.f
 repeat' first
  | (with_reducible exact ih0 _ _ _)
  | (with_reducible exact ih1 _ _ _)
  | (with_reducible exact LeO.refl _)
  | (with_reducible exact LeO.none _)
  | (with_reducible refine LeO.ite ?_ ?_)
  | (with_reducible refine LeO.bind ?_ (fun _ => ?_))
  | exact ih0 _ _ _
  | exact ih1 _ _ _
  | exact LeO.none _
  | refine LeO.ite ?_ ?_
  | refine LeO.bind ?_ (fun _ => ?_)
set_option maxHeartbeats 8000000 in
set_option maxRecDepth 100000 in
theorem handshakerref22_one.calls (k : Nat) (a0_0 : Int) (A0_1 : Option Addr) (c0_1 : Nat) (l0_1 : List (S87)) (r : Bool) (w : World) (hr0_1 : Kd.C k87 w A0_1 l0_1.length l0_1) (hc0_1 : l0_1.length ≤ c0_1) (h : handshakerref22_one.f k a0_0 l0_1 = some r) :
 Calls Try.prog 41 #[.agg #[.int .i64 a0_0, .slice A0_1 l0_1.length c0_1]] w fun e w' => e = .returned (.bool r) ∧ Below w.heap.size w w' := by
 have hu39 := Try.underlying39
 have hu87 := Try.underlying87
 have HR0_1 := Aside0.mk hr0_1
 have HC0_1 := Aside0.mk hc0_1
 clear hr0_1 hc0_1
 have HB := Aside0.mk (Below.refl w.heap.size w)
 have H : ((handshakerref03_Who.f a0_0).bind fun t293 => (if t293 = true then (if (l0_1.length : Int) < 1 then (handshakerref22_one.j0 k true a0_0 l0_1) else (handshakerref22_one.j0 k (decide ((l0_1.length : Int) > 8)) a0_0 l0_1)) else (handshakerref22_one.j0 k true a0_0 l0_1))) = some r := h
 clear h
 replace H := Option.bind_eq_some_iff.mp H
 obtain ⟨t293, A20, H⟩ := H
 have A2 := Aside0.mk A20
 clear A20
 have HC3 := Aside0.mk H
 clear H
 go_enter Try.func41, Try.ntmps41
 go_upto_region 2 with (first | ((with_reducible refine gate_dst (N := 1) rfl ?_); (try (refine gate_guard (by rfl) ?_; dsimp only)); refine box_event ?hg (N := 1) ?hd (cs := #[.int .i64 a0_0, .slice A0_1 l0_1.length c0_1]) (t := 39) ?hr ?_; (case hd => rfl); (case hg => rfl); (case hr => first | (go_simp; done) | (go_simp; rfl)); intro gb292 hg w4 hbox hb; replace BK292 := Aside0.mk (hbox); replace GW292 := Aside0.mk ((by rw [hg]; exact bsz_ : w.heap.size ≤ gb292)); replace HB := Aside0.mk (bst_ hb); replace GE292 := GW292; clear hb hbox hg; have hcz5_0 : w4.cell? ⟨gb292, 0, none⟩ = some (.int .i64 a0_0) := (blk_cell BK292.out 0).trans rfl; have hcz5_1 : w4.cell? ⟨gb292, 1, none⟩ = some (.slice A0_1 l0_1.length c0_1) := (blk_cell BK292.out 1).trans rfl; have hfz5_0 := blk_frozen BK292.out 0; have hfz5_1 := blk_frozen BK292.out 1) | ((with_reducible refine gate_callee (f := 70) rfl ?_); refine goesL_ (some 9) rfl rfl Try.func70 (by kernel_rfl) rfl #[.int .i64 a0_0] rfl mp_ ?_; (with_reducible refine (handshakerref03_Who.calls a0_0 t293 _ A2.out).mono ?_); rintro e w' ⟨rfl, ⟨nd, rfl⟩⟩; refine ⟨_, rfl, ?_⟩))
 (try simp only [Act.put, List.setIfInBounds_toArray, List.set_cons_zero, List.set_cons_succ])
 go_cut [23] (fun v23 wc => ∃ (kq : Nat) (x23_2 : Bool), v23 = .bool x23_2 ∧ Aside0 (handshakerref22_one.j0 kq x23_2 a0_0 l0_1 = some r) ∧ Aside0 (kq ≤ k) ∧ Aside0 (wc.heap[gb292]? = some (.cells #[.int .i64 a0_0, (.slice A0_1 l0_1.length c0_1)] 39 (0, 0))) ∧ Aside0 (Below w.heap.size w wc))
 case first =>
  have H := HC3.out
  clear HC3
  by_cases c6 : t293 = true
  · subst c6
    rw [if_pos rfl] at H
    by_cases c7 : (l0_1.length : Int) < 1
    · rw [if_pos c7] at H
      have c7b0 : decide ((l0_1.length : Int) < 1) = true := decide_eq_true c7
      have c7b1 : decide (l0_1.length < 1) = true := decide_eq_true (by omega)
      clear c7
      (first | rw [c7b0] | (simp only [i64_w, i32_w]; rw [c7b0]) | skip)
      have H' := Aside0.mk H
      clear H
      have hcz8_0 : w4.cell? ⟨gb292, 0, none⟩ = some (.int .i64 a0_0) := (blk_cell BK292.out 0).trans rfl
      have hcz8_1 : w4.cell? ⟨gb292, 1, none⟩ = some (.slice A0_1 l0_1.length c0_1) := (blk_cell BK292.out 1).trans rfl
      have hfz8_0 := blk_frozen BK292.out 0
      have hfz8_1 := blk_frozen BK292.out 1
      go_wp2
      go_meet
      case rel => exact ⟨_, (true), (by first | rfl | (simp; done) | (simp [*]; done)), H', ⟨by first | omega | exact Nat.le_refl _⟩, ⟨bq_ BK292⟩, ⟨bsw_⟩⟩
    · rw [if_neg c7] at H
      have c7b0 : decide ((l0_1.length : Int) < 1) = false := decide_eq_false c7
      have c7b1 : decide (l0_1.length < 1) = false := decide_eq_false (by omega)
      clear c7
      (first | rw [c7b0] | (simp only [i64_w, i32_w]; rw [c7b0]) | skip)
      have H' := Aside0.mk H
      clear H
      have hcz9_0 : w4.cell? ⟨gb292, 0, none⟩ = some (.int .i64 a0_0) := (blk_cell BK292.out 0).trans rfl
      have hcz9_1 : w4.cell? ⟨gb292, 1, none⟩ = some (.slice A0_1 l0_1.length c0_1) := (blk_cell BK292.out 1).trans rfl
      have hfz9_0 := blk_frozen BK292.out 0
      have hfz9_1 := blk_frozen BK292.out 1
      go_wp2
      go_meet
      case rel => exact ⟨_, (decide ((l0_1.length : Int) > 8)), (by first | rfl | (simp; done) | (simp [*]; done)), H', ⟨by first | omega | exact Nat.le_refl _⟩, ⟨bq_ BK292⟩, ⟨bsw_⟩⟩
  · replace c6 := Bool.eq_false_iff.mpr c6
    subst c6
    rw [if_neg (show ¬ (false = true) by decide)] at H
    have H' := Aside0.mk H
    clear H
    go_wp2
    go_meet
    case rel => exact ⟨_, (true), (by first | rfl | (simp; done) | (simp [*]; done)), H', ⟨by first | omega | exact Nat.le_refl _⟩, ⟨bq_ BK292⟩, ⟨bsw_⟩⟩
 case rest =>
  clear HC3
  try clear p2
  try clear c4
  try clear c6
  try clear c7
  try clear c7b0
  try clear c7b1
  try clear hcz5_0
  try clear hcz5_1
  try clear hcz8_0
  try clear hcz8_1
  try clear hcz9_0
  try clear hcz9_1
  try clear hfz5_0
  try clear hfz5_1
  try clear hfz8_0
  try clear hfz8_1
  try clear hfz9_0
  try clear hfz9_1
  obtain ⟨kq, x23_2, rfl, HA, HJ2, BK292, HB⟩ := hcut
  cases kq with
  | zero => exact absurd HA.out (by simp [handshakerref22_one.j0])
  | succ kj2 =>
   have H := HA.out
   clear HA
   simp only [handshakerref22_one.j0] at H
   by_cases c10 : x23_2 = true
   · subst c10
     rw [if_pos rfl] at H
     obtain rfl := Option.some.inj H
     go_wp2
     go_ret
     exact ⟨by first | rfl | (simp [errW_none, errW_some] <;> rfl) | (simp [*, errW_none, errW_some] <;> rfl), bsw_⟩
   · replace c10 := Bool.eq_false_iff.mpr c10
     subst c10
     rw [if_neg (show ¬ (false = true) by decide)] at H
     have H' := Aside0.mk H
     clear H
     go_wp2
     go_loopg [4] kj2 (fun kq v4 w' => ∃ (x4_2 : Int), v4 = .int .i64 x4_2 ∧ Aside0 (handshakerref22_one.l0 kq x4_2 a0_0 l0_1 = some r) ∧ Aside0 (kq ≤ kj2) ∧ Aside0 (w'.heap[gb292]? = some (.cells #[.int .i64 a0_0, (.slice A0_1 l0_1.length c0_1)] 39 (0, 0))) ∧ Aside0 (Below w.heap.size w w'))
     case atStart => exact ⟨(0), (by first | rfl | (simp; done) | (simp [*]; done)), H', ⟨Nat.le_refl _⟩, ⟨bq_ BK292⟩, ⟨bsw_⟩⟩
     case round =>
      clear H'
      try clear c1
      try clear p2
      try clear c4
      try clear c6
      try clear c7
      try clear c7b0
      try clear c7b1
      try clear c10
      try clear hcz5_0
      try clear hcz5_1
      try clear hcz8_0
      try clear hcz8_1
      try clear hcz9_0
      try clear hcz9_1
      try clear hfz5_0
      try clear hfz5_1
      try clear hfz8_0
      try clear hfz8_1
      try clear hfz9_0
      try clear hfz9_1
      try clear p2
      obtain ⟨x4_2, rfl, HA, HK2, BK292, HB⟩ := hrel
      cases gk with
      | zero => exact absurd HA.out (by simp [handshakerref22_one.l0])
      | succ k2 =>
       have H := HA.out
       clear HA
       simp only [handshakerref22_one.l0] at H
       by_cases c11 : x4_2 < (l0_1.length : Int)
       · rw [if_pos c11] at H
         have c11b0 : decide (x4_2 < (l0_1.length : Int)) = true := decide_eq_true c11
         clear c11
         by_cases c12 : 0 ≤ x4_2
         · rw [if_pos c12] at H
           have c12b0 : decide (0 ≤ x4_2) = true := decide_eq_true c12
           clear c12
           replace H := Option.bind_eq_some_iff.mp H
           obtain ⟨t296, A130, H⟩ := H
           have A13 := Aside0.mk A130
           clear A130
           by_cases c14 : t296 = true
           · subst c14
             rw [if_pos rfl] at H
             by_cases c15 : ((rd_T87 l0_1 x4_2).f0) < 0
             · rw [if_pos c15] at H
               have c15b0 : decide (((rd_T87 l0_1 x4_2).f0) < 0) = true := decide_eq_true c15
               clear c15
               obtain rfl := Option.some.inj H
               have hcz16_0 : wr.cell? ⟨gb292, 0, none⟩ = some (.int .i64 a0_0) := (blk_cell BK292.out 0).trans rfl
               have hcz16_1 : wr.cell? ⟨gb292, 1, none⟩ = some (.slice A0_1 l0_1.length c0_1) := (blk_cell BK292.out 1).trans rfl
               have hfz16_0 := blk_frozen BK292.out 0
               have hfz16_1 := blk_frozen BK292.out 1
               have p294 : 0 ≤ (x4_2 : Int) := oda_
               have q294 : x4_2 < (l0_1.length : Int) := oda_
               obtain ⟨ad294, e294, hx294_0, hx294_1, hx294_2⟩ := at_T87 HR0_1.out x4_2 p294 q294
               cases e294
               replace hx294_0 := (HB.out.cell (World.block_lt_of_cell? w _ hx294_0)).trans hx294_0
               replace hx294_1 := (HB.out.cell (World.block_lt_of_cell? w _ hx294_1)).trans hx294_1
               replace hx294_2 := (HB.out.cell (World.block_lt_of_cell? w _ hx294_2)).trans hx294_2
               replace p294 := eq_true p294
               replace q294 := eq_true q294
               go_wp2_with (first | ((with_reducible refine gate_dst (N := 5) rfl ?_); (try (refine gate_guard (by rfl) ?_; dsimp only)); refine box_event ?hg (N := 5) ?hd (cs := #[.int .i64 0, .int .i64 0, .int .i64 0]) (t := 87) ?hr ?_; (case hd => rfl); (case hg => rfl); (case hr => first | (go_simp; done) | (go_simp; rfl)); intro gb295 hg w17 hbox hb; replace BK295 := Aside0.mk (hbox); replace GW295 := Aside0.mk ((by rw [hg]; exact (below_size bsw_) : w.heap.size ≤ gb295)); replace HB := Aside0.mk (below_step bsw_ hb); replace GE295 := GW295; replace NB292_295 := Aside0.mk ((by rw [hg]; exact Nat.ne_of_lt (blk_lt (g := gb292) (o := .cells #[.int .i64 a0_0, .slice (some ad294) l0_1.length c0_1] 39 (0, 0)) (bq_ BK292)) : gb292 ≠ gb295)); replace NB295_292 := Aside0.mk ((by rw [hg]; exact Nat.ne_of_gt (blk_lt (g := gb292) (o := .cells #[.int .i64 a0_0, .slice (some ad294) l0_1.length c0_1] 39 (0, 0)) (bq_ BK292)) : gb295 ≠ gb292)); replace BK292 := bb_ BK292 hb; clear hb hbox hg; have hnb18 := NB295_292.out; have hnc18 := NB292_295.out; have hcz19_0 : w17.cell? ⟨gb295, 0, none⟩ = some (.int .i64 0) := (blk_cell BK295.out 0).trans rfl; have hcz19_1 : w17.cell? ⟨gb295, 1, none⟩ = some (.int .i64 0) := (blk_cell BK295.out 1).trans rfl; have hcz19_2 : w17.cell? ⟨gb295, 2, none⟩ = some (.int .i64 0) := (blk_cell BK295.out 2).trans rfl; have hfz19_0 := blk_frozen BK295.out 0; have hfz19_1 := blk_frozen BK295.out 1; have hfz19_2 := blk_frozen BK295.out 2) | ((with_reducible refine gate_callee (f := 71) rfl ?_); refine goesL_ (some 38) rfl rfl Try.func71 (by kernel_rfl) rfl #[.int .i64 ((rd_T87 l0_1 x4_2).f2)] rfl mp_ ?_; (with_reducible refine (handshakerref01_Right.calls ((rd_T87 l0_1 x4_2).f2) true _ A13.out).mono ?_); rintro e w' ⟨rfl, ⟨nd, rfl⟩⟩; refine ⟨_, rfl, ?_⟩))
               go_ret
               exact ⟨by first | rfl | (simp [errW_none, errW_some] <;> rfl) | (simp [*, errW_none, errW_some] <;> rfl), by repeat (first | (with_reducible first | exact HB.out | apply below_alloc | apply pw_below_drewN | apply below_drew1 | refine below_set ?_ GE292.out | refine below_set ?_ GE295.out) | exact HB.out)⟩
             · rw [if_neg c15] at H
               have c15b0 : decide (((rd_T87 l0_1 x4_2).f0) < 0) = false := decide_eq_false c15
               clear c15
               by_cases c20 : ((rd_T87 l0_1 x4_2).f0) > 63
               · rw [if_pos c20] at H
                 have c20b0 : decide (63 < ((rd_T87 l0_1 x4_2).f0)) = true := decide_eq_true c20
                 clear c20
                 obtain rfl := Option.some.inj H
                 have hcz21_0 : wr.cell? ⟨gb292, 0, none⟩ = some (.int .i64 a0_0) := (blk_cell BK292.out 0).trans rfl
                 have hcz21_1 : wr.cell? ⟨gb292, 1, none⟩ = some (.slice A0_1 l0_1.length c0_1) := (blk_cell BK292.out 1).trans rfl
                 have hfz21_0 := blk_frozen BK292.out 0
                 have hfz21_1 := blk_frozen BK292.out 1
                 have p294 : 0 ≤ (x4_2 : Int) := oda_
                 have q294 : x4_2 < (l0_1.length : Int) := oda_
                 obtain ⟨ad294, e294, hx294_0, hx294_1, hx294_2⟩ := at_T87 HR0_1.out x4_2 p294 q294
                 cases e294
                 replace hx294_0 := (HB.out.cell (World.block_lt_of_cell? w _ hx294_0)).trans hx294_0
                 replace hx294_1 := (HB.out.cell (World.block_lt_of_cell? w _ hx294_1)).trans hx294_1
                 replace hx294_2 := (HB.out.cell (World.block_lt_of_cell? w _ hx294_2)).trans hx294_2
                 replace p294 := eq_true p294
                 replace q294 := eq_true q294
                 go_wp2_with (first | ((with_reducible refine gate_dst (N := 5) rfl ?_); (try (refine gate_guard (by rfl) ?_; dsimp only)); refine box_event ?hg (N := 5) ?hd (cs := #[.int .i64 0, .int .i64 0, .int .i64 0]) (t := 87) ?hr ?_; (case hd => rfl); (case hg => rfl); (case hr => first | (go_simp; done) | (go_simp; rfl)); intro gb295 hg w22 hbox hb; replace BK295 := Aside0.mk (hbox); replace GW295 := Aside0.mk ((by rw [hg]; exact (below_size bsw_) : w.heap.size ≤ gb295)); replace HB := Aside0.mk (below_step bsw_ hb); replace GE295 := GW295; replace NB292_295 := Aside0.mk ((by rw [hg]; exact Nat.ne_of_lt (blk_lt (g := gb292) (o := .cells #[.int .i64 a0_0, .slice (some ad294) l0_1.length c0_1] 39 (0, 0)) (bq_ BK292)) : gb292 ≠ gb295)); replace NB295_292 := Aside0.mk ((by rw [hg]; exact Nat.ne_of_gt (blk_lt (g := gb292) (o := .cells #[.int .i64 a0_0, .slice (some ad294) l0_1.length c0_1] 39 (0, 0)) (bq_ BK292)) : gb295 ≠ gb292)); replace BK292 := bb_ BK292 hb; clear hb hbox hg; have hnb23 := NB295_292.out; have hnc23 := NB292_295.out; have hcz24_0 : w22.cell? ⟨gb295, 0, none⟩ = some (.int .i64 0) := (blk_cell BK295.out 0).trans rfl; have hcz24_1 : w22.cell? ⟨gb295, 1, none⟩ = some (.int .i64 0) := (blk_cell BK295.out 1).trans rfl; have hcz24_2 : w22.cell? ⟨gb295, 2, none⟩ = some (.int .i64 0) := (blk_cell BK295.out 2).trans rfl; have hfz24_0 := blk_frozen BK295.out 0; have hfz24_1 := blk_frozen BK295.out 1; have hfz24_2 := blk_frozen BK295.out 2) | ((with_reducible refine gate_callee (f := 71) rfl ?_); refine goesL_ (some 38) rfl rfl Try.func71 (by kernel_rfl) rfl #[.int .i64 ((rd_T87 l0_1 x4_2).f2)] rfl mp_ ?_; (with_reducible refine (handshakerref01_Right.calls ((rd_T87 l0_1 x4_2).f2) true _ A13.out).mono ?_); rintro e w' ⟨rfl, ⟨nd, rfl⟩⟩; refine ⟨_, rfl, ?_⟩))
                 go_ret
                 exact ⟨by first | rfl | (simp [errW_none, errW_some] <;> rfl) | (simp [*, errW_none, errW_some] <;> rfl), by repeat (first | (with_reducible first | exact HB.out | apply below_alloc | apply pw_below_drewN | apply below_drew1 | refine below_set ?_ GE292.out | refine below_set ?_ GE295.out) | exact HB.out)⟩
               · rw [if_neg c20] at H
                 have c20b0 : decide (63 < ((rd_T87 l0_1 x4_2).f0)) = false := decide_eq_false c20
                 clear c20
                 by_cases c25 : ((rd_T87 l0_1 x4_2).f1) < 1
                 · rw [if_pos c25] at H
                   have c25b0 : decide (((rd_T87 l0_1 x4_2).f1) < 1) = true := decide_eq_true c25
                   clear c25
                   obtain rfl := Option.some.inj H
                   have hcz26_0 : wr.cell? ⟨gb292, 0, none⟩ = some (.int .i64 a0_0) := (blk_cell BK292.out 0).trans rfl
                   have hcz26_1 : wr.cell? ⟨gb292, 1, none⟩ = some (.slice A0_1 l0_1.length c0_1) := (blk_cell BK292.out 1).trans rfl
                   have hfz26_0 := blk_frozen BK292.out 0
                   have hfz26_1 := blk_frozen BK292.out 1
                   have p294 : 0 ≤ (x4_2 : Int) := oda_
                   have q294 : x4_2 < (l0_1.length : Int) := oda_
                   obtain ⟨ad294, e294, hx294_0, hx294_1, hx294_2⟩ := at_T87 HR0_1.out x4_2 p294 q294
                   cases e294
                   replace hx294_0 := (HB.out.cell (World.block_lt_of_cell? w _ hx294_0)).trans hx294_0
                   replace hx294_1 := (HB.out.cell (World.block_lt_of_cell? w _ hx294_1)).trans hx294_1
                   replace hx294_2 := (HB.out.cell (World.block_lt_of_cell? w _ hx294_2)).trans hx294_2
                   replace p294 := eq_true p294
                   replace q294 := eq_true q294
                   go_wp2_with (first | ((with_reducible refine gate_dst (N := 5) rfl ?_); (try (refine gate_guard (by rfl) ?_; dsimp only)); refine box_event ?hg (N := 5) ?hd (cs := #[.int .i64 0, .int .i64 0, .int .i64 0]) (t := 87) ?hr ?_; (case hd => rfl); (case hg => rfl); (case hr => first | (go_simp; done) | (go_simp; rfl)); intro gb295 hg w27 hbox hb; replace BK295 := Aside0.mk (hbox); replace GW295 := Aside0.mk ((by rw [hg]; exact (below_size bsw_) : w.heap.size ≤ gb295)); replace HB := Aside0.mk (below_step bsw_ hb); replace GE295 := GW295; replace NB292_295 := Aside0.mk ((by rw [hg]; exact Nat.ne_of_lt (blk_lt (g := gb292) (o := .cells #[.int .i64 a0_0, .slice (some ad294) l0_1.length c0_1] 39 (0, 0)) (bq_ BK292)) : gb292 ≠ gb295)); replace NB295_292 := Aside0.mk ((by rw [hg]; exact Nat.ne_of_gt (blk_lt (g := gb292) (o := .cells #[.int .i64 a0_0, .slice (some ad294) l0_1.length c0_1] 39 (0, 0)) (bq_ BK292)) : gb295 ≠ gb292)); replace BK292 := bb_ BK292 hb; clear hb hbox hg; have hnb28 := NB295_292.out; have hnc28 := NB292_295.out; have hcz29_0 : w27.cell? ⟨gb295, 0, none⟩ = some (.int .i64 0) := (blk_cell BK295.out 0).trans rfl; have hcz29_1 : w27.cell? ⟨gb295, 1, none⟩ = some (.int .i64 0) := (blk_cell BK295.out 1).trans rfl; have hcz29_2 : w27.cell? ⟨gb295, 2, none⟩ = some (.int .i64 0) := (blk_cell BK295.out 2).trans rfl; have hfz29_0 := blk_frozen BK295.out 0; have hfz29_1 := blk_frozen BK295.out 1; have hfz29_2 := blk_frozen BK295.out 2) | ((with_reducible refine gate_callee (f := 71) rfl ?_); refine goesL_ (some 38) rfl rfl Try.func71 (by kernel_rfl) rfl #[.int .i64 ((rd_T87 l0_1 x4_2).f2)] rfl mp_ ?_; (with_reducible refine (handshakerref01_Right.calls ((rd_T87 l0_1 x4_2).f2) true _ A13.out).mono ?_); rintro e w' ⟨rfl, ⟨nd, rfl⟩⟩; refine ⟨_, rfl, ?_⟩))
                   go_ret
                   exact ⟨by first | rfl | (simp [errW_none, errW_some] <;> rfl) | (simp [*, errW_none, errW_some] <;> rfl), by repeat (first | (with_reducible first | exact HB.out | apply below_alloc | apply pw_below_drewN | apply below_drew1 | refine below_set ?_ GE292.out | refine below_set ?_ GE295.out) | exact HB.out)⟩
                 · rw [if_neg c25] at H
                   have c25b0 : decide (((rd_T87 l0_1 x4_2).f1) < 1) = false := decide_eq_false c25
                   clear c25
                   by_cases c30 : ((rd_T87 l0_1 x4_2).f1) > 2
                   · rw [if_pos c30] at H
                     have c30b0 : decide (2 < ((rd_T87 l0_1 x4_2).f1)) = true := decide_eq_true c30
                     clear c30
                     obtain rfl := Option.some.inj H
                     have hcz31_0 : wr.cell? ⟨gb292, 0, none⟩ = some (.int .i64 a0_0) := (blk_cell BK292.out 0).trans rfl
                     have hcz31_1 : wr.cell? ⟨gb292, 1, none⟩ = some (.slice A0_1 l0_1.length c0_1) := (blk_cell BK292.out 1).trans rfl
                     have hfz31_0 := blk_frozen BK292.out 0
                     have hfz31_1 := blk_frozen BK292.out 1
                     have p294 : 0 ≤ (x4_2 : Int) := oda_
                     have q294 : x4_2 < (l0_1.length : Int) := oda_
                     obtain ⟨ad294, e294, hx294_0, hx294_1, hx294_2⟩ := at_T87 HR0_1.out x4_2 p294 q294
                     cases e294
                     replace hx294_0 := (HB.out.cell (World.block_lt_of_cell? w _ hx294_0)).trans hx294_0
                     replace hx294_1 := (HB.out.cell (World.block_lt_of_cell? w _ hx294_1)).trans hx294_1
                     replace hx294_2 := (HB.out.cell (World.block_lt_of_cell? w _ hx294_2)).trans hx294_2
                     replace p294 := eq_true p294
                     replace q294 := eq_true q294
                     go_wp2_with (first | ((with_reducible refine gate_dst (N := 5) rfl ?_); (try (refine gate_guard (by rfl) ?_; dsimp only)); refine box_event ?hg (N := 5) ?hd (cs := #[.int .i64 0, .int .i64 0, .int .i64 0]) (t := 87) ?hr ?_; (case hd => rfl); (case hg => rfl); (case hr => first | (go_simp; done) | (go_simp; rfl)); intro gb295 hg w32 hbox hb; replace BK295 := Aside0.mk (hbox); replace GW295 := Aside0.mk ((by rw [hg]; exact (below_size bsw_) : w.heap.size ≤ gb295)); replace HB := Aside0.mk (below_step bsw_ hb); replace GE295 := GW295; replace NB292_295 := Aside0.mk ((by rw [hg]; exact Nat.ne_of_lt (blk_lt (g := gb292) (o := .cells #[.int .i64 a0_0, .slice (some ad294) l0_1.length c0_1] 39 (0, 0)) (bq_ BK292)) : gb292 ≠ gb295)); replace NB295_292 := Aside0.mk ((by rw [hg]; exact Nat.ne_of_gt (blk_lt (g := gb292) (o := .cells #[.int .i64 a0_0, .slice (some ad294) l0_1.length c0_1] 39 (0, 0)) (bq_ BK292)) : gb295 ≠ gb292)); replace BK292 := bb_ BK292 hb; clear hb hbox hg; have hnb33 := NB295_292.out; have hnc33 := NB292_295.out; have hcz34_0 : w32.cell? ⟨gb295, 0, none⟩ = some (.int .i64 0) := (blk_cell BK295.out 0).trans rfl; have hcz34_1 : w32.cell? ⟨gb295, 1, none⟩ = some (.int .i64 0) := (blk_cell BK295.out 1).trans rfl; have hcz34_2 : w32.cell? ⟨gb295, 2, none⟩ = some (.int .i64 0) := (blk_cell BK295.out 2).trans rfl; have hfz34_0 := blk_frozen BK295.out 0; have hfz34_1 := blk_frozen BK295.out 1; have hfz34_2 := blk_frozen BK295.out 2) | ((with_reducible refine gate_callee (f := 71) rfl ?_); refine goesL_ (some 38) rfl rfl Try.func71 (by kernel_rfl) rfl #[.int .i64 ((rd_T87 l0_1 x4_2).f2)] rfl mp_ ?_; (with_reducible refine (handshakerref01_Right.calls ((rd_T87 l0_1 x4_2).f2) true _ A13.out).mono ?_); rintro e w' ⟨rfl, ⟨nd, rfl⟩⟩; refine ⟨_, rfl, ?_⟩))
                     go_ret
                     exact ⟨by first | rfl | (simp [errW_none, errW_some] <;> rfl) | (simp [*, errW_none, errW_some] <;> rfl), by repeat (first | (with_reducible first | exact HB.out | apply below_alloc | apply pw_below_drewN | apply below_drew1 | refine below_set ?_ GE292.out | refine below_set ?_ GE295.out) | exact HB.out)⟩
                   · rw [if_neg c30] at H
                     have c30b0 : decide (2 < ((rd_T87 l0_1 x4_2).f1)) = false := decide_eq_false c30
                     clear c30
                     have H' := Aside0.mk H
                     clear H
                     have hcz35_0 : wr.cell? ⟨gb292, 0, none⟩ = some (.int .i64 a0_0) := (blk_cell BK292.out 0).trans rfl
                     have hcz35_1 : wr.cell? ⟨gb292, 1, none⟩ = some (.slice A0_1 l0_1.length c0_1) := (blk_cell BK292.out 1).trans rfl
                     have hfz35_0 := blk_frozen BK292.out 0
                     have hfz35_1 := blk_frozen BK292.out 1
                     have p294 : 0 ≤ (x4_2 : Int) := oda_
                     have q294 : x4_2 < (l0_1.length : Int) := oda_
                     obtain ⟨ad294, e294, hx294_0, hx294_1, hx294_2⟩ := at_T87 HR0_1.out x4_2 p294 q294
                     cases e294
                     replace hx294_0 := (HB.out.cell (World.block_lt_of_cell? w _ hx294_0)).trans hx294_0
                     replace hx294_1 := (HB.out.cell (World.block_lt_of_cell? w _ hx294_1)).trans hx294_1
                     replace hx294_2 := (HB.out.cell (World.block_lt_of_cell? w _ hx294_2)).trans hx294_2
                     replace p294 := eq_true p294
                     replace q294 := eq_true q294
                     go_wp2_with (first | ((with_reducible refine gate_dst (N := 5) rfl ?_); (try (refine gate_guard (by rfl) ?_; dsimp only)); refine box_event ?hg (N := 5) ?hd (cs := #[.int .i64 0, .int .i64 0, .int .i64 0]) (t := 87) ?hr ?_; (case hd => rfl); (case hg => rfl); (case hr => first | (go_simp; done) | (go_simp; rfl)); intro gb295 hg w36 hbox hb; replace BK295 := Aside0.mk (hbox); replace GW295 := Aside0.mk ((by rw [hg]; exact (below_size bsw_) : w.heap.size ≤ gb295)); replace HB := Aside0.mk (below_step bsw_ hb); replace GE295 := GW295; replace NB292_295 := Aside0.mk ((by rw [hg]; exact Nat.ne_of_lt (blk_lt (g := gb292) (o := .cells #[.int .i64 a0_0, .slice (some ad294) l0_1.length c0_1] 39 (0, 0)) (bq_ BK292)) : gb292 ≠ gb295)); replace NB295_292 := Aside0.mk ((by rw [hg]; exact Nat.ne_of_gt (blk_lt (g := gb292) (o := .cells #[.int .i64 a0_0, .slice (some ad294) l0_1.length c0_1] 39 (0, 0)) (bq_ BK292)) : gb295 ≠ gb292)); replace BK292 := bb_ BK292 hb; clear hb hbox hg; have hnb37 := NB295_292.out; have hnc37 := NB292_295.out; have hcz38_0 : w36.cell? ⟨gb295, 0, none⟩ = some (.int .i64 0) := (blk_cell BK295.out 0).trans rfl; have hcz38_1 : w36.cell? ⟨gb295, 1, none⟩ = some (.int .i64 0) := (blk_cell BK295.out 1).trans rfl; have hcz38_2 : w36.cell? ⟨gb295, 2, none⟩ = some (.int .i64 0) := (blk_cell BK295.out 2).trans rfl; have hfz38_0 := blk_frozen BK295.out 0; have hfz38_1 := blk_frozen BK295.out 1; have hfz38_2 := blk_frozen BK295.out 2) | ((with_reducible refine gate_callee (f := 71) rfl ?_); refine goesL_ (some 38) rfl rfl Try.func71 (by kernel_rfl) rfl #[.int .i64 ((rd_T87 l0_1 x4_2).f2)] rfl mp_ ?_; (with_reducible refine (handshakerref01_Right.calls ((rd_T87 l0_1 x4_2).f2) true _ A13.out).mono ?_); rintro e w' ⟨rfl, ⟨nd, rfl⟩⟩; refine ⟨_, rfl, ?_⟩))
                     go_roundg k2
                     case measure => have := HJ2.out; have := HK2.out; omega
                     case rel => exact ⟨(wrap64 (x4_2 + 1)), (by first | rfl | (simp; done) | (simp [*]; done)), H', ⟨by have := HJ2.out; have := HK2.out; omega⟩, ⟨by (with_reducible repeat (first | refine blk_drewN ?_ _ | refine blk_drew ?_ | refine blk_alloc ?_ _)); refine blk_far ?_ NB292_295.out _; (with_reducible repeat (first | refine blk_drewN ?_ _ | refine blk_drew ?_ | refine blk_alloc ?_ _)); refine blk_far ?_ NB292_295.out _; (with_reducible repeat (first | refine blk_drewN ?_ _ | refine blk_drew ?_ | refine blk_alloc ?_ _)); refine blk_far ?_ NB292_295.out _; (with_reducible repeat (first | refine blk_drewN ?_ _ | refine blk_drew ?_ | refine blk_alloc ?_ _)); exact BK292.out⟩, ⟨by repeat (first | (with_reducible first | exact HB.out | apply below_alloc | apply pw_below_drewN | apply below_drew1 | refine below_set ?_ GE292.out | refine below_set ?_ GE295.out) | exact HB.out)⟩⟩
           · replace c14 := Bool.eq_false_iff.mpr c14
             subst c14
             rw [if_neg (show ¬ (false = true) by decide)] at H
             obtain rfl := Option.some.inj H
             have hcz39_0 : wr.cell? ⟨gb292, 0, none⟩ = some (.int .i64 a0_0) := (blk_cell BK292.out 0).trans rfl
             have hcz39_1 : wr.cell? ⟨gb292, 1, none⟩ = some (.slice A0_1 l0_1.length c0_1) := (blk_cell BK292.out 1).trans rfl
             have hfz39_0 := blk_frozen BK292.out 0
             have hfz39_1 := blk_frozen BK292.out 1
             have p294 : 0 ≤ (x4_2 : Int) := oda_
             have q294 : x4_2 < (l0_1.length : Int) := oda_
             obtain ⟨ad294, e294, hx294_0, hx294_1, hx294_2⟩ := at_T87 HR0_1.out x4_2 p294 q294
             cases e294
             replace hx294_0 := (HB.out.cell (World.block_lt_of_cell? w _ hx294_0)).trans hx294_0
             replace hx294_1 := (HB.out.cell (World.block_lt_of_cell? w _ hx294_1)).trans hx294_1
             replace hx294_2 := (HB.out.cell (World.block_lt_of_cell? w _ hx294_2)).trans hx294_2
             replace p294 := eq_true p294
             replace q294 := eq_true q294
             go_wp2_with (first | ((with_reducible refine gate_dst (N := 5) rfl ?_); (try (refine gate_guard (by rfl) ?_; dsimp only)); refine box_event ?hg (N := 5) ?hd (cs := #[.int .i64 0, .int .i64 0, .int .i64 0]) (t := 87) ?hr ?_; (case hd => rfl); (case hg => rfl); (case hr => first | (go_simp; done) | (go_simp; rfl)); intro gb295 hg w40 hbox hb; replace BK295 := Aside0.mk (hbox); replace GW295 := Aside0.mk ((by rw [hg]; exact (below_size bsw_) : w.heap.size ≤ gb295)); replace HB := Aside0.mk (below_step bsw_ hb); replace GE295 := GW295; replace NB292_295 := Aside0.mk ((by rw [hg]; exact Nat.ne_of_lt (blk_lt (g := gb292) (o := .cells #[.int .i64 a0_0, .slice (some ad294) l0_1.length c0_1] 39 (0, 0)) (bq_ BK292)) : gb292 ≠ gb295)); replace NB295_292 := Aside0.mk ((by rw [hg]; exact Nat.ne_of_gt (blk_lt (g := gb292) (o := .cells #[.int .i64 a0_0, .slice (some ad294) l0_1.length c0_1] 39 (0, 0)) (bq_ BK292)) : gb295 ≠ gb292)); replace BK292 := bb_ BK292 hb; clear hb hbox hg; have hnb41 := NB295_292.out; have hnc41 := NB292_295.out; have hcz42_0 : w40.cell? ⟨gb295, 0, none⟩ = some (.int .i64 0) := (blk_cell BK295.out 0).trans rfl; have hcz42_1 : w40.cell? ⟨gb295, 1, none⟩ = some (.int .i64 0) := (blk_cell BK295.out 1).trans rfl; have hcz42_2 : w40.cell? ⟨gb295, 2, none⟩ = some (.int .i64 0) := (blk_cell BK295.out 2).trans rfl; have hfz42_0 := blk_frozen BK295.out 0; have hfz42_1 := blk_frozen BK295.out 1; have hfz42_2 := blk_frozen BK295.out 2) | ((with_reducible refine gate_callee (f := 71) rfl ?_); refine goesL_ (some 38) rfl rfl Try.func71 (by kernel_rfl) rfl #[.int .i64 ((rd_T87 l0_1 x4_2).f2)] rfl mp_ ?_; (with_reducible refine (handshakerref01_Right.calls ((rd_T87 l0_1 x4_2).f2) false _ A13.out).mono ?_); rintro e w' ⟨rfl, ⟨nd, rfl⟩⟩; refine ⟨_, rfl, ?_⟩))
             go_ret
             exact ⟨by first | rfl | (simp [errW_none, errW_some] <;> rfl) | (simp [*, errW_none, errW_some] <;> rfl), by repeat (first | (with_reducible first | exact HB.out | apply below_alloc | apply pw_below_drewN | apply below_drew1 | refine below_set ?_ GE292.out | refine below_set ?_ GE295.out) | exact HB.out)⟩
         · rw [if_neg c12] at H
           exact absurd H (by simp)
       · rw [if_neg c11] at H
         have c11b0 : decide (x4_2 < (l0_1.length : Int)) = false := decide_eq_false c11
         clear c11
         obtain rfl := Option.some.inj H
         have hcz43_0 : wr.cell? ⟨gb292, 0, none⟩ = some (.int .i64 a0_0) := (blk_cell BK292.out 0).trans rfl
         have hcz43_1 : wr.cell? ⟨gb292, 1, none⟩ = some (.slice A0_1 l0_1.length c0_1) := (blk_cell BK292.out 1).trans rfl
         have hfz43_0 := blk_frozen BK292.out 0
         have hfz43_1 := blk_frozen BK292.out 1
         go_wp2
         go_ret
         exact ⟨by first | rfl | (simp [errW_none, errW_some] <;> rfl) | (simp [*, errW_none, errW_some] <;> rfl), bsw_⟩

end Go.Proofs.Ytihcnbhcemkncaa.B
