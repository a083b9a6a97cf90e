-- PRINTED by print.py (a twelfth state) out of the translation. Not trusted: Lean checks it.
import Derived.Test.YtjnkpocfmpbpoaaSax0
import Derived.Test.YtjnkpocfmpbpoaaSax3
import Derived.Test.YtjnkpocfmpbpoaaSax6
import Derived.Test.YtjnkpocfmpbpoaaSax8
import Derived.Test.YtjnkpocfmpbpoaaSax10
import Derived.Test.YtjnkpocfmpbpoaaSax11
import Derived.Test.YtjnkpocfmpbpoaaSax12
import Derived.Test.YtjnkpocfmpbpoaaSax13
namespace Go.Proofs.Ytjnkpocfmpbpoaa.Sa
open Go.Proofs.Ytjnkpocfmpbpoaa.Ho
open Go.RowKit Go.Proofs.YtjnkpocfmpbpoaaW.PrintWords Go.Proofs.YtjnkpocfmpbpoaaW.PrintLast Go.Proofs.YtjnkpocfmpbpoaaW.PrintMore
attribute [local go_sem] max2_int min2_int max_two min_two max_three min_three max_four min_four   -- for this text's walks alone
set_option linter.unusedVariables false
set_option linter.unusedSimpArgs false

/-! ### handshakerlaw15_SleepTwice: function 5 -/
def handshakerlaw15_SleepTwice.j0 : Nat → List (S26) → Bool → Int → Int → Int → List (S62) → List (S80) → Option (Bool)
 | 0, _, _, _, _, _, _, _ => none
 | k + 1, x0, x23, x348000, x348001, x348002, x348003, x348004 => if x23 = true then ((handshakerlaw15_awake.f k).bind fun t353 => (some t353)) else ((sleep_Add.f k x0 x348000 x348001 x348002 x348003 x348004).bind fun bt354 => (if bt354.2 = 0 then ((sleep_Find.f k bt354.1 x348000).bind fun bt366 => ((sleep_Add.f k bt354.1 x348000 x348001 x348002 x348003 x348004).bind fun bt377 => ((sleep_Drop.f k bt354.1 (([x348000] : List Int))).bind fun bt384 => ((sleep_Drop.f k bt354.1 (([x348000, x348000] : List Int))).bind fun bt391 => (if bt366.2.2.2.2.2 = 0 then ((handshakerlaw15_Ref.f k bt366.1 bt366.2.1 bt366.2.2.1 bt366.2.2.2.1 bt366.2.2.2.2.1).bind fun bt395 => ((handshakerlaw15_Ref.f k x348000 x348001 x348002 x348003 x348004).bind fun bt404 => ((handshakerref15_One2.f k bt395.1 bt395.2.1 bt395.2.2.1 bt395.2.2.2.1 bt395.2.2.2.2 bt404.1 bt404.2.1 bt404.2.2.1 bt404.2.2.2.1 bt404.2.2.2.2).bind fun t413 => (if t413 = true then (if bt377.2 = 9 then (if bt384.2 = 0 then ((handshakerlaw15_Refs.f k bt384.1).bind fun t414 => ((handshakerlaw15_Refs.f k x0).bind fun t417 => ((handshakerref15_Same.f k t414 t417).bind fun t420 => (if t420 = true then (if bt391.2 = 3 then ((sleep_Right.f k bt354.1).bind fun t421 => (if t421 = true then ((handshakerlaw15_awake.f k).bind fun t422 => (some t422)) else (some false))) else (some false)) else (some false))))) else (some false)) else (some false)) else (some false))))) else (some false)))))) else ((handshakerlaw15_Refs.f k bt354.1).bind fun t358 => ((handshakerlaw15_Refs.f k x0).bind fun t361 => ((handshakerref15_Same.f k t358 t361).bind fun t364 => (if t364 = true then ((handshakerlaw15_awake.f k).bind fun t365 => (some t365)) else (some false)))))))
def handshakerlaw15_SleepTwice.f (k : Nat) (l0 : List (S26)) (a1_0 : Int) (a1_1 : Int) (a1_2 : Int) (l1_3 : List (S62)) (l1_4 : List (S80)) : Option (Bool) := (handshakerlaw15_Small.f k l0).bind fun t348 => (if t348 < 0 then (handshakerlaw15_SleepTwice.j0 k l0 true a1_0 a1_1 a1_2 l1_3 l1_4) else ((handshakerlaw15_Small.f k (([(⟨a1_0, a1_1, a1_2, l1_3, l1_4⟩ : S26)] : List (S26)))).bind fun t352 => (handshakerlaw15_SleepTwice.j0 k l0 (decide (t352 < 0)) a1_0 a1_1 a1_2 l1_3 l1_4)))
theorem handshakerlaw15_SleepTwice.mono_l : ∀ k, (∀ y0 y1 y2 y3 y4 y5 y6, LeO (handshakerlaw15_SleepTwice.j0 k y0 y1 y2 y3 y4 y5 y6) (handshakerlaw15_SleepTwice.j0 (k + 1) y0 y1 y2 y3 y4 y5 y6))
 | 0 => fun _ _ _ _ _ _ _ r h => by simp [handshakerlaw15_SleepTwice.j0] at h
 | k + 1 => by
  have ih0 := handshakerlaw15_SleepTwice.mono_l k
  · intro y0 y1 y2 y3 y4 y5 y6
    unfold handshakerlaw15_SleepTwice.j0
    repeat' first
    | (with_reducible exact ih0 _ _ _ _ _ _ _)
    | (with_reducible exact handshakerlaw15_Ref.mono _ _ _ _ _ _)
    | (with_reducible exact handshakerlaw15_Refs.mono _ _)
    | (with_reducible exact handshakerlaw15_Small.mono _ _)
    | (with_reducible exact handshakerlaw15_awake.mono _)
    | (with_reducible exact handshakerref15_One2.mono _ _ _ _ _ _ _ _ _ _ _)
    | (with_reducible exact handshakerref15_Same.mono _ _ _)
    | (with_reducible exact sleep_Add.mono _ _ _ _ _ _ _)
    | (with_reducible exact sleep_Drop.mono _ _ _)
    | (with_reducible exact sleep_Find.mono _ _ _)
    | (with_reducible exact sleep_Right.mono _ _)
    | (with_reducible exact LeO.refl _)
    | (with_reducible exact LeO.none _)
    | (with_reducible refine LeO.ite ?_ ?_)
    | (with_reducible refine LeO.bind ?_ (fun _ => ?_))
    | exact ih0 _ _ _ _ _ _ _
    | exact handshakerlaw15_Ref.mono _ _ _ _ _ _
    | exact handshakerlaw15_Refs.mono _ _
    | exact handshakerlaw15_Small.mono _ _
    | exact handshakerlaw15_awake.mono _
    | exact handshakerref15_One2.mono _ _ _ _ _ _ _ _ _ _ _
    | exact handshakerref15_Same.mono _ _ _
    | exact sleep_Add.mono _ _ _ _ _ _ _
    | exact sleep_Drop.mono _ _ _
    | exact sleep_Find.mono _ _ _
    | exact sleep_Right.mono _ _
    | exact LeO.none _
    | refine LeO.ite ?_ ?_
    | refine LeO.bind ?_ (fun _ => ?_)
theorem handshakerlaw15_SleepTwice.mono : ∀ a0 a1 a2 a3 a4 a5 k, LeO (handshakerlaw15_SleepTwice.f k a0 a1 a2 a3 a4 a5) (handshakerlaw15_SleepTwice.f (k + 1) a0 a1 a2 a3 a4 a5) := by
 intro a0 a1 a2 a3 a4 a5 k
 have ih0 := handshakerlaw15_SleepTwice.mono_l k
 unfold handshakerlaw15_SleepTwice.f
 repeat' first
  | (with_reducible exact ih0 _ _ _ _ _ _ _)
  | (with_reducible exact handshakerlaw15_Ref.mono _ _ _ _ _ _)
  | (with_reducible exact handshakerlaw15_Refs.mono _ _)
  | (with_reducible exact handshakerlaw15_Small.mono _ _)
  | (with_reducible exact handshakerlaw15_awake.mono _)
  | (with_reducible exact handshakerref15_One2.mono _ _ _ _ _ _ _ _ _ _ _)
  | (with_reducible exact handshakerref15_Same.mono _ _ _)
  | (with_reducible exact sleep_Add.mono _ _ _ _ _ _ _)
  | (with_reducible exact sleep_Drop.mono _ _ _)
  | (with_reducible exact sleep_Find.mono _ _ _)
  | (with_reducible exact sleep_Right.mono _ _)
  | (with_reducible exact LeO.refl _)
  | (with_reducible exact LeO.none _)
  | (with_reducible refine LeO.ite ?_ ?_)
  | (with_reducible refine LeO.bind ?_ (fun _ => ?_))
  | exact ih0 _ _ _ _ _ _ _
  | exact handshakerlaw15_Ref.mono _ _ _ _ _ _
  | exact handshakerlaw15_Refs.mono _ _
  | exact handshakerlaw15_Small.mono _ _
  | exact handshakerlaw15_awake.mono _
  | exact handshakerref15_One2.mono _ _ _ _ _ _ _ _ _ _ _
  | exact handshakerref15_Same.mono _ _ _
  | exact sleep_Add.mono _ _ _ _ _ _ _
  | exact sleep_Drop.mono _ _ _
  | exact sleep_Find.mono _ _ _
  | exact sleep_Right.mono _ _
  | exact LeO.none _
  | refine LeO.ite ?_ ?_
  | refine LeO.bind ?_ (fun _ => ?_)
def handshakerlaw15_SleepTwice.T10 : Bool × List (List Nat × List Nat) := (true, [([], []), ([0], [0]), ([1], [1]), ([2], [2]), ([3, 2, 2], [2, 3]), ([2], [2]), ([5, 4, 2], [2, 5]), ([4, 6, 6, 2], [2, 4, 6]), ([2, 7], [2, 7]), ([8, 7], [8]), ([9], [9]), ([10, 9], [9, 10]), ([9, 11], [9, 11]), ([12, 9], [12]), ([13], [13]), ([14, 13], [13, 14]), ([13, 15], [13, 15]), ([16, 13], [16]), ([17], [17]), ([18, 17, 17], [17, 18]), ([17], [17]), ([20, 19, 17], [17, 20]), ([19, 21, 21, 17], [17, 19, 21]), ([17, 22], [17, 22]), ([23, 22], [23]), ([24], [24]), ([25, 24], [24, 25]), ([24, 26], [24, 26]), ([27, 24], [27]), ([28], [28]), ([29, 28, 28], [28, 29]), ([28, 30], [28, 30]), ([31, 30], [31]), ([32, 32], [32]), ([32, 33], [32, 33]), ([34, 33, 0, 1, 2, 3, 4, 5, 6, 7, 8, 9, 10, 11, 12, 13, 14, 15, 16, 17, 18, 19, 20, 21, 22, 23, 24, 25, 26, 27, 28, 29, 30, 31, 32, 33, 34], [34])])
def handshakerlaw15_SleepTwice.B10 : List Nat := [0, 1, 3, 7, 15, 7, 63, 127, 255, 511, 1023, 2047, 4095, 8191, 16383, 32767, 65535, 131071, 262143, 524287, 262143, 2097151, 4194303, 8388607, 16777215, 33554431, 67108863, 134217727, 268435455, 536870911, 1073741823, 2147483647, 4294967295, 8589934591, 17179869183, 34359738367]
theorem handshakerlaw15_SleepTwice.tab10 : rtab .any (opsOf Try.f5 10) = handshakerlaw15_SleepTwice.T10 := by kernel_rfl
theorem handshakerlaw15_SleepTwice.bits10 : waitsOk handshakerlaw15_SleepTwice.T10.2 handshakerlaw15_SleepTwice.B10 = true := by kernel_rfl
set_option maxHeartbeats 8000000 in
set_option maxRecDepth 100000 in
theorem handshakerlaw15_SleepTwice.calls (k : Nat) (P0_ : Nat → Prop) (A0 : Option Addr) (c0 : Nat) (l0 : List (S26)) (a1_0 : Int) (a1_1 : Int) (a1_2 : Int) (P1_3_ : Nat → Prop) (A1_3 : Option Addr) (c1_3 : Nat) (l1_3 : List (S62)) (P1_4_ : Nat → Prop) (A1_4 : Option Addr) (c1_4 : Nat) (l1_4 : List (S80)) (r : Bool) (w : World) (HT : Aside0 (r = true)) (hs0 : Kd.V k26 26 w w.heap.size (fun k_ => P0_ k_) (.slice A0 l0.length c0) l0) (hs1_3 : Kd.V k62 62 w w.heap.size (fun k_ => P1_3_ k_) (.slice A1_3 l1_3.length c1_3) l1_3) (hs1_4 : Kd.V k80 80 w w.heap.size (fun k_ => P1_4_ k_) (.slice A1_4 l1_4.length c1_4) l1_4) (h : handshakerlaw15_SleepTwice.f k l0 a1_0 a1_1 a1_2 l1_3 l1_4 = some r) :
 Calls Try.prog 5 #[.slice A0 l0.length c0, .agg #[.int .i64 a1_0, .int .i64 a1_1, .int .i64 a1_2, .slice A1_3 l1_3.length c1_3, .slice A1_4 l1_4.length c1_4]] w fun e w' => e = .returned (.bool r) ∧ Below w.heap.size w w' := by
 have hu26 := Try.underlying26
 have HO0 := Aside0.mk (show Kd.V k26 26 w w.heap.size (fun k_ => ((P0_ k_ ∨ P1_3_ k_ ∨ P1_4_ k_) ∨ w.heap.size ≤ k_)) (.slice A0 l0.length c0) l0 from Kd.V_mono hs0 (fun k_ hk => .inl (.inl hk)))
 have HO1_3 := Aside0.mk (show Kd.V k62 62 w w.heap.size (fun k_ => ((P0_ k_ ∨ P1_3_ k_ ∨ P1_4_ k_) ∨ w.heap.size ≤ k_)) (.slice A1_3 l1_3.length c1_3) l1_3 from Kd.V_mono hs1_3 (fun k_ hk => .inl (.inr (.inl hk))))
 have HO1_4 := Aside0.mk (show Kd.V k80 80 w w.heap.size (fun k_ => ((P0_ k_ ∨ P1_3_ k_ ∨ P1_4_ k_) ∨ w.heap.size ≤ k_)) (.slice A1_4 l1_4.length c1_4) l1_4 from Kd.V_mono hs1_4 (fun k_ hk => .inl (.inr (.inr hk))))
 have HB := Aside0.mk (Below.refl w.heap.size w)
 have H : ((handshakerlaw15_Small.f k l0).bind fun t348 => (if t348 < 0 then (handshakerlaw15_SleepTwice.j0 k l0 true a1_0 a1_1 a1_2 l1_3 l1_4) else ((handshakerlaw15_Small.f k (([(⟨a1_0, a1_1, a1_2, l1_3, l1_4⟩ : S26)] : List (S26)))).bind fun t352 => (handshakerlaw15_SleepTwice.j0 k l0 (decide (t352 < 0)) a1_0 a1_1 a1_2 l1_3 l1_4)))) = some r := h
 clear h
 have HC3 := Aside0.mk H
 clear H
 go_enter Try.func5, Try.ntmps5
 go_upto_region 1 with (first | ((with_reducible refine gate_dst (N := 3) rfl ?_); (try (refine gate_guard (by rfl) ?_; dsimp only)); refine box_event ?hg (N := 3) ?hd (cs := #[.int .i64 a1_0, .int .i64 a1_1, .int .i64 a1_2, .slice A1_3 l1_3.length c1_3, .slice A1_4 l1_4.length c1_4]) (t := 26) ?hr ?_; (case hd => rfl); (case hg => rfl); (case hr => first | (go_simp; done) | (go_simp; rfl)); intro gb347 hg w4 hbox hb; replace HO0 := Aside0.mk (Kd.V_below (Kd.V_elderB (vq_ HO0) gb347 (Nat.le_of_eq hg.symm)) hb); replace HO1_3 := Aside0.mk (Kd.V_below (Kd.V_elderB (vq_ HO1_3) gb347 (Nat.le_of_eq hg.symm)) hb); replace HO1_4 := Aside0.mk (Kd.V_below (Kd.V_elderB (vq_ HO1_4) gb347 (Nat.le_of_eq hg.symm)) hb); replace BK347 := Aside0.mk (hbox); replace GW347 := Aside0.mk ((by rw [hg]; exact bsz_ : w.heap.size ≤ gb347)); replace HB := Aside0.mk (bst_ hb); replace GE347 := GW347; clear hb hbox hg))
 (try simp only [Act.put, List.setIfInBounds_toArray, List.set_cons_zero, List.set_cons_succ])
 go_cut [23] (fun v23 wc => ∃ (kq : Nat) (x23_2 : Bool), v23 = .bool x23_2 ∧ Aside0 (handshakerlaw15_SleepTwice.j0 kq l0 x23_2 a1_0 a1_1 a1_2 l1_3 l1_4 = some r) ∧ Aside0 (kq ≤ k) ∧ Aside0 (Kd.V k26 26 wc w.heap.size (fun k_ => ((P0_ k_ ∨ P1_3_ k_ ∨ P1_4_ k_) ∨ w.heap.size ≤ k_) ∧ k_ ≠ gb347) (.slice A0 l0.length c0) l0) ∧ Aside0 (Kd.V k62 62 wc w.heap.size (fun k_ => ((P0_ k_ ∨ P1_3_ k_ ∨ P1_4_ k_) ∨ w.heap.size ≤ k_) ∧ k_ ≠ gb347) (.slice A1_3 l1_3.length c1_3) l1_3) ∧ Aside0 (Kd.V k80 80 wc w.heap.size (fun k_ => ((P0_ k_ ∨ P1_3_ k_ ∨ P1_4_ k_) ∨ w.heap.size ≤ k_) ∧ k_ ≠ gb347) (.slice A1_4 l1_4.length c1_4) l1_4) ∧ Aside0 (wc.heap[gb347]? = some (.cells #[.int .i64 a1_0, .int .i64 a1_1, .int .i64 a1_2, (.slice A1_3 l1_3.length c1_3), (.slice A1_4 l1_4.length c1_4)] 26 (0, 0))) ∧ Aside0 (Below w.heap.size w wc))
 case first =>
  have H := HC3.out
  clear HC3
  replace H := Option.bind_eq_some_iff.mp H
  obtain ⟨t348, A50, H⟩ := H
  have A5 := Aside0.mk A50
  clear A50
  by_cases c6 : t348 < 0
  · rw [if_pos c6] at H
    have c6b0 : decide (t348 < 0) = true := decide_eq_true c6
    clear c6
    (first | rw [c6b0] | (simp only [i64_w, i32_w]; rw [c6b0]) | skip)
    have H' := Aside0.mk H
    clear H
    go_wp2_with (first | ((with_reducible refine gate_callee (f := 14) rfl ?_); refine goesL_ (some 16) rfl rfl Try.func14 (by kernel_rfl) rfl #[.slice A0 l0.length c0] rfl mp_ ?_; (with_reducible refine (handshakerlaw15_Small.calls k _ _ l0 t348 _ ?side1 ?side2 A5.out).mono ?_); (case side1 => repeat (first | exact (Kd.V_reads' HO0.out).2.2 | with_reducible first | refine Kd.C_alloc ?_ _ | refine Kd.C_drewN ?_ _ | refine Kd.C_drew ?_)); (case side2 => exact (Kd.V_reads' HO0.out).2.1); rintro e w7 ⟨rfl, hb⟩; refine ⟨_, rfl, ?_⟩; replace HO0 := vb_ HO0 hb; replace HO1_3 := vb_ HO1_3 hb; replace HO1_4 := vb_ HO1_4 hb; replace BK347 := bb_ BK347 hb; replace HB := Aside0.mk (below_step bsw_ hb); (try clear hb); (try clear hb2); (try clear hk); (try clear hi)))
    go_meet
    case rel => exact ⟨_, (true), (by first | rfl | (simp; done) | (simp [*]; done)), H', ⟨by first | omega | exact Nat.le_refl _⟩, ⟨vq_ HO0⟩, ⟨vq_ HO1_3⟩, ⟨vq_ HO1_4⟩, ⟨bq_ BK347⟩, ⟨bsw_⟩⟩
  · rw [if_neg c6] at H
    have c6b0 : decide (t348 < 0) = false := decide_eq_false c6
    clear c6
    (first | rw [c6b0] | (simp only [i64_w, i32_w]; rw [c6b0]) | skip)
    obtain ⟨y349, hy349⟩ : ∃ y_ : List (S26), y_ = (([(⟨a1_0, a1_1, a1_2, l1_3, l1_4⟩ : S26)] : List (S26))) := ⟨_, rfl⟩
    replace H : ((handshakerlaw15_Small.f k y349).bind fun t352 => (handshakerlaw15_SleepTwice.j0 k l0 (decide (t352 < 0)) a1_0 a1_1 a1_2 l1_3 l1_4)) = some r := by first | (rw [hy349]; with_reducible exact H) | (have H2_ := (Option.bind_some _ _).symm.trans H; rw [hy349]; with_reducible exact H2_) | (have H2_ := (Option.bind_some _ _).symm.trans H; with_reducible exact H2_) | with_reducible exact H | (rw [hy349]; exact H) | exact H
    have Ny349 := Aside0.mk hy349
    clear hy349
    replace H := Option.bind_eq_some_iff.mp H
    obtain ⟨t352, A80, H⟩ := H
    have A8 := Aside0.mk A80
    clear A80
    have H' := Aside0.mk H
    clear H
    go_wp2_with (first | ((with_reducible refine gate_callee (f := 14) rfl ?_); refine goesL_ (some 16) rfl rfl Try.func14 (by kernel_rfl) rfl #[.slice A0 l0.length c0] rfl mp_ ?_; (with_reducible refine (handshakerlaw15_Small.calls k _ _ l0 t348 _ ?side1 ?side2 A5.out).mono ?_); (case side1 => repeat (first | exact (Kd.V_reads' HO0.out).2.2 | with_reducible first | refine Kd.C_alloc ?_ _ | refine Kd.C_drewN ?_ _ | refine Kd.C_drew ?_)); (case side2 => exact (Kd.V_reads' HO0.out).2.1); rintro e w9 ⟨rfl, hb⟩; refine ⟨_, rfl, ?_⟩; replace HO0 := vb_ HO0 hb; replace HO1_3 := vb_ HO1_3 hb; replace HO1_4 := vb_ HO1_4 hb; replace BK347 := bb_ BK347 hb; replace HB := Aside0.mk (below_step bsw_ hb); (try clear hb); (try clear hb2); (try clear hk); (try clear hi); have hcz10_0 : w9.cell? ⟨gb347, 0, none⟩ = some (.int .i64 a1_0) := (blk_cell BK347.out 0).trans rfl; have hcz10_1 : w9.cell? ⟨gb347, 1, none⟩ = some (.int .i64 a1_1) := (blk_cell BK347.out 1).trans rfl; have hcz10_2 : w9.cell? ⟨gb347, 2, none⟩ = some (.int .i64 a1_2) := (blk_cell BK347.out 2).trans rfl; have hcz10_3 : w9.cell? ⟨gb347, 3, none⟩ = some (.slice A1_3 l1_3.length c1_3) := (blk_cell BK347.out 3).trans rfl; have hcz10_4 : w9.cell? ⟨gb347, 4, none⟩ = some (.slice A1_4 l1_4.length c1_4) := (blk_cell BK347.out 4).trans rfl; have hfz10_0 := blk_frozen BK347.out 0; have hfz10_1 := blk_frozen BK347.out 1; have hfz10_2 := blk_frozen BK347.out 2; have hfz10_3 := blk_frozen BK347.out 3; have hfz10_4 := blk_frozen BK347.out 4) | ((with_reducible refine gate_dst (N := 20) rfl ?_); (try (refine gate_guard (by rfl) ?_; dsimp only)); refine Kd.N_lit k26 _ 26 ?hg (N' := 20) ?hd (xs := ([(⟨a1_0, a1_1, a1_2, l1_3, l1_4⟩ : S26)] : List (S26))) (inner := [.int .i64 a1_0, .int .i64 a1_1, .int .i64 a1_2, .slice A1_3 l1_3.length c1_3, .slice A1_4 l1_4.length c1_4]) (ok := (fun k_ => ((P0_ k_ ∨ P1_3_ k_ ∨ P1_4_ k_) ∨ w.heap.size ≤ k_) ∧ k_ ≠ gb347)) (okp := (fun k_ => ((P0_ k_ ∨ P1_3_ k_ ∨ P1_4_ k_) ∨ w.heap.size ≤ k_) ∧ k_ ≠ gb347)) ?hr ?hp (fun _ hk => hk) ((show ∀ k_, w9.heap.size ≤ k_ → (fun k_ => ((P0_ k_ ∨ P1_3_ k_ ∨ P1_4_ k_) ∨ w.heap.size ≤ k_) ∧ k_ ≠ gb347) k_ from fun k_ hk => ⟨(.inr (Nat.le_trans (below_size bsw_) hk)), Kd.freshB (g := gb347) (o := .cells #[.int .i64 a1_0, .int .i64 a1_1, .int .i64 a1_2, .slice A1_3 l1_3.length c1_3, .slice A1_4 l1_4.length c1_4] 26 (0, 0)) (bq_ BK347) k_ hk⟩) _ (Nat.le_refl _)) (Below.refl _ _) (Nat.le_refl _) (by simp) ?_; (case hd => rfl); (case hg => rfl); (case hr => first | (go_simp; done) | (go_simp; rfl)); (case hp => exact (Reps.c5 (show Kd.FK k26 _ _ (⟨a1_0, a1_1, a1_2, l1_3, l1_4⟩ : S26) [.int .i64 a1_0, .int .i64 a1_1, .int .i64 a1_2, .slice A1_3 l1_3.length c1_3, .slice A1_4 l1_4.length c1_4] from (k26_mkF _ _ (⟨a1_0, a1_1, a1_2, l1_3, l1_4⟩ : S26) (Kd.V_reads' (Kd.V_mono (ok' := (fun k_ => ((P0_ k_ ∨ P1_3_ k_ ∨ P1_4_ k_) ∨ w.heap.size ≤ k_) ∧ k_ ≠ gb347)) (HO1_3.out) (fun k_ hk => ⟨hk.1, hk.2⟩))).2.1 (Kd.V_F (Kd.V_mono (ok' := (fun k_ => ((P0_ k_ ∨ P1_3_ k_ ∨ P1_4_ k_) ∨ w.heap.size ≤ k_) ∧ k_ ≠ gb347)) (HO1_3.out) (fun k_ hk => ⟨hk.1, hk.2⟩))) (Kd.V_reads' (Kd.V_mono (ok' := (fun k_ => ((P0_ k_ ∨ P1_3_ k_ ∨ P1_4_ k_) ∨ w.heap.size ≤ k_) ∧ k_ ≠ gb347)) (HO1_4.out) (fun k_ hk => ⟨hk.1, hk.2⟩))).2.1 (Kd.V_F (Kd.V_mono (ok' := (fun k_ => ((P0_ k_ ∨ P1_3_ k_ ∨ P1_4_ k_) ∨ w.heap.size ≤ k_) ∧ k_ ≠ gb347)) (HO1_4.out) (fun k_ hk => ⟨hk.1, hk.2⟩))))) (Reps.none _ _))); intro v350 w11 ho12 hb hg_ hnew_; clear hg_ hnew_; (first | rw [← Ny349.out] at ho12 | (simp only [Int.reduceToNat] at ho12; rw [← Ny349.out] at ho12)); replace HO0 := Aside0.mk (Kd.V_elder' (vq_ HO0) (Kd.N_base ho12) hb); replace HO1_3 := Aside0.mk (Kd.V_elder' (vq_ HO1_3) (Kd.N_base ho12) hb); replace HO1_4 := Aside0.mk (Kd.V_elder' (vq_ HO1_4) (Kd.N_base ho12) hb); replace HO351 := Aside0.mk (Kd.N_lower ho12 (below_size bsw_)); replace BK347 := bb_ BK347 hb; replace HB := Aside0.mk (below_step bsw_ hb); clear hb ho12; obtain ⟨Ao13, co13, eo13⟩ := Kd.N_slice HO351.out; subst eo13) | (go_at_call 14; (with_reducible refine (handshakerlaw15_Small.calls k _ _ y349 t352 _ ?side1 ?side2 A8.out).mono ?_); (case side1 => repeat (first | exact (Kd.N_reads' HO351.out).2.2 | with_reducible first | refine Kd.C_alloc ?_ _ | refine Kd.C_drewN ?_ _ | refine Kd.C_drew ?_)); (case side2 => exact (Kd.N_reads' HO351.out).2.1); rintro e w14 ⟨rfl, hb⟩; replace HO0 := vb_ HO0 hb; replace HO1_3 := vb_ HO1_3 hb; replace HO1_4 := vb_ HO1_4 hb; replace HO351 := nb_ HO351 hb; replace BK347 := bb_ BK347 hb; replace HB := Aside0.mk (below_step bsw_ hb); (try clear hb); (try clear hb2); (try clear hk); (try clear hi)))
    go_meet
    case rel => exact ⟨_, (decide (t352 < 0)), (by first | rfl | (simp; done) | (simp [*]; done)), H', ⟨by first | omega | exact Nat.le_refl _⟩, ⟨Kd.V_mono (vq_ HO0) (fun _ hk => ⟨hk.1.1, hk.1.2⟩)⟩, ⟨Kd.V_mono (vq_ HO1_3) (fun _ hk => ⟨hk.1.1, hk.1.2⟩)⟩, ⟨Kd.V_mono (vq_ HO1_4) (fun _ hk => ⟨hk.1.1, hk.1.2⟩)⟩, ⟨bq_ BK347⟩, ⟨bsw_⟩⟩
 case rest =>
  clear HC3
  try clear c1
  try clear p2
  try clear c5
  try clear c6
  try clear c6b0
  try clear c14
  try clear hcz10_0
  try clear hcz10_1
  try clear hcz10_2
  try clear hcz10_3
  try clear hcz10_4
  try clear hfz10_0
  try clear hfz10_1
  try clear hfz10_2
  try clear hfz10_3
  try clear hfz10_4
  obtain ⟨kq, x23_2, rfl, HA, HJ2, HO_0, HO_348003, HO_348004, BK347, HB⟩ := hcut
  cases kq with
  | zero => exact absurd HA.out (by simp [handshakerlaw15_SleepTwice.j0])
  | succ kj2 =>
   have H := HA.out
   clear HA
   simp only [handshakerlaw15_SleepTwice.j0] at H
   by_cases c15 : x23_2 = true
   · subst c15
     rw [if_pos rfl] at H
     replace H := Option.bind_eq_some_iff.mp H
     obtain ⟨t353, A160, H⟩ := H
     have A16 := Aside0.mk A160
     clear A160
     obtain rfl := Option.some.inj H
     go_wp2_with (first | ((with_reducible refine gate_callee (f := 15) rfl ?_); refine goesL_ (some 24) rfl rfl Try.func15 (by kernel_rfl) rfl #[] rfl mp_ ?_; (with_reducible refine (handshakerlaw15_awake.calls kj2  t353 _ A16.out).mono ?_); rintro e w17 ⟨rfl, hb⟩; refine ⟨_, rfl, ?_⟩; replace HO_0 := vb_ HO_0 hb; replace HO_348003 := vb_ HO_348003 hb; replace HO_348004 := vb_ HO_348004 hb; replace BK347 := bb_ BK347 hb; replace HB := Aside0.mk (below_step bsw_ hb); (try clear hb); (try clear hb2); (try clear hk); (try clear hi)))
     go_ret
     exact ⟨by first | rfl | (simp [errW_none, errW_some] <;> rfl) | (simp [*, errW_none, errW_some] <;> rfl), bsw_⟩
   · replace c15 := Bool.eq_false_iff.mpr c15
     subst c15
     rw [if_neg (show ¬ (false = true) by decide)] at H
     replace H := Option.bind_eq_some_iff.mp H
     obtain ⟨⟨t354, t357⟩, A180, H⟩ := H
     have A18 := Aside0.mk A180
     clear A180
     by_cases c19 : t357 = 0
     · rw [if_pos c19] at H
       have c19b0 : (t357 == 0) = true := beq_iff_eq.mpr c19
       have c19b1 : (t357 != 0) = false := bne_eq_false_iff_eq.mpr c19
       clear c19
       replace H := Option.bind_eq_some_iff.mp H
       obtain ⟨⟨t366, t367, t368, t369, t372, t375⟩, A200, H⟩ := H
       have A20 := Aside0.mk A200
       clear A200
       replace H := Option.bind_eq_some_iff.mp H
       obtain ⟨⟨t377, t380⟩, A210, H⟩ := H
       have A21 := Aside0.mk A210
       clear A210
       obtain ⟨y381, hy381⟩ : ∃ y_ : List Int, y_ = (([a1_0] : List Int)) := ⟨_, rfl⟩
       replace H : ((sleep_Drop.f kj2 t354 y381).bind fun bt384 => ((sleep_Drop.f kj2 t354 (([a1_0, a1_0] : List Int))).bind fun bt391 => (if t375 = 0 then ((handshakerlaw15_Ref.f kj2 t366 t367 t368 t369 t372).bind fun bt395 => ((handshakerlaw15_Ref.f kj2 a1_0 a1_1 a1_2 l1_3 l1_4).bind fun bt404 => ((handshakerref15_One2.f kj2 bt395.1 bt395.2.1 bt395.2.2.1 bt395.2.2.2.1 bt395.2.2.2.2 bt404.1 bt404.2.1 bt404.2.2.1 bt404.2.2.2.1 bt404.2.2.2.2).bind fun t413 => (if t413 = true then (if t380 = 9 then (if bt384.2 = 0 then ((handshakerlaw15_Refs.f kj2 bt384.1).bind fun t414 => ((handshakerlaw15_Refs.f kj2 l0).bind fun t417 => ((handshakerref15_Same.f kj2 t414 t417).bind fun t420 => (if t420 = true then (if bt391.2 = 3 then ((sleep_Right.f kj2 t354).bind fun t421 => (if t421 = true then ((handshakerlaw15_awake.f kj2).bind fun t422 => (some t422)) else (some false))) else (some false)) else (some false))))) else (some false)) else (some false)) else (some false))))) else (some false)))) = some r := by first | (rw [hy381]; with_reducible exact H) | (have H2_ := (Option.bind_some _ _).symm.trans H; rw [hy381]; with_reducible exact H2_) | (have H2_ := (Option.bind_some _ _).symm.trans H; with_reducible exact H2_) | with_reducible exact H | (rw [hy381]; exact H) | exact H
       have Ny381 := Aside0.mk hy381
       clear hy381
       replace H := Option.bind_eq_some_iff.mp H
       obtain ⟨⟨t384, t387⟩, A220, H⟩ := H
       have A22 := Aside0.mk A220
       clear A220
       obtain ⟨y388, hy388⟩ : ∃ y_ : List Int, y_ = (([a1_0, a1_0] : List Int)) := ⟨_, rfl⟩
       replace H : ((sleep_Drop.f kj2 t354 y388).bind fun bt391 => (if t375 = 0 then ((handshakerlaw15_Ref.f kj2 t366 t367 t368 t369 t372).bind fun bt395 => ((handshakerlaw15_Ref.f kj2 a1_0 a1_1 a1_2 l1_3 l1_4).bind fun bt404 => ((handshakerref15_One2.f kj2 bt395.1 bt395.2.1 bt395.2.2.1 bt395.2.2.2.1 bt395.2.2.2.2 bt404.1 bt404.2.1 bt404.2.2.1 bt404.2.2.2.1 bt404.2.2.2.2).bind fun t413 => (if t413 = true then (if t380 = 9 then (if t387 = 0 then ((handshakerlaw15_Refs.f kj2 t384).bind fun t414 => ((handshakerlaw15_Refs.f kj2 l0).bind fun t417 => ((handshakerref15_Same.f kj2 t414 t417).bind fun t420 => (if t420 = true then (if bt391.2 = 3 then ((sleep_Right.f kj2 t354).bind fun t421 => (if t421 = true then ((handshakerlaw15_awake.f kj2).bind fun t422 => (some t422)) else (some false))) else (some false)) else (some false))))) else (some false)) else (some false)) else (some false))))) else (some false))) = some r := by first | (rw [hy388]; with_reducible exact H) | (have H2_ := (Option.bind_some _ _).symm.trans H; rw [hy388]; with_reducible exact H2_) | (have H2_ := (Option.bind_some _ _).symm.trans H; with_reducible exact H2_) | with_reducible exact H | (rw [hy388]; exact H) | exact H
       have Ny388 := Aside0.mk hy388
       clear hy388
       replace H := Option.bind_eq_some_iff.mp H
       obtain ⟨⟨t391, t394⟩, A230, H⟩ := H
       have A23 := Aside0.mk A230
       clear A230
       by_cases c24 : t375 = 0
       · rw [if_pos c24] at H
         have c24b0 : (t375 == 0) = true := beq_iff_eq.mpr c24
         have c24b1 : (t375 != 0) = false := bne_eq_false_iff_eq.mpr c24
         clear c24
         replace H := Option.bind_eq_some_iff.mp H
         obtain ⟨⟨t395, t396, t397, t398, t401⟩, A250, H⟩ := H
         have A25 := Aside0.mk A250
         clear A250
         replace H := Option.bind_eq_some_iff.mp H
         obtain ⟨⟨t404, t405, t406, t407, t410⟩, A260, H⟩ := H
         have A26 := Aside0.mk A260
         clear A260
         replace H := Option.bind_eq_some_iff.mp H
         obtain ⟨t413, A270, H⟩ := H
         have A27 := Aside0.mk A270
         clear A270
         by_cases c28 : t413 = true
         · subst c28
           rw [if_pos rfl] at H
           by_cases c29 : t380 = 9
           · rw [if_pos c29] at H
             have c29b0 : (t380 == 9) = true := beq_iff_eq.mpr c29
             have c29b1 : (t380 != 9) = false := bne_eq_false_iff_eq.mpr c29
             clear c29
             by_cases c30 : t387 = 0
             · rw [if_pos c30] at H
               have c30b0 : (t387 == 0) = true := beq_iff_eq.mpr c30
               have c30b1 : (t387 != 0) = false := bne_eq_false_iff_eq.mpr c30
               clear c30
               replace H := Option.bind_eq_some_iff.mp H
               obtain ⟨t414, A310, H⟩ := H
               have A31 := Aside0.mk A310
               clear A310
               replace H := Option.bind_eq_some_iff.mp H
               obtain ⟨t417, A320, H⟩ := H
               have A32 := Aside0.mk A320
               clear A320
               replace H := Option.bind_eq_some_iff.mp H
               obtain ⟨t420, A330, H⟩ := H
               have A33 := Aside0.mk A330
               clear A330
               by_cases c34 : t420 = true
               · subst c34
                 rw [if_pos rfl] at H
                 by_cases c35 : t394 = 3
                 · rw [if_pos c35] at H
                   have c35b0 : (t394 == 3) = true := beq_iff_eq.mpr c35
                   have c35b1 : (t394 != 3) = false := bne_eq_false_iff_eq.mpr c35
                   clear c35
                   replace H := Option.bind_eq_some_iff.mp H
                   obtain ⟨t421, A360, H⟩ := H
                   have A36 := Aside0.mk A360
                   clear A360
                   by_cases c37 : t421 = true
                   · subst c37
                     rw [if_pos rfl] at H
                     replace H := Option.bind_eq_some_iff.mp H
                     obtain ⟨t422, A380, H⟩ := H
                     have A38 := Aside0.mk A380
                     clear A380
                     obtain rfl := Option.some.inj H
                     have hcz39_0 : wc.cell? ⟨gb347, 0, none⟩ = some (.int .i64 a1_0) := (blk_cell BK347.out 0).trans rfl
                     have hcz39_1 : wc.cell? ⟨gb347, 1, none⟩ = some (.int .i64 a1_1) := (blk_cell BK347.out 1).trans rfl
                     have hcz39_2 : wc.cell? ⟨gb347, 2, none⟩ = some (.int .i64 a1_2) := (blk_cell BK347.out 2).trans rfl
                     have hcz39_3 : wc.cell? ⟨gb347, 3, none⟩ = some (.slice A1_3 l1_3.length c1_3) := (blk_cell BK347.out 3).trans rfl
                     have hcz39_4 : wc.cell? ⟨gb347, 4, none⟩ = some (.slice A1_4 l1_4.length c1_4) := (blk_cell BK347.out 4).trans rfl
                     have hfz39_0 := blk_frozen BK347.out 0
                     have hfz39_1 := blk_frozen BK347.out 1
                     have hfz39_2 := blk_frozen BK347.out 2
                     have hfz39_3 := blk_frozen BK347.out 3
                     have hfz39_4 := blk_frozen BK347.out 4
                     try go_wp2_with (first | ((with_reducible refine gate_callee (f := 17) rfl ?_); refine goesL_ (some 28) rfl rfl Try.func17 (by kernel_rfl) rfl #[.slice A0 l0.length c0, .agg #[.int .i64 a1_0, .int .i64 a1_1, .int .i64 a1_2, .slice A1_3 l1_3.length c1_3, .slice A1_4 l1_4.length c1_4]] rfl mp_ ?_; (with_reducible refine (sleep_Add.calls kj2 (fun k_ => (((P0_ k_ ∨ P1_3_ k_ ∨ P1_4_ k_) ∨ w.heap.size ≤ k_) ∧ k_ ≠ gb347)) _ _ l0 a1_0 a1_1 a1_2 (fun k_ => (((P0_ k_ ∨ P1_3_ k_ ∨ P1_4_ k_) ∨ w.heap.size ≤ k_) ∧ k_ ≠ gb347)) _ _ l1_3 (fun k_ => (((P0_ k_ ∨ P1_3_ k_ ∨ P1_4_ k_) ∨ w.heap.size ≤ k_) ∧ k_ ≠ gb347)) _ _ l1_4 t354 t357 _ ?side1 ?side2 ?side3 A18.out).mono ?_); (case side1 => exact HO_0.out); (case side2 => exact HO_348003.out); (case side3 => exact HO_348004.out); rintro e w40 ⟨v355, rfl, ho0, hb⟩; refine ⟨_, rfl, ?_⟩; replace HO_0 := vb_ HO_0 hb; replace HO_348003 := vb_ HO_348003 hb; replace HO_348004 := vb_ HO_348004 hb; replace HO356 := Aside0.mk (Kd.V_lower (Kd.V_mono (ok' := fun k_ => ((P0_ k_ ∨ P1_3_ k_ ∨ P1_4_ k_) ∨ w.heap.size ≤ k_) ∧ k_ ≠ gb347) ho0 (fun k_ hk_ => ⟨Or.elim hk_ (fun hs_ => Or.elim hs_ (fun hs_ => hs_.1) (fun hs_ => Or.elim hs_ (fun hs_ => hs_.1) (fun hs_ => hs_.1))) (fun hn_ => (.inr (Nat.le_trans (below_size bsw_) hn_))), Or.elim hk_ (fun hs_ => Or.elim hs_ (fun hs_ => hs_.2) (fun hs_ => Or.elim hs_ (fun hs_ => hs_.2) (fun hs_ => hs_.2))) (fun hn_ => (Kd.freshB (g := gb347) (o := .cells #[.int .i64 a1_0, .int .i64 a1_1, .int .i64 a1_2, .slice A1_3 l1_3.length c1_3, .slice A1_4 l1_4.length c1_4] 26 (0, 0)) (bq_ BK347) k_ hn_))⟩)) (below_size bsw_)); replace BK347 := bb_ BK347 hb; replace HB := Aside0.mk (below_step bsw_ hb); (try clear hb); (try clear hb2); (try clear hk); (try clear hi); (try clear ho0); have hcz41_0 : w40.cell? ⟨gb347, 0, none⟩ = some (.int .i64 a1_0) := (blk_cell BK347.out 0).trans rfl; have hcz41_1 : w40.cell? ⟨gb347, 1, none⟩ = some (.int .i64 a1_1) := (blk_cell BK347.out 1).trans rfl; have hcz41_2 : w40.cell? ⟨gb347, 2, none⟩ = some (.int .i64 a1_2) := (blk_cell BK347.out 2).trans rfl; have hcz41_3 : w40.cell? ⟨gb347, 3, none⟩ = some (.slice A1_3 l1_3.length c1_3) := (blk_cell BK347.out 3).trans rfl; have hcz41_4 : w40.cell? ⟨gb347, 4, none⟩ = some (.slice A1_4 l1_4.length c1_4) := (blk_cell BK347.out 4).trans rfl; have hfz41_0 := blk_frozen BK347.out 0; have hfz41_1 := blk_frozen BK347.out 1; have hfz41_2 := blk_frozen BK347.out 2; have hfz41_3 := blk_frozen BK347.out 3; have hfz41_4 := blk_frozen BK347.out 4; obtain ⟨Ao42, co42, eo42⟩ := Kd.V_slice HO356.out; subst eo42) | ((with_reducible refine gate_callee (f := 23) rfl ?_); refine goesL_ (some 45) rfl rfl Try.func23 (by kernel_rfl) rfl #[.slice Ao42 t354.length co42, .int .i64 a1_0] rfl mp_ ?_; (with_reducible refine (sleep_Find.calls kj2 (fun k_ => (((P0_ k_ ∨ P1_3_ k_ ∨ P1_4_ k_) ∨ w.heap.size ≤ k_) ∧ k_ ≠ gb347)) _ _ t354 a1_0 t366 t367 t368 t369 t372 t375 _ ?side1 A20.out).mono ?_); (case side1 => exact HO356.out); rintro e w43 ⟨v370, v373, rfl, ho0, ho1, hb⟩; refine ⟨_, rfl, ?_⟩; replace HO_0 := vb_ HO_0 hb; replace HO_348003 := vb_ HO_348003 hb; replace HO_348004 := vb_ HO_348004 hb; replace HO356 := vb_ HO356 hb; replace HO371 := Aside0.mk (Kd.V_lower (Kd.V_mono (ok' := fun k_ => ((P0_ k_ ∨ P1_3_ k_ ∨ P1_4_ k_) ∨ w.heap.size ≤ k_) ∧ k_ ≠ gb347) ho0 (fun k_ hk_ => ⟨Or.elim hk_ (fun hs_ => hs_.1) (fun hn_ => (.inr (Nat.le_trans (below_size bsw_) hn_))), Or.elim hk_ (fun hs_ => hs_.2) (fun hn_ => (Kd.freshB (g := gb347) (o := .cells #[.int .i64 a1_0, .int .i64 a1_1, .int .i64 a1_2, .slice A1_3 l1_3.length c1_3, .slice A1_4 l1_4.length c1_4] 26 (0, 0)) (bq_ BK347) k_ hn_))⟩)) (below_size bsw_)); replace HO374 := Aside0.mk (Kd.V_lower (Kd.V_mono (ok' := fun k_ => ((P0_ k_ ∨ P1_3_ k_ ∨ P1_4_ k_) ∨ w.heap.size ≤ k_) ∧ k_ ≠ gb347) ho1 (fun k_ hk_ => ⟨Or.elim hk_ (fun hs_ => hs_.1) (fun hn_ => (.inr (Nat.le_trans (below_size bsw_) hn_))), Or.elim hk_ (fun hs_ => hs_.2) (fun hn_ => (Kd.freshB (g := gb347) (o := .cells #[.int .i64 a1_0, .int .i64 a1_1, .int .i64 a1_2, .slice A1_3 l1_3.length c1_3, .slice A1_4 l1_4.length c1_4] 26 (0, 0)) (bq_ BK347) k_ hn_))⟩)) (below_size bsw_)); replace BK347 := bb_ BK347 hb; replace HB := Aside0.mk (below_step bsw_ hb); (try clear hb); (try clear hb2); (try clear hk); (try clear hi); (try clear ho0); (try clear ho1)) | ((with_reducible refine gate_dst (N := 7) rfl ?_); (try (refine gate_guard (by rfl) ?_; dsimp only)); refine box_event ?hg (N := 7) ?hd (cs := #[.int .i64 0, .int .i64 0, .int .i64 0, .slice none 0 0, .slice none 0 0]) (t := 26) ?hr ?_; (case hd => rfl); (case hg => rfl); (case hr => first | (go_simp; done) | (go_simp; rfl)); intro gb376 hg w44 hbox hb; replace HO_0 := Aside0.mk (Kd.V_below (Kd.V_elderB (vq_ HO_0) gb376 (Nat.le_of_eq hg.symm)) hb); replace HO_348003 := Aside0.mk (Kd.V_below (Kd.V_elderB (vq_ HO_348003) gb376 (Nat.le_of_eq hg.symm)) hb); replace HO_348004 := Aside0.mk (Kd.V_below (Kd.V_elderB (vq_ HO_348004) gb376 (Nat.le_of_eq hg.symm)) hb); replace HO356 := Aside0.mk (Kd.V_below (Kd.V_elderB (vq_ HO356) gb376 (Nat.le_of_eq hg.symm)) hb); replace HO371 := Aside0.mk (Kd.V_below (Kd.V_elderB (vq_ HO371) gb376 (Nat.le_of_eq hg.symm)) hb); replace HO374 := Aside0.mk (Kd.V_below (Kd.V_elderB (vq_ HO374) gb376 (Nat.le_of_eq hg.symm)) hb); replace BK376 := Aside0.mk (hbox); replace GW376 := Aside0.mk ((by rw [hg]; exact (below_size bsw_) : w.heap.size ≤ gb376)); replace HB := Aside0.mk (below_step bsw_ hb); replace GE376 := GW376; replace NB347_376 := Aside0.mk ((by rw [hg]; exact Nat.ne_of_lt (blk_lt (g := gb347) (o := .cells #[.int .i64 a1_0, .int .i64 a1_1, .int .i64 a1_2, .slice A1_3 l1_3.length c1_3, .slice A1_4 l1_4.length c1_4] 26 (0, 0)) (bq_ BK347)) : gb347 ≠ gb376)); replace NB376_347 := Aside0.mk ((by rw [hg]; exact Nat.ne_of_gt (blk_lt (g := gb347) (o := .cells #[.int .i64 a1_0, .int .i64 a1_1, .int .i64 a1_2, .slice A1_3 l1_3.length c1_3, .slice A1_4 l1_4.length c1_4] 26 (0, 0)) (bq_ BK347)) : gb376 ≠ gb347)); replace BK347 := bb_ BK347 hb; clear hb hbox hg; have hnb45 := NB376_347.out; have hnc45 := NB347_376.out; have hcz46_0 : w44.cell? ⟨gb376, 0, none⟩ = some (.int .i64 0) := (blk_cell BK376.out 0).trans rfl; have hcz46_1 : w44.cell? ⟨gb376, 1, none⟩ = some (.int .i64 0) := (blk_cell BK376.out 1).trans rfl; have hcz46_2 : w44.cell? ⟨gb376, 2, none⟩ = some (.int .i64 0) := (blk_cell BK376.out 2).trans rfl; have hcz46_3 : w44.cell? ⟨gb376, 3, none⟩ = some (.slice none 0 0) := (blk_cell BK376.out 3).trans rfl; have hcz46_4 : w44.cell? ⟨gb376, 4, none⟩ = some (.slice none 0 0) := (blk_cell BK376.out 4).trans rfl; have hfz46_0 := blk_frozen BK376.out 0; have hfz46_1 := blk_frozen BK376.out 1; have hfz46_2 := blk_frozen BK376.out 2; have hfz46_3 := blk_frozen BK376.out 3; have hfz46_4 := blk_frozen BK376.out 4; obtain ⟨Ao47, co47, eo47⟩ := Kd.V_slice HO371.out; subst eo47; obtain ⟨Ao48, co48, eo48⟩ := Kd.V_slice HO374.out; subst eo48) | ((with_reducible refine gate_store (t := 26) (p := 7) rfl ?_); refine store_event (t := 26) (p := 7) (v := ?vo_w49) (w1 := (((((w44.setCell ⟨gb376, 0, none⟩ (.int .i64 t366)).setCell ⟨gb376, 1, none⟩ (.int .i64 t367)).setCell ⟨gb376, 2, none⟩ (.int .i64 t368)).setCell ⟨gb376, 3, none⟩ (.slice Ao47 t369.length co47)).setCell ⟨gb376, 4, none⟩ (.slice Ao48 t372.length co48))) ?hg ?ho ?hn ?hr ?_; (case ho => rfl); (case hg => rfl); (case hn => rfl); (case hr => first | (go_simp; done) | (go_simp; rfl)); intro w49 hw; have n0_ : Aside0 (Kd.V k26 26 w49 w.heap.size (fun k_ => ((P0_ k_ ∨ P1_3_ k_ ∨ P1_4_ k_) ∨ w.heap.size ≤ k_) ∧ k_ ≠ gb347 ∧ k_ ≠ gb376) (.slice A0 l0.length c0) l0) := ⟨(by rw [hw]; exact (by (with_reducible repeat (first | apply Kd.V_alloc | apply Kd.V_drewN | apply Kd.V_drew)); exact Kd.V_mono (Kd.V_far (p := ⟨gb376, 4, none⟩) (Kd.V_far (p := ⟨gb376, 3, none⟩) (Kd.V_far (p := ⟨gb376, 2, none⟩) (Kd.V_far (p := ⟨gb376, 1, none⟩) (Kd.V_far (p := ⟨gb376, 0, none⟩) (Kd.V_mono HO_0.out (fun k_ hk => (⟨hk, hk.2⟩ : _ ∧ k_ ≠ gb376))) (fun _ hk => hk.2) (.int .i64 t366)) (fun _ hk => hk.2) (.int .i64 t367)) (fun _ hk => hk.2) (.int .i64 t368)) (fun _ hk => hk.2) (.slice Ao47 t369.length co47)) (fun _ hk => hk.2) (.slice Ao48 t372.length co48)) (fun _ hk => ⟨hk.1.1.1, ⟨hk.1.1.2, hk.1.2⟩⟩)))⟩; have n1_ : Aside0 (Kd.V k62 62 w49 w.heap.size (fun k_ => ((P0_ k_ ∨ P1_3_ k_ ∨ P1_4_ k_) ∨ w.heap.size ≤ k_) ∧ k_ ≠ gb347 ∧ k_ ≠ gb376) (.slice A1_3 l1_3.length c1_3) l1_3) := ⟨(by rw [hw]; exact (by (with_reducible repeat (first | apply Kd.V_alloc | apply Kd.V_drewN | apply Kd.V_drew)); exact Kd.V_mono (Kd.V_far (p := ⟨gb376, 4, none⟩) (Kd.V_far (p := ⟨gb376, 3, none⟩) (Kd.V_far (p := ⟨gb376, 2, none⟩) (Kd.V_far (p := ⟨gb376, 1, none⟩) (Kd.V_far (p := ⟨gb376, 0, none⟩) (Kd.V_mono HO_348003.out (fun k_ hk => (⟨hk, hk.2⟩ : _ ∧ k_ ≠ gb376))) (fun _ hk => hk.2) (.int .i64 t366)) (fun _ hk => hk.2) (.int .i64 t367)) (fun _ hk => hk.2) (.int .i64 t368)) (fun _ hk => hk.2) (.slice Ao47 t369.length co47)) (fun _ hk => hk.2) (.slice Ao48 t372.length co48)) (fun _ hk => ⟨hk.1.1.1, ⟨hk.1.1.2, hk.1.2⟩⟩)))⟩; have n2_ : Aside0 (Kd.V k80 80 w49 w.heap.size (fun k_ => ((P0_ k_ ∨ P1_3_ k_ ∨ P1_4_ k_) ∨ w.heap.size ≤ k_) ∧ k_ ≠ gb347 ∧ k_ ≠ gb376) (.slice A1_4 l1_4.length c1_4) l1_4) := ⟨(by rw [hw]; exact (by (with_reducible repeat (first | apply Kd.V_alloc | apply Kd.V_drewN | apply Kd.V_drew)); exact Kd.V_mono (Kd.V_far (p := ⟨gb376, 4, none⟩) (Kd.V_far (p := ⟨gb376, 3, none⟩) (Kd.V_far (p := ⟨gb376, 2, none⟩) (Kd.V_far (p := ⟨gb376, 1, none⟩) (Kd.V_far (p := ⟨gb376, 0, none⟩) (Kd.V_mono HO_348004.out (fun k_ hk => (⟨hk, hk.2⟩ : _ ∧ k_ ≠ gb376))) (fun _ hk => hk.2) (.int .i64 t366)) (fun _ hk => hk.2) (.int .i64 t367)) (fun _ hk => hk.2) (.int .i64 t368)) (fun _ hk => hk.2) (.slice Ao47 t369.length co47)) (fun _ hk => hk.2) (.slice Ao48 t372.length co48)) (fun _ hk => ⟨hk.1.1.1, ⟨hk.1.1.2, hk.1.2⟩⟩)))⟩; have n3_ : Aside0 (Kd.V k26 26 w49 w.heap.size (fun k_ => ((P0_ k_ ∨ P1_3_ k_ ∨ P1_4_ k_) ∨ w.heap.size ≤ k_) ∧ k_ ≠ gb347 ∧ k_ ≠ gb376) (.slice Ao42 t354.length co42) t354) := ⟨(by rw [hw]; exact (by (with_reducible repeat (first | apply Kd.V_alloc | apply Kd.V_drewN | apply Kd.V_drew)); exact Kd.V_mono (Kd.V_far (p := ⟨gb376, 4, none⟩) (Kd.V_far (p := ⟨gb376, 3, none⟩) (Kd.V_far (p := ⟨gb376, 2, none⟩) (Kd.V_far (p := ⟨gb376, 1, none⟩) (Kd.V_far (p := ⟨gb376, 0, none⟩) (Kd.V_mono HO356.out (fun k_ hk => (⟨hk, hk.2⟩ : _ ∧ k_ ≠ gb376))) (fun _ hk => hk.2) (.int .i64 t366)) (fun _ hk => hk.2) (.int .i64 t367)) (fun _ hk => hk.2) (.int .i64 t368)) (fun _ hk => hk.2) (.slice Ao47 t369.length co47)) (fun _ hk => hk.2) (.slice Ao48 t372.length co48)) (fun _ hk => ⟨hk.1.1.1, ⟨hk.1.1.2, hk.1.2⟩⟩)))⟩; have n4_ : Aside0 (Kd.V k62 62 w49 w.heap.size (fun k_ => ((P0_ k_ ∨ P1_3_ k_ ∨ P1_4_ k_) ∨ w.heap.size ≤ k_) ∧ k_ ≠ gb347 ∧ k_ ≠ gb376) (.slice Ao47 t369.length co47) t369) := ⟨(by rw [hw]; exact (by (with_reducible repeat (first | apply Kd.V_alloc | apply Kd.V_drewN | apply Kd.V_drew)); exact Kd.V_mono (Kd.V_far (p := ⟨gb376, 4, none⟩) (Kd.V_far (p := ⟨gb376, 3, none⟩) (Kd.V_far (p := ⟨gb376, 2, none⟩) (Kd.V_far (p := ⟨gb376, 1, none⟩) (Kd.V_far (p := ⟨gb376, 0, none⟩) (Kd.V_mono HO371.out (fun k_ hk => (⟨hk, hk.2⟩ : _ ∧ k_ ≠ gb376))) (fun _ hk => hk.2) (.int .i64 t366)) (fun _ hk => hk.2) (.int .i64 t367)) (fun _ hk => hk.2) (.int .i64 t368)) (fun _ hk => hk.2) (.slice Ao47 t369.length co47)) (fun _ hk => hk.2) (.slice Ao48 t372.length co48)) (fun _ hk => ⟨hk.1.1.1, ⟨hk.1.1.2, hk.1.2⟩⟩)))⟩; have n5_ : Aside0 (Kd.V k80 80 w49 w.heap.size (fun k_ => ((P0_ k_ ∨ P1_3_ k_ ∨ P1_4_ k_) ∨ w.heap.size ≤ k_) ∧ k_ ≠ gb347 ∧ k_ ≠ gb376) (.slice Ao48 t372.length co48) t372) := ⟨(by rw [hw]; exact (by (with_reducible repeat (first | apply Kd.V_alloc | apply Kd.V_drewN | apply Kd.V_drew)); exact Kd.V_mono (Kd.V_far (p := ⟨gb376, 4, none⟩) (Kd.V_far (p := ⟨gb376, 3, none⟩) (Kd.V_far (p := ⟨gb376, 2, none⟩) (Kd.V_far (p := ⟨gb376, 1, none⟩) (Kd.V_far (p := ⟨gb376, 0, none⟩) (Kd.V_mono HO374.out (fun k_ hk => (⟨hk, hk.2⟩ : _ ∧ k_ ≠ gb376))) (fun _ hk => hk.2) (.int .i64 t366)) (fun _ hk => hk.2) (.int .i64 t367)) (fun _ hk => hk.2) (.int .i64 t368)) (fun _ hk => hk.2) (.slice Ao47 t369.length co47)) (fun _ hk => hk.2) (.slice Ao48 t372.length co48)) (fun _ hk => ⟨hk.1.1.1, ⟨hk.1.1.2, hk.1.2⟩⟩)))⟩; have n6_ : Aside0 (w49.heap[gb347]? = some (.cells #[.int .i64 a1_0, .int .i64 a1_1, .int .i64 a1_2, .slice A1_3 l1_3.length c1_3, .slice A1_4 l1_4.length c1_4] 26 (0, 0))) := ⟨(by rw [hw]; exact (by (with_reducible repeat (first | refine blk_drewN ?_ _ | refine blk_drew ?_ | refine blk_alloc ?_ _)); refine blk_far ?_ NB347_376.out _; (with_reducible repeat (first | refine blk_drewN ?_ _ | refine blk_drew ?_ | refine blk_alloc ?_ _)); refine blk_far ?_ NB347_376.out _; (with_reducible repeat (first | refine blk_drewN ?_ _ | refine blk_drew ?_ | refine blk_alloc ?_ _)); refine blk_far ?_ NB347_376.out _; (with_reducible repeat (first | refine blk_drewN ?_ _ | refine blk_drew ?_ | refine blk_alloc ?_ _)); refine blk_far ?_ NB347_376.out _; (with_reducible repeat (first | refine blk_drewN ?_ _ | refine blk_drew ?_ | refine blk_alloc ?_ _)); refine blk_far ?_ NB347_376.out _; (with_reducible repeat (first | refine blk_drewN ?_ _ | refine blk_drew ?_ | refine blk_alloc ?_ _)); exact BK347.out))⟩; have n7_ : Aside0 (w49.heap[gb376]? = some (.cells #[.int .i64 t366, .int .i64 t367, .int .i64 t368, .slice Ao47 t369.length co47, .slice Ao48 t372.length co48] 26 (0, 0))) := ⟨(by rw [hw]; exact (by (with_reducible repeat (first | refine blk_drewN ?_ _ | refine blk_drew ?_ | refine blk_alloc ?_ _)); refine blk_put (cs := #[.int .i64 t366, .int .i64 t367, .int .i64 t368, .slice Ao47 t369.length co47, .slice none 0 0]) ?_ 4 _ rfl; (with_reducible repeat (first | refine blk_drewN ?_ _ | refine blk_drew ?_ | refine blk_alloc ?_ _)); refine blk_put (cs := #[.int .i64 t366, .int .i64 t367, .int .i64 t368, .slice none 0 0, .slice none 0 0]) ?_ 3 _ rfl; (with_reducible repeat (first | refine blk_drewN ?_ _ | refine blk_drew ?_ | refine blk_alloc ?_ _)); refine blk_put (cs := #[.int .i64 t366, .int .i64 t367, .int .i64 0, .slice none 0 0, .slice none 0 0]) ?_ 2 _ rfl; (with_reducible repeat (first | refine blk_drewN ?_ _ | refine blk_drew ?_ | refine blk_alloc ?_ _)); refine blk_put (cs := #[.int .i64 t366, .int .i64 0, .int .i64 0, .slice none 0 0, .slice none 0 0]) ?_ 1 _ rfl; (with_reducible repeat (first | refine blk_drewN ?_ _ | refine blk_drew ?_ | refine blk_alloc ?_ _)); refine blk_put (cs := #[.int .i64 0, .int .i64 0, .int .i64 0, .slice none 0 0, .slice none 0 0]) ?_ 0 _ rfl; (with_reducible repeat (first | refine blk_drewN ?_ _ | refine blk_drew ?_ | refine blk_alloc ?_ _)); exact BK376.out))⟩; have n8_ : Aside0 (Below w.heap.size w w49) := ⟨(by rw [hw]; exact (by repeat (first | (with_reducible first | exact HB.out | apply below_alloc | apply pw_below_drewN | apply below_drew1 | refine below_set ?_ GE347.out | refine below_set ?_ GE376.out) | exact HB.out)))⟩; clear hw; clear HO_0; clear HO_348003; clear HO_348004; clear HO356; clear HO371; clear HO374; clear BK347; clear BK376; clear HB; have HO_0 := n0_; have HO_348003 := n1_; have HO_348004 := n2_; have HO356 := n3_; have HO371 := n4_; have HO374 := n5_; have BK347 := n6_; have BK376 := n7_; have HB := n8_; clear n0_ n1_ n2_ n3_ n4_ n5_ n6_ n7_ n8_; have hcz50_0 : w49.cell? ⟨gb347, 0, none⟩ = some (.int .i64 a1_0) := (blk_cell BK347.out 0).trans rfl; have hcz50_1 : w49.cell? ⟨gb347, 1, none⟩ = some (.int .i64 a1_1) := (blk_cell BK347.out 1).trans rfl; have hcz50_2 : w49.cell? ⟨gb347, 2, none⟩ = some (.int .i64 a1_2) := (blk_cell BK347.out 2).trans rfl; have hcz50_3 : w49.cell? ⟨gb347, 3, none⟩ = some (.slice A1_3 l1_3.length c1_3) := (blk_cell BK347.out 3).trans rfl; have hcz50_4 : w49.cell? ⟨gb347, 4, none⟩ = some (.slice A1_4 l1_4.length c1_4) := (blk_cell BK347.out 4).trans rfl; have hfz50_0 := blk_frozen BK347.out 0; have hfz50_1 := blk_frozen BK347.out 1; have hfz50_2 := blk_frozen BK347.out 2; have hfz50_3 := blk_frozen BK347.out 3; have hfz50_4 := blk_frozen BK347.out 4) | ((with_reducible refine gate_callee (f := 17) rfl ?_); refine goesL_ (some 51) rfl rfl Try.func17 (by kernel_rfl) rfl #[.slice Ao42 t354.length co42, .agg #[.int .i64 a1_0, .int .i64 a1_1, .int .i64 a1_2, .slice A1_3 l1_3.length c1_3, .slice A1_4 l1_4.length c1_4]] rfl mp_ ?_; (with_reducible refine (sleep_Add.calls kj2 (fun k_ => (((P0_ k_ ∨ P1_3_ k_ ∨ P1_4_ k_) ∨ w.heap.size ≤ k_) ∧ (k_ ≠ gb347 ∧ k_ ≠ gb376))) _ _ t354 a1_0 a1_1 a1_2 (fun k_ => (((P0_ k_ ∨ P1_3_ k_ ∨ P1_4_ k_) ∨ w.heap.size ≤ k_) ∧ (k_ ≠ gb347 ∧ k_ ≠ gb376))) _ _ l1_3 (fun k_ => (((P0_ k_ ∨ P1_3_ k_ ∨ P1_4_ k_) ∨ w.heap.size ≤ k_) ∧ (k_ ≠ gb347 ∧ k_ ≠ gb376))) _ _ l1_4 t377 t380 _ ?side1 ?side2 ?side3 A21.out).mono ?_); (case side1 => exact HO356.out); (case side2 => exact HO_348003.out); (case side3 => exact HO_348004.out); rintro e w51 ⟨v378, rfl, ho0, hb⟩; refine ⟨_, rfl, ?_⟩; replace HO_0 := vb_ HO_0 hb; replace HO_348003 := vb_ HO_348003 hb; replace HO_348004 := vb_ HO_348004 hb; replace HO356 := vb_ HO356 hb; replace HO371 := vb_ HO371 hb; replace HO374 := vb_ HO374 hb; replace HO379 := Aside0.mk (Kd.V_lower (Kd.V_mono (ok' := fun k_ => ((P0_ k_ ∨ P1_3_ k_ ∨ P1_4_ k_) ∨ w.heap.size ≤ k_) ∧ k_ ≠ gb347 ∧ k_ ≠ gb376) ho0 (fun k_ hk_ => ⟨Or.elim hk_ (fun hs_ => Or.elim hs_ (fun hs_ => hs_.1) (fun hs_ => Or.elim hs_ (fun hs_ => hs_.1) (fun hs_ => hs_.1))) (fun hn_ => (.inr (Nat.le_trans (below_size (by repeat (first | (with_reducible first | exact HB.out | apply below_alloc | apply pw_below_drewN | apply below_drew1 | refine below_set ?_ GE347.out | refine below_set ?_ GE376.out) | exact HB.out))) hn_))), Or.elim hk_ (fun hs_ => Or.elim hs_ (fun hs_ => hs_.2.1) (fun hs_ => Or.elim hs_ (fun hs_ => hs_.2.1) (fun hs_ => hs_.2.1))) (fun hn_ => (Kd.freshB (g := gb347) (o := .cells #[.int .i64 a1_0, .int .i64 a1_1, .int .i64 a1_2, .slice A1_3 l1_3.length c1_3, .slice A1_4 l1_4.length c1_4] 26 (0, 0)) (bq_ BK347) k_ hn_)), Or.elim hk_ (fun hs_ => Or.elim hs_ (fun hs_ => hs_.2.2) (fun hs_ => Or.elim hs_ (fun hs_ => hs_.2.2) (fun hs_ => hs_.2.2))) (fun hn_ => (Kd.freshB (g := gb376) (o := .cells #[.int .i64 t366, .int .i64 t367, .int .i64 t368, .slice Ao47 t369.length co47, .slice Ao48 t372.length co48] 26 (0, 0)) (bq_ BK376) k_ hn_))⟩)) (below_size (by repeat (first | (with_reducible first | exact HB.out | apply below_alloc | apply pw_below_drewN | apply below_drew1 | refine below_set ?_ GE347.out | refine below_set ?_ GE376.out) | exact HB.out)))); replace BK347 := bb_ BK347 hb; replace BK376 := bb_ BK376 hb; replace HB := Aside0.mk (below_step (by repeat (first | (with_reducible first | exact HB.out | apply below_alloc | apply pw_below_drewN | apply below_drew1 | refine below_set ?_ GE347.out | refine below_set ?_ GE376.out) | exact HB.out)) hb); (try clear hb); (try clear hb2); (try clear hk); (try clear hi); (try clear ho0); have hcz52_0 : w51.cell? ⟨gb347, 0, none⟩ = some (.int .i64 a1_0) := (blk_cell BK347.out 0).trans rfl; have hcz52_1 : w51.cell? ⟨gb347, 1, none⟩ = some (.int .i64 a1_1) := (blk_cell BK347.out 1).trans rfl; have hcz52_2 : w51.cell? ⟨gb347, 2, none⟩ = some (.int .i64 a1_2) := (blk_cell BK347.out 2).trans rfl; have hcz52_3 : w51.cell? ⟨gb347, 3, none⟩ = some (.slice A1_3 l1_3.length c1_3) := (blk_cell BK347.out 3).trans rfl; have hcz52_4 : w51.cell? ⟨gb347, 4, none⟩ = some (.slice A1_4 l1_4.length c1_4) := (blk_cell BK347.out 4).trans rfl; have hfz52_0 := blk_frozen BK347.out 0; have hfz52_1 := blk_frozen BK347.out 1; have hfz52_2 := blk_frozen BK347.out 2; have hfz52_3 := blk_frozen BK347.out 3; have hfz52_4 := blk_frozen BK347.out 4) | ((with_reducible refine gate_dst (N := 58) rfl ?_); (try (refine gate_guard (by rfl) ?_; dsimp only)); refine Kd.R_lit (Kd.int .i64) _ 3 ?hg (N := 58) ?hd (xs := ([a1_0] : List Int)) (inner := [.int .i64 a1_0]) (ok := fun _ => True) (okp := fun _ => True) ?hr ?hp (fun _ hk => hk) trivial (Below.refl _ _) (Nat.le_refl _) (by simp) ?_; (case hd => rfl); (case hg => rfl); (case hr => first | (go_simp; done) | (go_simp; rfl)); (case hp => exact (Reps.one (show Kd.M (Kd.int .i64) _ _ _ a1_0 [.int .i64 a1_0] from rfl) (Reps.none _ _))); intro v382 w53 ho54 hb hg_ hnew_; clear hg_ hnew_; (first | rw [← Ny381.out] at ho54 | (simp only [Int.reduceToNat] at ho54; rw [← Ny381.out] at ho54)); replace HO_0 := Aside0.mk (Kd.V_elder' (vq_ HO_0) (Kd.R_base ho54) hb); replace HO_348003 := Aside0.mk (Kd.V_elder' (vq_ HO_348003) (Kd.R_base ho54) hb); replace HO_348004 := Aside0.mk (Kd.V_elder' (vq_ HO_348004) (Kd.R_base ho54) hb); replace HO356 := Aside0.mk (Kd.V_elder' (vq_ HO356) (Kd.R_base ho54) hb); replace HO371 := Aside0.mk (Kd.V_elder' (vq_ HO371) (Kd.R_base ho54) hb); replace HO374 := Aside0.mk (Kd.V_elder' (vq_ HO374) (Kd.R_base ho54) hb); replace HO379 := Aside0.mk (Kd.V_elder' (vq_ HO379) (Kd.R_base ho54) hb); replace HO383 := Aside0.mk (Kd.R_lower (Kd.R_newM (M := fun k_ => (w.heap.size ≤ k_)) ho54 (below_size (by repeat (first | (with_reducible first | exact HB.out | apply below_alloc | apply pw_below_drewN | apply below_drew1 | refine below_set ?_ GE347.out | refine below_set ?_ GE376.out) | exact HB.out))) (fun k_ h_ => h_)) (below_size (by repeat (first | (with_reducible first | exact HB.out | apply below_alloc | apply pw_below_drewN | apply below_drew1 | refine below_set ?_ GE347.out | refine below_set ?_ GE376.out) | exact HB.out)))); replace BK347 := bb_ BK347 hb; replace BK376 := bb_ BK376 hb; replace HB := Aside0.mk (below_step (by repeat (first | (with_reducible first | exact HB.out | apply below_alloc | apply pw_below_drewN | apply below_drew1 | refine below_set ?_ GE347.out | refine below_set ?_ GE376.out) | exact HB.out)) hb); clear hb ho54; obtain ⟨Ao55, co55, eo55⟩ := Kd.R_slice HO383.out; subst eo55) | ((with_reducible refine gate_callee (f := 20) rfl ?_); refine goesL_ (some 59) rfl rfl Try.func20 (by kernel_rfl) rfl #[.slice Ao42 t354.length co42, .slice Ao55 y381.length co55] rfl mp_ ?_; (with_reducible refine (sleep_Drop.calls kj2 (fun k_ => ((((P0_ k_ ∨ P1_3_ k_ ∨ P1_4_ k_) ∨ w.heap.size ≤ k_) ∧ (k_ ≠ gb347 ∧ k_ ≠ gb376)) ∧ some k_ ≠ (.slice Ao55 y381.length co55 : Value).ownBlock)) _ _ t354 _ _ y381 t384 t387 _ ?side1 ?side2 ?side3 A22.out).mono ?_); (case side1 => exact HO356.out); (case side2 => repeat (first | exact (Kd.R_reads' HO383.out).2.2 | with_reducible first | refine Kd.C_alloc ?_ _ | refine Kd.C_drewN ?_ _ | refine Kd.C_drew ?_)); (case side3 => exact (Kd.R_reads' HO383.out).2.1); rintro e w56 ⟨v385, rfl, ho0, hb⟩; refine ⟨_, rfl, ?_⟩; replace HO_0 := vb_ HO_0 hb; replace HO_348003 := vb_ HO_348003 hb; replace HO_348004 := vb_ HO_348004 hb; replace HO356 := vb_ HO356 hb; replace HO371 := vb_ HO371 hb; replace HO374 := vb_ HO374 hb; replace HO379 := vb_ HO379 hb; replace HO386 := Aside0.mk (Kd.V_lower (Kd.V_mono (ok' := fun k_ => ((P0_ k_ ∨ P1_3_ k_ ∨ P1_4_ k_) ∨ w.heap.size ≤ k_) ∧ some k_ ≠ (.slice Ao55 y381.length co55 : Value).ownBlock ∧ k_ ≠ gb347 ∧ k_ ≠ gb376) ho0 (fun k_ hk_ => ⟨Or.elim hk_ (fun hs_ => hs_.1.1) (fun hn_ => (.inr (Nat.le_trans (below_size (by repeat (first | (with_reducible first | exact HB.out | apply below_alloc | apply pw_below_drewN | apply below_drew1 | refine below_set ?_ GE347.out | refine below_set ?_ GE376.out) | exact HB.out))) hn_))), Or.elim hk_ (fun hs_ => hs_.2) (fun hn_ => (Kd.fresh' (Kd.R_lt (rq_ HO383)) k_ hn_)), Or.elim hk_ (fun hs_ => hs_.1.2.1) (fun hn_ => (Kd.freshB (g := gb347) (o := .cells #[.int .i64 a1_0, .int .i64 a1_1, .int .i64 a1_2, .slice A1_3 l1_3.length c1_3, .slice A1_4 l1_4.length c1_4] 26 (0, 0)) (bq_ BK347) k_ hn_)), Or.elim hk_ (fun hs_ => hs_.1.2.2) (fun hn_ => (Kd.freshB (g := gb376) (o := .cells #[.int .i64 t366, .int .i64 t367, .int .i64 t368, .slice Ao47 t369.length co47, .slice Ao48 t372.length co48] 26 (0, 0)) (bq_ BK376) k_ hn_))⟩)) (below_size (by repeat (first | (with_reducible first | exact HB.out | apply below_alloc | apply pw_below_drewN | apply below_drew1 | refine below_set ?_ GE347.out | refine below_set ?_ GE376.out) | exact HB.out)))); replace HO383 := rb_ HO383 hb; replace BK347 := bb_ BK347 hb; replace BK376 := bb_ BK376 hb; replace HB := Aside0.mk (below_step (by repeat (first | (with_reducible first | exact HB.out | apply below_alloc | apply pw_below_drewN | apply below_drew1 | refine below_set ?_ GE347.out | refine below_set ?_ GE376.out) | exact HB.out)) hb); (try clear hb); (try clear hb2); (try clear hk); (try clear hi); (try clear ho0); have hcz57_0 : w56.cell? ⟨gb347, 0, none⟩ = some (.int .i64 a1_0) := (blk_cell BK347.out 0).trans rfl; have hcz57_1 : w56.cell? ⟨gb347, 1, none⟩ = some (.int .i64 a1_1) := (blk_cell BK347.out 1).trans rfl; have hcz57_2 : w56.cell? ⟨gb347, 2, none⟩ = some (.int .i64 a1_2) := (blk_cell BK347.out 2).trans rfl; have hcz57_3 : w56.cell? ⟨gb347, 3, none⟩ = some (.slice A1_3 l1_3.length c1_3) := (blk_cell BK347.out 3).trans rfl; have hcz57_4 : w56.cell? ⟨gb347, 4, none⟩ = some (.slice A1_4 l1_4.length c1_4) := (blk_cell BK347.out 4).trans rfl; have hfz57_0 := blk_frozen BK347.out 0; have hfz57_1 := blk_frozen BK347.out 1; have hfz57_2 := blk_frozen BK347.out 2; have hfz57_3 := blk_frozen BK347.out 3; have hfz57_4 := blk_frozen BK347.out 4) | ((with_reducible refine gate_dst (N := 68) rfl ?_); (try (refine gate_guard (by rfl) ?_; dsimp only)); refine Kd.R_lit (Kd.int .i64) _ 3 ?hg (N := 68) ?hd (xs := ([a1_0, a1_0] : List Int)) (inner := [.int .i64 a1_0, .int .i64 a1_0]) (ok := fun _ => True) (okp := fun _ => True) ?hr ?hp (fun _ hk => hk) trivial (Below.refl _ _) (Nat.le_refl _) (by simp) ?_; (case hd => rfl); (case hg => rfl); (case hr => first | (go_simp; done) | (go_simp; rfl)); (case hp => exact (Reps.one (show Kd.M (Kd.int .i64) _ _ _ a1_0 [.int .i64 a1_0] from rfl) (Reps.one (show Kd.M (Kd.int .i64) _ _ _ a1_0 [.int .i64 a1_0] from rfl) (Reps.none _ _)))); intro v389 w58 ho59 hb hg_ hnew_; clear hg_ hnew_; (first | rw [← Ny388.out] at ho59 | (simp only [Int.reduceToNat] at ho59; rw [← Ny388.out] at ho59)); replace HO_0 := Aside0.mk (Kd.V_elder' (vq_ HO_0) (Kd.R_base ho59) hb); replace HO_348003 := Aside0.mk (Kd.V_elder' (vq_ HO_348003) (Kd.R_base ho59) hb); replace HO_348004 := Aside0.mk (Kd.V_elder' (vq_ HO_348004) (Kd.R_base ho59) hb); replace HO356 := Aside0.mk (Kd.V_elder' (vq_ HO356) (Kd.R_base ho59) hb); replace HO371 := Aside0.mk (Kd.V_elder' (vq_ HO371) (Kd.R_base ho59) hb); replace HO374 := Aside0.mk (Kd.V_elder' (vq_ HO374) (Kd.R_base ho59) hb); replace HO379 := Aside0.mk (Kd.V_elder' (vq_ HO379) (Kd.R_base ho59) hb); replace HO386 := Aside0.mk (Kd.V_elder' (vq_ HO386) (Kd.R_base ho59) hb); replace HO390 := Aside0.mk (Kd.R_lower (Kd.R_new' (Kd.R_newM (M := fun k_ => (w.heap.size ≤ k_)) ho59 (below_size (by repeat (first | (with_reducible first | exact HB.out | apply below_alloc | apply pw_below_drewN | apply below_drew1 | refine below_set ?_ GE347.out | refine below_set ?_ GE376.out) | exact HB.out))) (fun k_ h_ => h_)) (Kd.R_lt (rq_ HO383))) (below_size (by repeat (first | (with_reducible first | exact HB.out | apply below_alloc | apply pw_below_drewN | apply below_drew1 | refine below_set ?_ GE347.out | refine below_set ?_ GE376.out) | exact HB.out)))); replace HO383 := Aside0.mk (Kd.R_elder' (rq_ HO383) (Kd.R_base ho59) hb); replace BK347 := bb_ BK347 hb; replace BK376 := bb_ BK376 hb; replace HB := Aside0.mk (below_step (by repeat (first | (with_reducible first | exact HB.out | apply below_alloc | apply pw_below_drewN | apply below_drew1 | refine below_set ?_ GE347.out | refine below_set ?_ GE376.out) | exact HB.out)) hb); clear hb ho59; obtain ⟨Ao60, co60, eo60⟩ := Kd.R_slice HO390.out; subst eo60) | ((with_reducible refine gate_callee (f := 20) rfl ?_); refine goesL_ (some 69) rfl rfl Try.func20 (by kernel_rfl) rfl #[.slice Ao42 t354.length co42, .slice Ao60 y388.length co60] rfl mp_ ?_; (with_reducible refine (sleep_Drop.calls kj2 (fun k_ => (((((P0_ k_ ∨ P1_3_ k_ ∨ P1_4_ k_) ∨ w.heap.size ≤ k_) ∧ (k_ ≠ gb347 ∧ k_ ≠ gb376)) ∧ some k_ ≠ (.slice Ao55 y381.length co55 : Value).ownBlock) ∧ some k_ ≠ (.slice Ao60 y388.length co60 : Value).ownBlock)) _ _ t354 _ _ y388 t391 t394 _ ?side1 ?side2 ?side3 A23.out).mono ?_); (case side1 => exact HO356.out); (case side2 => repeat (first | exact (Kd.R_reads' HO390.out).2.2 | with_reducible first | refine Kd.C_alloc ?_ _ | refine Kd.C_drewN ?_ _ | refine Kd.C_drew ?_)); (case side3 => exact (Kd.R_reads' HO390.out).2.1); rintro e w61 ⟨v392, rfl, ho0, hb⟩; refine ⟨_, rfl, ?_⟩; replace HO_0 := vb_ HO_0 hb; replace HO_348003 := vb_ HO_348003 hb; replace HO_348004 := vb_ HO_348004 hb; replace HO356 := vb_ HO356 hb; replace HO371 := vb_ HO371 hb; replace HO374 := vb_ HO374 hb; replace HO379 := vb_ HO379 hb; replace HO386 := vb_ HO386 hb; replace HO393 := Aside0.mk (Kd.V_lower (Kd.V_mono (ok' := fun k_ => ((P0_ k_ ∨ P1_3_ k_ ∨ P1_4_ k_) ∨ w.heap.size ≤ k_) ∧ some k_ ≠ (.slice Ao55 y381.length co55 : Value).ownBlock ∧ some k_ ≠ (.slice Ao60 y388.length co60 : Value).ownBlock ∧ k_ ≠ gb347 ∧ k_ ≠ gb376) ho0 (fun k_ hk_ => ⟨Or.elim hk_ (fun hs_ => hs_.1.1.1) (fun hn_ => (.inr (Nat.le_trans (below_size (by repeat (first | (with_reducible first | exact HB.out | apply below_alloc | apply pw_below_drewN | apply below_drew1 | refine below_set ?_ GE347.out | refine below_set ?_ GE376.out) | exact HB.out))) hn_))), Or.elim hk_ (fun hs_ => hs_.1.2) (fun hn_ => (Kd.fresh' (Kd.R_lt (rq_ HO383)) k_ hn_)), Or.elim hk_ (fun hs_ => hs_.2) (fun hn_ => (Kd.fresh' (Kd.R_lt (rq_ HO390)) k_ hn_)), Or.elim hk_ (fun hs_ => hs_.1.1.2.1) (fun hn_ => (Kd.freshB (g := gb347) (o := .cells #[.int .i64 a1_0, .int .i64 a1_1, .int .i64 a1_2, .slice A1_3 l1_3.length c1_3, .slice A1_4 l1_4.length c1_4] 26 (0, 0)) (bq_ BK347) k_ hn_)), Or.elim hk_ (fun hs_ => hs_.1.1.2.2) (fun hn_ => (Kd.freshB (g := gb376) (o := .cells #[.int .i64 t366, .int .i64 t367, .int .i64 t368, .slice Ao47 t369.length co47, .slice Ao48 t372.length co48] 26 (0, 0)) (bq_ BK376) k_ hn_))⟩)) (below_size (by repeat (first | (with_reducible first | exact HB.out | apply below_alloc | apply pw_below_drewN | apply below_drew1 | refine below_set ?_ GE347.out | refine below_set ?_ GE376.out) | exact HB.out)))); replace HO383 := rb_ HO383 hb; replace HO390 := rb_ HO390 hb; replace BK347 := bb_ BK347 hb; replace BK376 := bb_ BK376 hb; replace HB := Aside0.mk (below_step (by repeat (first | (with_reducible first | exact HB.out | apply below_alloc | apply pw_below_drewN | apply below_drew1 | refine below_set ?_ GE347.out | refine below_set ?_ GE376.out) | exact HB.out)) hb); (try clear hb); (try clear hb2); (try clear hk); (try clear hi); (try clear ho0)))
                     have n0_ := Aside0.mk (Kd.V_drew HO_0.out)
                     have n1_ := Aside0.mk (Kd.V_drew HO_348003.out)
                     have n2_ := Aside0.mk (Kd.V_drew HO_348004.out)
                     have n3_ := Aside0.mk (Kd.V_drew HO356.out)
                     have n4_ := Aside0.mk (Kd.V_drew HO371.out)
                     have n5_ := Aside0.mk (Kd.V_drew HO374.out)
                     have n6_ := Aside0.mk (Kd.V_drew HO379.out)
                     have n7_ := Aside0.mk (Kd.R_drew HO383.out)
                     have n8_ := Aside0.mk (Kd.V_drew HO386.out)
                     have n9_ := Aside0.mk (Kd.R_drew HO390.out)
                     have n10_ := Aside0.mk (Kd.V_drew HO393.out)
                     have n11_ := Aside0.mk (blk_drew BK347.out)
                     have n12_ := Aside0.mk (blk_drew BK376.out)
                     have n13_ := Aside0.mk (below_drew1 HB.out)
                     clear HO_0
                     clear HO_348003
                     clear HO_348004
                     clear HO356
                     clear HO371
                     clear HO374
                     clear HO379
                     clear HO383
                     clear HO386
                     clear HO390
                     clear HO393
                     clear BK347
                     clear BK376
                     clear HB
                     have HO_0 := n0_
                     have HO_348003 := n1_
                     have HO_348004 := n2_
                     have HO356 := n3_
                     have HO371 := n4_
                     have HO374 := n5_
                     have HO379 := n6_
                     have HO383 := n7_
                     have HO386 := n8_
                     have HO390 := n9_
                     have HO393 := n10_
                     have BK347 := n11_
                     have BK376 := n12_
                     have HB := n13_
                     clear n0_ n1_ n2_ n3_ n4_ n5_ n6_ n7_ n8_ n9_ n10_ n11_ n12_ n13_
                     refine start_ (n := 36) (S := fun w' => w'.cell? ⟨gb376, 0, none⟩ = some (.int .i64 t366) ∧ w'.cell? ⟨gb376, 1, none⟩ = some (.int .i64 t367) ∧ w'.cell? ⟨gb376, 2, none⟩ = some (.int .i64 t368) ∧ w'.cell? ⟨gb376, 3, none⟩ = some (.slice Ao47 t369.length co47) ∧ w'.cell? ⟨gb376, 4, none⟩ = some (.slice Ao48 t372.length co48) ∧ w'.cell? ⟨gb347, 0, none⟩ = some (.int .i64 a1_0) ∧ w'.cell? ⟨gb347, 1, none⟩ = some (.int .i64 a1_1) ∧ w'.cell? ⟨gb347, 2, none⟩ = some (.int .i64 a1_2) ∧ w'.cell? ⟨gb347, 3, none⟩ = some (.slice A1_3 l1_3.length c1_3) ∧ w'.cell? ⟨gb347, 4, none⟩ = some (.slice A1_4 l1_4.length c1_4)) (ds := []) #[false, false, false, false, false, false, false, false, false, false, false, false, false, false, false, false, false, false, false, false, false, false, false, false, false, false, false, false, false, false, false, false, false, false, false, false] (by kernel_rfl) rfl rfl ⟨(blk_cell BK376.out 0).trans rfl, (blk_cell BK376.out 1).trans rfl, (blk_cell BK376.out 2).trans rfl, (blk_cell BK376.out 3).trans rfl, (blk_cell BK376.out 4).trans rfl, (blk_cell BK347.out 0).trans rfl, (blk_cell BK347.out 1).trans rfl, (blk_cell BK347.out 2).trans rfl, (blk_cell BK347.out 3).trans rfl, (blk_cell BK347.out 4).trans rfl⟩ (fun hHeld => ?_); refine with_tabW handshakerlaw15_SleepTwice.tab10 handshakerlaw15_SleepTwice.bits10 (fun HT_ HW_ => ?_)
                     generalize w61.drew = w62 at HO_0 HO_348003 HO_348004 HO356 HO371 HO374 HO379 HO383 HO386 HO390 HO393 BK347 BK376 HB hHeld ⊢
                     refine pure_ (i := 0) (N := some 72) (v := ?_) (a' := ?_) #[true, false, false, false, false, false, false, false, false, false, false, false, false, false, false, false, false, false, false, false, false, false, false, false, false, false, false, false, false, false, false, false, false, false, false, false] rfl rfl (any_of HT_.out (by kernel_rfl)) (fun _ _ _ h => h) (Or.inl ⟨by rfl, ?_⟩) ?_ ?_
                     rotate_left
                     · intro w'
                       go_simp
                       with_reducible rfl
                     rotate_left
                     · simp only [Act.put, List.setIfInBounds_toArray, List.set_cons_zero, List.set_cons_succ, i64_w, i32_w]
                       rfl
                     refine pure_ (i := 1) (N := some 73) (v := ?_) (a' := ?_) #[true, true, false, false, false, false, false, false, false, false, false, false, false, false, false, false, false, false, false, false, false, false, false, false, false, false, false, false, false, false, false, false, false, false, false, false] rfl rfl (any_of HT_.out (by kernel_rfl)) (fun _ _ _ h => h) (Or.inl ⟨by rfl, ?_⟩) ?_ ?_
                     rotate_left
                     · intro w'
                       go_simp
                       with_reducible rfl
                     rotate_left
                     · simp only [Act.put, List.setIfInBounds_toArray, List.set_cons_zero, List.set_cons_succ, i64_w, i32_w]
                       rfl
                     refine pure_ (i := 2) (N := some 74) (v := ?_) (a' := ?_) #[true, true, true, false, false, false, false, false, false, false, false, false, false, false, false, false, false, false, false, false, false, false, false, false, false, false, false, false, false, false, false, false, false, false, false, false] rfl rfl (any_of HT_.out (by kernel_rfl)) (fun _ _ _ h => h) (Or.inl ⟨by rfl, ?_⟩) ?_ ?_
                     rotate_left
                     · intro w'
                       go_simp
                       with_reducible rfl
                     rotate_left
                     · simp only [Act.put, List.setIfInBounds_toArray, List.set_cons_zero, List.set_cons_succ, i64_w, i32_w]
                       rfl
                     refine take_ (i := 3) (N := some 75) (v := ?_) (a' := ?_) #[true, true, true, true, false, false, false, false, false, false, false, false, false, false, false, false, false, false, false, false, false, false, false, false, false, false, false, false, false, false, false, false, false, false, false, false] rfl rfl (take_ofW HT_.out HW_.out (by kernel_rfl)) (fun _ _ _ h => h) (Or.inl ⟨by rfl, ?_⟩) hHeld ?_ ?_
                     rotate_left
                     · rintro w' ⟨s0, s1, s2, s3, s4, s5, s6, s7, s8, s9⟩
                       go_simp
                       with_reducible rfl
                     rotate_left
                     · simp only [Act.put, List.setIfInBounds_toArray, List.set_cons_zero, List.set_cons_succ, i64_w, i32_w]
                       rfl
                     refine take_ (i := 5) (N := some 77) (v := ?_) (a' := ?_) #[true, true, true, true, false, true, false, false, false, false, false, false, false, false, false, false, false, false, false, false, false, false, false, false, false, false, false, false, false, false, false, false, false, false, false, false] rfl rfl (take_ofW HT_.out HW_.out (by kernel_rfl)) (fun _ _ _ h => h) (Or.inl ⟨by rfl, ?_⟩) hHeld ?_ ?_
                     rotate_left
                     · rintro w' ⟨s0, s1, s2, s3, s4, s5, s6, s7, s8, s9⟩
                       go_simp
                       with_reducible rfl
                     rotate_left
                     · simp only [Act.put, List.setIfInBounds_toArray, List.set_cons_zero, List.set_cons_succ, i64_w, i32_w]
                       rfl
                     refine one_ (i := 4) (N := some 76) #[true, true, true, true, true, true, false, false, false, false, false, false, false, false, false, false, false, false, false, false, false, false, false, false, false, false, false, false, false, false, false, false, false, false, false, false] rfl rfl (one_of HT_.out (by kernel_rfl)) (by decide) (fun K hK => ?_)
                     refine goes_ Try.func19 (by kernel_rfl) rfl #[.agg #[.int .i64 t366, .int .i64 t367, .int .i64 t368, .slice Ao47 t369.length co47, .slice Ao48 t372.length co48]] (by rfl) rfl rfl (by (try simp only [List.map_toArray, List.map_cons, List.map_nil]); first | done | rfl | (simp only [List.length_drop, List.length_take]; rfl)) ?_
                     with_reducible refine (handshakerlaw15_Ref.calls kj2 t366 t367 t368 (fun k_ => (((((P0_ k_ ∨ P1_3_ k_ ∨ P1_4_ k_) ∨ w.heap.size ≤ k_) ∧ (k_ ≠ gb347 ∧ k_ ≠ gb376)) ∧ some k_ ≠ (.slice Ao55 y381.length co55 : Value).ownBlock) ∧ some k_ ≠ (.slice Ao60 y388.length co60 : Value).ownBlock)) _ _ t369 _ _ t372 t395 t396 t397 t398 t401 _ ?side1 ?side2 ?side3 A25.out).mono ?_
                     (case side1 => exact HO371.out)
                     (case side2 => repeat (first | exact (Kd.V_reads' HO374.out).2.2 | with_reducible first | refine Kd.C_alloc ?_ _ | refine Kd.C_drewN ?_ _ | refine Kd.C_drew ?_))
                     (case side3 => exact (Kd.V_reads' HO374.out).2.1)
                     rintro e w63 ⟨v399, v402, rfl, ho0, ho1, hb⟩
                     refine ⟨_, rfl, ?_⟩
                     have n0_ := Aside0.mk (Kd.V_elder' (vq_ HO_0) (Kd.R_base ho1) hb)
                     have n1_ := Aside0.mk (Kd.V_elder' (vq_ HO_348003) (Kd.R_base ho1) hb)
                     have n2_ := Aside0.mk (Kd.V_elder' (vq_ HO_348004) (Kd.R_base ho1) hb)
                     have n3_ := Aside0.mk (Kd.V_elder' (vq_ HO356) (Kd.R_base ho1) hb)
                     have n4_ := Aside0.mk (Kd.V_elder' (vq_ HO371) (Kd.R_base ho1) hb)
                     have n5_ := Aside0.mk (Kd.V_elder' (vq_ HO374) (Kd.R_base ho1) hb)
                     have n6_ := Aside0.mk (Kd.V_elder' (vq_ HO379) (Kd.R_base ho1) hb)
                     have n7_ := rb_ HO383 hb
                     have n8_ := Aside0.mk (Kd.V_elder' (vq_ HO386) (Kd.R_base ho1) hb)
                     have n9_ := rb_ HO390 hb
                     have n10_ := Aside0.mk (Kd.V_elder' (vq_ HO393) (Kd.R_base ho1) hb)
                     have n11_ := Aside0.mk (Kd.V_lower (Kd.V_mono (ok' := fun k_ => ((P0_ k_ ∨ P1_3_ k_ ∨ P1_4_ k_) ∨ w.heap.size ≤ k_) ∧ some k_ ≠ (v402 : Value).ownBlock ∧ some k_ ≠ (.slice Ao55 y381.length co55 : Value).ownBlock ∧ some k_ ≠ (.slice Ao60 y388.length co60 : Value).ownBlock ∧ k_ ≠ gb347 ∧ k_ ≠ gb376) ho0 (fun k_ hk_ => ⟨Or.elim hk_.1 (fun hs_ => hs_.1.1.1) (fun hn_ => (.inr (Nat.le_trans (below_size (by repeat (first | (with_reducible first | exact HB.out | apply below_alloc | apply pw_below_drewN | apply below_drew1 | refine below_set ?_ GE347.out | refine below_set ?_ GE376.out) | exact HB.out))) hn_))), hk_.2, Or.elim hk_.1 (fun hs_ => hs_.1.2) (fun hn_ => (Kd.fresh' (Kd.R_lt (rq_ HO383)) k_ hn_)), Or.elim hk_.1 (fun hs_ => hs_.2) (fun hn_ => (Kd.fresh' (Kd.R_lt (rq_ HO390)) k_ hn_)), Or.elim hk_.1 (fun hs_ => hs_.1.1.2.1) (fun hn_ => (Kd.freshB (g := gb347) (o := .cells #[.int .i64 a1_0, .int .i64 a1_1, .int .i64 a1_2, .slice A1_3 l1_3.length c1_3, .slice A1_4 l1_4.length c1_4] 26 (0, 0)) (bq_ BK347) k_ hn_)), Or.elim hk_.1 (fun hs_ => hs_.1.1.2.2) (fun hn_ => (Kd.freshB (g := gb376) (o := .cells #[.int .i64 t366, .int .i64 t367, .int .i64 t368, .slice Ao47 t369.length co47, .slice Ao48 t372.length co48] 26 (0, 0)) (bq_ BK376) k_ hn_))⟩)) (below_size (by repeat (first | (with_reducible first | exact HB.out | apply below_alloc | apply pw_below_drewN | apply below_drew1 | refine below_set ?_ GE347.out | refine below_set ?_ GE376.out) | exact HB.out))))
                     have n12_ := Aside0.mk (Kd.R_lower (Kd.R_newM (M := fun k_ => (w.heap.size ≤ k_)) (Kd.R_mono (ok' := fun k_ => True) ho1 (fun _ hk_ => trivial)) (below_size (by repeat (first | (with_reducible first | exact HB.out | apply below_alloc | apply pw_below_drewN | apply below_drew1 | refine below_set ?_ GE347.out | refine below_set ?_ GE376.out) | exact HB.out))) (fun k_ h_ => h_)) (below_size (by repeat (first | (with_reducible first | exact HB.out | apply below_alloc | apply pw_below_drewN | apply below_drew1 | refine below_set ?_ GE347.out | refine below_set ?_ GE376.out) | exact HB.out))))
                     have n13_ := bb_ BK347 hb
                     have n14_ := bb_ BK376 hb
                     have n15_ := Aside0.mk (below_step (by repeat (first | (with_reducible first | exact HB.out | apply below_alloc | apply pw_below_drewN | apply below_drew1 | refine below_set ?_ GE347.out | refine below_set ?_ GE376.out) | exact HB.out)) hb)
                     clear HO_0
                     clear HO_348003
                     clear HO_348004
                     clear HO356
                     clear HO371
                     clear HO374
                     clear HO379
                     clear HO383
                     clear HO386
                     clear HO390
                     clear HO393
                     clear BK347
                     clear BK376
                     clear HB
                     have HO_0 := n0_
                     have HO_348003 := n1_
                     have HO_348004 := n2_
                     have HO356 := n3_
                     have HO371 := n4_
                     have HO374 := n5_
                     have HO379 := n6_
                     have HO383 := n7_
                     have HO386 := n8_
                     have HO390 := n9_
                     have HO393 := n10_
                     have HO400 := n11_
                     have HO403 := n12_
                     have BK347 := n13_
                     have BK376 := n14_
                     have HB := n15_
                     clear n0_ n1_ n2_ n3_ n4_ n5_ n6_ n7_ n8_ n9_ n10_ n11_ n12_ n13_ n14_ n15_
                     (try clear hb)
                     (try clear hb2)
                     (try clear hk)
                     (try clear hi)
                     (try clear ho0)
                     (try clear ho1)
                     refine hK.out _ _ ⟨(blk_cell BK376.out 0).trans rfl, (blk_cell BK376.out 1).trans rfl, (blk_cell BK376.out 2).trans rfl, (blk_cell BK376.out 3).trans rfl, (blk_cell BK376.out 4).trans rfl, (blk_cell BK347.out 0).trans rfl, (blk_cell BK347.out 1).trans rfl, (blk_cell BK347.out 2).trans rfl, (blk_cell BK347.out 3).trans rfl, (blk_cell BK347.out 4).trans rfl⟩ (fun hHeld => ?_)
                     clear hK K
                     refine norm_ (a' := ?_) ?_ ?_
                     rotate_left
                     · show Act.put _ (some 76) _ = _
                       simp only [Act.put, List.setIfInBounds_toArray, List.set_cons_zero, List.set_cons_succ, i64_w, i32_w]
                       rfl
                     refine one_ (i := 6) (N := some 78) #[true, true, true, true, true, true, true, false, false, false, false, false, false, false, false, false, false, false, false, false, false, false, false, false, false, false, false, false, false, false, false, false, false, false, false, false] rfl rfl (one_of HT_.out (by kernel_rfl)) (by decide) (fun K hK => ?_)
                     refine goes_ Try.func19 (by kernel_rfl) rfl #[.agg #[.int .i64 a1_0, .int .i64 a1_1, .int .i64 a1_2, .slice A1_3 l1_3.length c1_3, .slice A1_4 l1_4.length c1_4]] (by rfl) rfl rfl (by (try simp only [List.map_toArray, List.map_cons, List.map_nil]); first | done | rfl | (simp only [List.length_drop, List.length_take]; rfl)) ?_
                     with_reducible refine (handshakerlaw15_Ref.calls kj2 a1_0 a1_1 a1_2 (fun k_ => ((((((P0_ k_ ∨ P1_3_ k_ ∨ P1_4_ k_) ∨ w.heap.size ≤ k_) ∧ (k_ ≠ gb347 ∧ k_ ≠ gb376)) ∧ some k_ ≠ (.slice Ao55 y381.length co55 : Value).ownBlock) ∧ some k_ ≠ (.slice Ao60 y388.length co60 : Value).ownBlock) ∧ some k_ ≠ (v402 : Value).ownBlock)) _ _ l1_3 _ _ l1_4 t404 t405 t406 t407 t410 _ ?side1 ?side2 ?side3 A26.out).mono ?_
                     (case side1 => exact HO_348003.out)
                     (case side2 => repeat (first | exact (Kd.V_reads' HO_348004.out).2.2 | with_reducible first | refine Kd.C_alloc ?_ _ | refine Kd.C_drewN ?_ _ | refine Kd.C_drew ?_))
                     (case side3 => exact (Kd.V_reads' HO_348004.out).2.1)
                     rintro e w64 ⟨v408, v411, rfl, ho0, ho1, hb⟩
                     refine ⟨_, rfl, ?_⟩
                     have n0_ := Aside0.mk (Kd.V_elder' (vq_ HO_0) (Kd.R_base ho1) hb)
                     have n1_ := Aside0.mk (Kd.V_elder' (vq_ HO_348003) (Kd.R_base ho1) hb)
                     have n2_ := Aside0.mk (Kd.V_elder' (vq_ HO_348004) (Kd.R_base ho1) hb)
                     have n3_ := Aside0.mk (Kd.V_elder' (vq_ HO356) (Kd.R_base ho1) hb)
                     have n4_ := Aside0.mk (Kd.V_elder' (vq_ HO371) (Kd.R_base ho1) hb)
                     have n5_ := Aside0.mk (Kd.V_elder' (vq_ HO374) (Kd.R_base ho1) hb)
                     have n6_ := Aside0.mk (Kd.V_elder' (vq_ HO379) (Kd.R_base ho1) hb)
                     have n7_ := rb_ HO383 hb
                     have n8_ := Aside0.mk (Kd.V_elder' (vq_ HO386) (Kd.R_base ho1) hb)
                     have n9_ := rb_ HO390 hb
                     have n10_ := Aside0.mk (Kd.V_elder' (vq_ HO393) (Kd.R_base ho1) hb)
                     have n11_ := Aside0.mk (Kd.V_elder' (vq_ HO400) (Kd.R_base ho1) hb)
                     have n12_ := Aside0.mk (Kd.R_elder' (rq_ HO403) (Kd.R_base ho1) hb)
                     have n13_ := Aside0.mk (Kd.V_lower (Kd.V_mono (ok' := fun k_ => ((P0_ k_ ∨ P1_3_ k_ ∨ P1_4_ k_) ∨ w.heap.size ≤ k_) ∧ some k_ ≠ (v411 : Value).ownBlock ∧ some k_ ≠ (.slice Ao55 y381.length co55 : Value).ownBlock ∧ some k_ ≠ (.slice Ao60 y388.length co60 : Value).ownBlock ∧ some k_ ≠ (v402 : Value).ownBlock ∧ k_ ≠ gb347 ∧ k_ ≠ gb376) ho0 (fun k_ hk_ => ⟨Or.elim hk_.1 (fun hs_ => hs_.1.1.1.1) (fun hn_ => (.inr (Nat.le_trans (below_size (by repeat (first | (with_reducible first | exact HB.out | apply below_alloc | apply pw_below_drewN | apply below_drew1 | refine below_set ?_ GE347.out | refine below_set ?_ GE376.out) | exact HB.out))) hn_))), hk_.2, Or.elim hk_.1 (fun hs_ => hs_.1.1.2) (fun hn_ => (Kd.fresh' (Kd.R_lt (rq_ HO383)) k_ hn_)), Or.elim hk_.1 (fun hs_ => hs_.1.2) (fun hn_ => (Kd.fresh' (Kd.R_lt (rq_ HO390)) k_ hn_)), Or.elim hk_.1 (fun hs_ => hs_.2) (fun hn_ => (Kd.fresh' (Kd.R_lt (rq_ HO403)) k_ hn_)), Or.elim hk_.1 (fun hs_ => hs_.1.1.1.2.1) (fun hn_ => (Kd.freshB (g := gb347) (o := .cells #[.int .i64 a1_0, .int .i64 a1_1, .int .i64 a1_2, .slice A1_3 l1_3.length c1_3, .slice A1_4 l1_4.length c1_4] 26 (0, 0)) (bq_ BK347) k_ hn_)), Or.elim hk_.1 (fun hs_ => hs_.1.1.1.2.2) (fun hn_ => (Kd.freshB (g := gb376) (o := .cells #[.int .i64 t366, .int .i64 t367, .int .i64 t368, .slice Ao47 t369.length co47, .slice Ao48 t372.length co48] 26 (0, 0)) (bq_ BK376) k_ hn_))⟩)) (below_size (by repeat (first | (with_reducible first | exact HB.out | apply below_alloc | apply pw_below_drewN | apply below_drew1 | refine below_set ?_ GE347.out | refine below_set ?_ GE376.out) | exact HB.out))))
                     have n14_ := Aside0.mk (Kd.R_lower (Kd.R_new' (Kd.R_newM (M := fun k_ => (w.heap.size ≤ k_)) (Kd.R_mono (ok' := fun k_ => True) ho1 (fun _ hk_ => trivial)) (below_size (by repeat (first | (with_reducible first | exact HB.out | apply below_alloc | apply pw_below_drewN | apply below_drew1 | refine below_set ?_ GE347.out | refine below_set ?_ GE376.out) | exact HB.out))) (fun k_ h_ => h_)) (Kd.R_lt (rq_ HO403))) (below_size (by repeat (first | (with_reducible first | exact HB.out | apply below_alloc | apply pw_below_drewN | apply below_drew1 | refine below_set ?_ GE347.out | refine below_set ?_ GE376.out) | exact HB.out))))
                     have n15_ := bb_ BK347 hb
                     have n16_ := bb_ BK376 hb
                     have n17_ := Aside0.mk (below_step (by repeat (first | (with_reducible first | exact HB.out | apply below_alloc | apply pw_below_drewN | apply below_drew1 | refine below_set ?_ GE347.out | refine below_set ?_ GE376.out) | exact HB.out)) hb)
                     clear HO_0
                     clear HO_348003
                     clear HO_348004
                     clear HO356
                     clear HO371
                     clear HO374
                     clear HO379
                     clear HO383
                     clear HO386
                     clear HO390
                     clear HO393
                     clear HO400
                     clear HO403
                     clear BK347
                     clear BK376
                     clear HB
                     have HO_0 := n0_
                     have HO_348003 := n1_
                     have HO_348004 := n2_
                     have HO356 := n3_
                     have HO371 := n4_
                     have HO374 := n5_
                     have HO379 := n6_
                     have HO383 := n7_
                     have HO386 := n8_
                     have HO390 := n9_
                     have HO393 := n10_
                     have HO400 := n11_
                     have HO403 := n12_
                     have HO409 := n13_
                     have HO412 := n14_
                     have BK347 := n15_
                     have BK376 := n16_
                     have HB := n17_
                     clear n0_ n1_ n2_ n3_ n4_ n5_ n6_ n7_ n8_ n9_ n10_ n11_ n12_ n13_ n14_ n15_ n16_ n17_
                     (try clear hb)
                     (try clear hb2)
                     (try clear hk)
                     (try clear hi)
                     (try clear ho0)
                     (try clear ho1)
                     obtain ⟨Ao65, co65, eo65⟩ := Kd.V_slice HO400.out
                     (first | subst eo65 | (injection eo65 with f1_ f2_ f3_; have f4_ := f1_.symm; have f5_ := f3_.symm; clear f1_ f2_ f3_; subst f4_; subst f5_))
                     obtain ⟨Ao66, co66, eo66⟩ := Kd.R_slice HO403.out
                     (first | subst eo66 | (injection eo66 with f1_ f2_ f3_; have f4_ := f1_.symm; have f5_ := f3_.symm; clear f1_ f2_ f3_; subst f4_; subst f5_))
                     obtain ⟨Ao67, co67, eo67⟩ := Kd.V_slice HO409.out
                     (first | subst eo67 | (injection eo67 with f1_ f2_ f3_; have f4_ := f1_.symm; have f5_ := f3_.symm; clear f1_ f2_ f3_; subst f4_; subst f5_))
                     obtain ⟨Ao68, co68, eo68⟩ := Kd.R_slice HO412.out
                     (first | subst eo68 | (injection eo68 with f1_ f2_ f3_; have f4_ := f1_.symm; have f5_ := f3_.symm; clear f1_ f2_ f3_; subst f4_; subst f5_))
                     refine hK.out _ _ ⟨(blk_cell BK376.out 0).trans rfl, (blk_cell BK376.out 1).trans rfl, (blk_cell BK376.out 2).trans rfl, (blk_cell BK376.out 3).trans rfl, (blk_cell BK376.out 4).trans rfl, (blk_cell BK347.out 0).trans rfl, (blk_cell BK347.out 1).trans rfl, (blk_cell BK347.out 2).trans rfl, (blk_cell BK347.out 3).trans rfl, (blk_cell BK347.out 4).trans rfl⟩ (fun hHeld => ?_)
                     clear hK K
                     refine norm_ (a' := ?_) ?_ ?_
                     rotate_left
                     · show Act.put _ (some 78) _ = _
                       simp only [Act.put, List.setIfInBounds_toArray, List.set_cons_zero, List.set_cons_succ, i64_w, i32_w]
                       rfl
                     refine one_ (i := 7) (N := some 79) #[true, true, true, true, true, true, true, true, false, false, false, false, false, false, false, false, false, false, false, false, false, false, false, false, false, false, false, false, false, false, false, false, false, false, false, false] rfl rfl (one_of HT_.out (by kernel_rfl)) (by decide) (fun K hK => ?_)
                     refine goes_ Try.func25 (by kernel_rfl) rfl #[.agg #[.int .i64 t395, .int .i64 t396, .int .i64 t397, .slice Ao65 t398.length co65, .slice Ao66 t401.length co66], .agg #[.int .i64 t404, .int .i64 t405, .int .i64 t406, .slice Ao67 t407.length co67, .slice Ao68 t410.length co68]] (by rfl) rfl rfl (by (try simp only [List.map_toArray, List.map_cons, List.map_nil]); first | done | rfl | (simp only [List.length_drop, List.length_take]; rfl)) ?_
                     with_reducible refine (handshakerref15_One2.calls kj2 t395 t396 t397 _ _ t398 _ _ t401 t404 t405 t406 _ _ t407 _ _ t410 true _ ?side1 ?side2 ?side3 ?side4 ?side5 ?side6 ?side7 ?side8 A27.out).mono ?_
                     (case side1 => repeat (first | exact (Kd.V_reads' HO400.out).2.2 | with_reducible first | refine Kd.C_alloc ?_ _ | refine Kd.C_drewN ?_ _ | refine Kd.C_drew ?_))
                     (case side2 => exact (Kd.V_reads' HO400.out).2.1)
                     (case side3 => repeat (first | exact (Kd.R_reads' HO403.out).2.2 | with_reducible first | refine Kd.C_alloc ?_ _ | refine Kd.C_drewN ?_ _ | refine Kd.C_drew ?_))
                     (case side4 => exact (Kd.R_reads' HO403.out).2.1)
                     (case side5 => repeat (first | exact (Kd.V_reads' HO409.out).2.2 | with_reducible first | refine Kd.C_alloc ?_ _ | refine Kd.C_drewN ?_ _ | refine Kd.C_drew ?_))
                     (case side6 => exact (Kd.V_reads' HO409.out).2.1)
                     (case side7 => repeat (first | exact (Kd.R_reads' HO412.out).2.2 | with_reducible first | refine Kd.C_alloc ?_ _ | refine Kd.C_drewN ?_ _ | refine Kd.C_drew ?_))
                     (case side8 => exact (Kd.R_reads' HO412.out).2.1)
                     rintro e w69 ⟨rfl, hb⟩
                     refine ⟨_, rfl, ?_⟩
                     have n0_ := vb_ HO_0 hb
                     have n1_ := vb_ HO_348003 hb
                     have n2_ := vb_ HO_348004 hb
                     have n3_ := vb_ HO356 hb
                     have n4_ := vb_ HO371 hb
                     have n5_ := vb_ HO374 hb
                     have n6_ := vb_ HO379 hb
                     have n7_ := rb_ HO383 hb
                     have n8_ := vb_ HO386 hb
                     have n9_ := rb_ HO390 hb
                     have n10_ := vb_ HO393 hb
                     have n11_ := vb_ HO400 hb
                     have n12_ := rb_ HO403 hb
                     have n13_ := vb_ HO409 hb
                     have n14_ := rb_ HO412 hb
                     have n15_ := bb_ BK347 hb
                     have n16_ := bb_ BK376 hb
                     have n17_ := Aside0.mk (below_step (by repeat (first | (with_reducible first | exact HB.out | apply below_alloc | apply pw_below_drewN | apply below_drew1 | refine below_set ?_ GE347.out | refine below_set ?_ GE376.out) | exact HB.out)) hb)
                     clear HO_0
                     clear HO_348003
                     clear HO_348004
                     clear HO356
                     clear HO371
                     clear HO374
                     clear HO379
                     clear HO383
                     clear HO386
                     clear HO390
                     clear HO393
                     clear HO400
                     clear HO403
                     clear HO409
                     clear HO412
                     clear BK347
                     clear BK376
                     clear HB
                     have HO_0 := n0_
                     have HO_348003 := n1_
                     have HO_348004 := n2_
                     have HO356 := n3_
                     have HO371 := n4_
                     have HO374 := n5_
                     have HO379 := n6_
                     have HO383 := n7_
                     have HO386 := n8_
                     have HO390 := n9_
                     have HO393 := n10_
                     have HO400 := n11_
                     have HO403 := n12_
                     have HO409 := n13_
                     have HO412 := n14_
                     have BK347 := n15_
                     have BK376 := n16_
                     have HB := n17_
                     clear n0_ n1_ n2_ n3_ n4_ n5_ n6_ n7_ n8_ n9_ n10_ n11_ n12_ n13_ n14_ n15_ n16_ n17_
                     (try clear hb)
                     (try clear hb2)
                     (try clear hk)
                     (try clear hi)
                     obtain ⟨Ao70, co70, eo70⟩ := Kd.V_slice HO386.out
                     (first | subst eo70 | (injection eo70 with f1_ f2_ f3_; have f4_ := f1_.symm; have f5_ := f3_.symm; clear f1_ f2_ f3_; subst f4_; subst f5_))
                     refine hK.out _ _ ⟨(blk_cell BK376.out 0).trans rfl, (blk_cell BK376.out 1).trans rfl, (blk_cell BK376.out 2).trans rfl, (blk_cell BK376.out 3).trans rfl, (blk_cell BK376.out 4).trans rfl, (blk_cell BK347.out 0).trans rfl, (blk_cell BK347.out 1).trans rfl, (blk_cell BK347.out 2).trans rfl, (blk_cell BK347.out 3).trans rfl, (blk_cell BK347.out 4).trans rfl⟩ (fun hHeld => ?_)
                     clear hK K
                     refine norm_ (a' := ?_) ?_ ?_
                     rotate_left
                     · show Act.put _ (some 79) _ = _
                       simp only [Act.put, List.setIfInBounds_toArray, List.set_cons_zero, List.set_cons_succ, i64_w, i32_w]
                       rfl
                     refine pure_ (i := 8) (N := some 80) (v := ?_) (a' := ?_) #[true, true, true, true, true, true, true, true, true, false, false, false, false, false, false, false, false, false, false, false, false, false, false, false, false, false, false, false, false, false, false, false, false, false, false, false] rfl rfl (any_of HT_.out (by kernel_rfl)) (fun _ _ _ h => h) (Or.inl ⟨by rfl, ?_⟩) ?_ ?_
                     rotate_left
                     · intro w'
                       go_simp
                       with_reducible rfl
                     rotate_left
                     · simp only [Act.put, List.setIfInBounds_toArray, List.set_cons_zero, List.set_cons_succ, i64_w, i32_w]
                       rfl
                     refine pure_ (i := 9) (N := some 81) (v := ?_) (a' := ?_) #[true, true, true, true, true, true, true, true, true, true, false, false, false, false, false, false, false, false, false, false, false, false, false, false, false, false, false, false, false, false, false, false, false, false, false, false] rfl rfl (any_of HT_.out (by kernel_rfl)) (fun _ _ _ h => h) (Or.inl ⟨by rfl, ?_⟩) ?_ ?_
                     rotate_left
                     · intro w'
                       go_simp
                       with_reducible rfl
                     rotate_left
                     · simp only [Act.put, List.setIfInBounds_toArray, List.set_cons_zero, List.set_cons_succ, i64_w, i32_w]
                       rfl
                     refine pure_ (i := 10) (N := some 82) (v := ?_) (a' := ?_) #[true, true, true, true, true, true, true, true, true, true, true, false, false, false, false, false, false, false, false, false, false, false, false, false, false, false, false, false, false, false, false, false, false, false, false, false] rfl rfl (any_of HT_.out (by kernel_rfl)) (fun _ _ _ h => h) (Or.inl ⟨by rfl, ?_⟩) ?_ ?_
                     rotate_left
                     · intro w'
                       go_simp
                       with_reducible rfl
                     rotate_left
                     · simp only [Act.put, List.setIfInBounds_toArray, List.set_cons_zero, List.set_cons_succ, i64_w, i32_w]
                       rfl
                     refine pure_ (i := 11) (N := some 83) (v := ?_) (a' := ?_) #[true, true, true, true, true, true, true, true, true, true, true, true, false, false, false, false, false, false, false, false, false, false, false, false, false, false, false, false, false, false, false, false, false, false, false, false] rfl rfl (any_of HT_.out (by kernel_rfl)) (fun _ _ _ h => h) (Or.inl ⟨by rfl, ?_⟩) ?_ ?_
                     rotate_left
                     · intro w'
                       go_simp
                       with_reducible rfl
                     rotate_left
                     · simp only [Act.put, List.setIfInBounds_toArray, List.set_cons_zero, List.set_cons_succ, i64_w, i32_w]
                       rfl
                     refine pure_ (i := 12) (N := some 84) (v := ?_) (a' := ?_) #[true, true, true, true, true, true, true, true, true, true, true, true, true, false, false, false, false, false, false, false, false, false, false, false, false, false, false, false, false, false, false, false, false, false, false, false] rfl rfl (any_of HT_.out (by kernel_rfl)) (fun _ _ _ h => h) (Or.inl ⟨by rfl, ?_⟩) ?_ ?_
                     rotate_left
                     · intro w'
                       go_simp
                       with_reducible rfl
                     rotate_left
                     · simp only [Act.put, List.setIfInBounds_toArray, List.set_cons_zero, List.set_cons_succ, i64_w, i32_w]
                       rfl
                     refine pure_ (i := 13) (N := some 85) (v := ?_) (a' := ?_) #[true, true, true, true, true, true, true, true, true, true, true, true, true, true, false, false, false, false, false, false, false, false, false, false, false, false, false, false, false, false, false, false, false, false, false, false] rfl rfl (any_of HT_.out (by kernel_rfl)) (fun _ _ _ h => h) (Or.inl ⟨by rfl, ?_⟩) ?_ ?_
                     rotate_left
                     · intro w'
                       go_simp
                       with_reducible rfl
                     rotate_left
                     · simp only [Act.put, List.setIfInBounds_toArray, List.set_cons_zero, List.set_cons_succ, i64_w, i32_w]
                       rfl
                     refine pure_ (i := 14) (N := some 86) (v := ?_) (a' := ?_) #[true, true, true, true, true, true, true, true, true, true, true, true, true, true, true, false, false, false, false, false, false, false, false, false, false, false, false, false, false, false, false, false, false, false, false, false] rfl rfl (any_of HT_.out (by kernel_rfl)) (fun _ _ _ h => h) (Or.inl ⟨by rfl, ?_⟩) ?_ ?_
                     rotate_left
                     · intro w'
                       go_simp
                       with_reducible rfl
                     rotate_left
                     · simp only [Act.put, List.setIfInBounds_toArray, List.set_cons_zero, List.set_cons_succ, i64_w, i32_w]
                       rfl
                     refine pure_ (i := 15) (N := some 87) (v := ?_) (a' := ?_) #[true, true, true, true, true, true, true, true, true, true, true, true, true, true, true, true, false, false, false, false, false, false, false, false, false, false, false, false, false, false, false, false, false, false, false, false] rfl rfl (any_of HT_.out (by kernel_rfl)) (fun _ _ _ h => h) (Or.inl ⟨by rfl, ?_⟩) ?_ ?_
                     rotate_left
                     · intro w'
                       go_simp
                       with_reducible rfl
                     rotate_left
                     · simp only [Act.put, List.setIfInBounds_toArray, List.set_cons_zero, List.set_cons_succ, i64_w, i32_w]
                       rfl
                     refine pure_ (i := 16) (N := some 88) (v := ?_) (a' := ?_) #[true, true, true, true, true, true, true, true, true, true, true, true, true, true, true, true, true, false, false, false, false, false, false, false, false, false, false, false, false, false, false, false, false, false, false, false] rfl rfl (any_of HT_.out (by kernel_rfl)) (fun _ _ _ h => h) (Or.inl ⟨by rfl, ?_⟩) ?_ ?_
                     rotate_left
                     · intro w'
                       go_simp
                       with_reducible rfl
                     rotate_left
                     · simp only [Act.put, List.setIfInBounds_toArray, List.set_cons_zero, List.set_cons_succ, i64_w, i32_w]
                       rfl
                     refine pure_ (i := 17) (N := some 89) (v := ?_) (a' := ?_) #[true, true, true, true, true, true, true, true, true, true, true, true, true, true, true, true, true, true, false, false, false, false, false, false, false, false, false, false, false, false, false, false, false, false, false, false] rfl rfl (any_of HT_.out (by kernel_rfl)) (fun _ _ _ h => h) (Or.inl ⟨by rfl, ?_⟩) ?_ ?_
                     rotate_left
                     · intro w'
                       go_simp
                       with_reducible rfl
                     rotate_left
                     · simp only [Act.put, List.setIfInBounds_toArray, List.set_cons_zero, List.set_cons_succ, i64_w, i32_w]
                       rfl
                     refine pure_ (i := 18) (N := some 90) (v := ?_) (a' := ?_) #[true, true, true, true, true, true, true, true, true, true, true, true, true, true, true, true, true, true, true, false, false, false, false, false, false, false, false, false, false, false, false, false, false, false, false, false] rfl rfl (any_of HT_.out (by kernel_rfl)) (fun _ _ _ h => h) (Or.inl ⟨by rfl, ?_⟩) ?_ ?_
                     rotate_left
                     · intro w'
                       go_simp
                       with_reducible rfl
                     rotate_left
                     · simp only [Act.put, List.setIfInBounds_toArray, List.set_cons_zero, List.set_cons_succ, i64_w, i32_w]
                       rfl
                     refine pure_ (i := 20) (N := some 92) (v := ?_) (a' := ?_) #[true, true, true, true, true, true, true, true, true, true, true, true, true, true, true, true, true, true, true, false, true, false, false, false, false, false, false, false, false, false, false, false, false, false, false, false] rfl rfl (any_of HT_.out (by kernel_rfl)) (fun _ _ _ h => h) (Or.inl ⟨by rfl, ?_⟩) ?_ ?_
                     rotate_left
                     · intro w'
                       go_simp
                       with_reducible rfl
                     rotate_left
                     · simp only [Act.put, List.setIfInBounds_toArray, List.set_cons_zero, List.set_cons_succ, i64_w, i32_w]
                       rfl
                     refine one_ (i := 19) (N := some 91) #[true, true, true, true, true, true, true, true, true, true, true, true, true, true, true, true, true, true, true, true, true, false, false, false, false, false, false, false, false, false, false, false, false, false, false, false] rfl rfl (one_of HT_.out (by kernel_rfl)) (by decide) (fun K hK => ?_)
                     refine goes_ Try.func16 (by kernel_rfl) rfl #[.slice Ao70 t384.length co70] (by rfl) rfl rfl (by (try simp only [List.map_toArray, List.map_cons, List.map_nil]); first | done | rfl | (simp only [List.length_drop, List.length_take]; rfl)) ?_
                     with_reducible refine (handshakerlaw15_Refs.calls kj2 (fun k_ => ((((((P0_ k_ ∨ P1_3_ k_ ∨ P1_4_ k_) ∨ w.heap.size ≤ k_) ∧ (some k_ ≠ (.slice Ao55 y381.length co55 : Value).ownBlock ∧ (k_ ≠ gb347 ∧ k_ ≠ gb376))) ∧ some k_ ≠ (.slice Ao60 y388.length co60 : Value).ownBlock) ∧ some k_ ≠ (.slice Ao66 t401.length co66 : Value).ownBlock) ∧ some k_ ≠ (.slice Ao68 t410.length co68 : Value).ownBlock)) _ _ t384 t414 _ ?side1 A31.out).mono ?_
                     (case side1 => exact HO386.out)
                     rintro e w71 ⟨v415, rfl, ho0, hb⟩
                     refine ⟨_, rfl, ?_⟩
                     have n0_ := Aside0.mk (Kd.V_elder' (vq_ HO_0) (Kd.N_base ho0) hb)
                     have n1_ := Aside0.mk (Kd.V_elder' (vq_ HO_348003) (Kd.N_base ho0) hb)
                     have n2_ := Aside0.mk (Kd.V_elder' (vq_ HO_348004) (Kd.N_base ho0) hb)
                     have n3_ := Aside0.mk (Kd.V_elder' (vq_ HO356) (Kd.N_base ho0) hb)
                     have n4_ := Aside0.mk (Kd.V_elder' (vq_ HO371) (Kd.N_base ho0) hb)
                     have n5_ := Aside0.mk (Kd.V_elder' (vq_ HO374) (Kd.N_base ho0) hb)
                     have n6_ := Aside0.mk (Kd.V_elder' (vq_ HO379) (Kd.N_base ho0) hb)
                     have n7_ := rb_ HO383 hb
                     have n8_ := Aside0.mk (Kd.V_elder' (vq_ HO386) (Kd.N_base ho0) hb)
                     have n9_ := rb_ HO390 hb
                     have n10_ := Aside0.mk (Kd.V_elder' (vq_ HO393) (Kd.N_base ho0) hb)
                     have n11_ := Aside0.mk (Kd.V_elder' (vq_ HO400) (Kd.N_base ho0) hb)
                     have n12_ := rb_ HO403 hb
                     have n13_ := Aside0.mk (Kd.V_elder' (vq_ HO409) (Kd.N_base ho0) hb)
                     have n14_ := rb_ HO412 hb
                     have n15_ := Aside0.mk (Kd.N_lower (Kd.N_mono (ok' := fun k_ => ((P0_ k_ ∨ P1_3_ k_ ∨ P1_4_ k_) ∨ w.heap.size ≤ k_) ∧ some k_ ≠ (.slice Ao55 y381.length co55 : Value).ownBlock ∧ some k_ ≠ (.slice Ao60 y388.length co60 : Value).ownBlock ∧ some k_ ≠ (.slice Ao66 t401.length co66 : Value).ownBlock ∧ some k_ ≠ (.slice Ao68 t410.length co68 : Value).ownBlock ∧ k_ ≠ gb347 ∧ k_ ≠ gb376) ho0 (fun k_ hk_ => ⟨Or.elim hk_ (fun hs_ => hs_.1.1.1.1) (fun hn_ => (.inr (Nat.le_trans (below_size (by repeat (first | (with_reducible first | exact HB.out | apply below_alloc | apply pw_below_drewN | apply below_drew1 | refine below_set ?_ GE347.out | refine below_set ?_ GE376.out) | exact HB.out))) hn_))), Or.elim hk_ (fun hs_ => hs_.1.1.1.2.1) (fun hn_ => (Kd.fresh' (Kd.R_lt (rq_ HO383)) k_ hn_)), Or.elim hk_ (fun hs_ => hs_.1.1.2) (fun hn_ => (Kd.fresh' (Kd.R_lt (rq_ HO390)) k_ hn_)), Or.elim hk_ (fun hs_ => hs_.1.2) (fun hn_ => (Kd.fresh' (Kd.R_lt (rq_ HO403)) k_ hn_)), Or.elim hk_ (fun hs_ => hs_.2) (fun hn_ => (Kd.fresh' (Kd.R_lt (rq_ HO412)) k_ hn_)), Or.elim hk_ (fun hs_ => hs_.1.1.1.2.2.1) (fun hn_ => (Kd.freshB (g := gb347) (o := .cells #[.int .i64 a1_0, .int .i64 a1_1, .int .i64 a1_2, .slice A1_3 l1_3.length c1_3, .slice A1_4 l1_4.length c1_4] 26 (0, 0)) (bq_ BK347) k_ hn_)), Or.elim hk_ (fun hs_ => hs_.1.1.1.2.2.2) (fun hn_ => (Kd.freshB (g := gb376) (o := .cells #[.int .i64 t366, .int .i64 t367, .int .i64 t368, .slice Ao47 t369.length co47, .slice Ao48 t372.length co48] 26 (0, 0)) (bq_ BK376) k_ hn_))⟩)) (below_size (by repeat (first | (with_reducible first | exact HB.out | apply below_alloc | apply pw_below_drewN | apply below_drew1 | refine below_set ?_ GE347.out | refine below_set ?_ GE376.out) | exact HB.out))))
                     have n16_ := bb_ BK347 hb
                     have n17_ := bb_ BK376 hb
                     have n18_ := Aside0.mk (below_step (by repeat (first | (with_reducible first | exact HB.out | apply below_alloc | apply pw_below_drewN | apply below_drew1 | refine below_set ?_ GE347.out | refine below_set ?_ GE376.out) | exact HB.out)) hb)
                     clear HO_0
                     clear HO_348003
                     clear HO_348004
                     clear HO356
                     clear HO371
                     clear HO374
                     clear HO379
                     clear HO383
                     clear HO386
                     clear HO390
                     clear HO393
                     clear HO400
                     clear HO403
                     clear HO409
                     clear HO412
                     clear BK347
                     clear BK376
                     clear HB
                     have HO_0 := n0_
                     have HO_348003 := n1_
                     have HO_348004 := n2_
                     have HO356 := n3_
                     have HO371 := n4_
                     have HO374 := n5_
                     have HO379 := n6_
                     have HO383 := n7_
                     have HO386 := n8_
                     have HO390 := n9_
                     have HO393 := n10_
                     have HO400 := n11_
                     have HO403 := n12_
                     have HO409 := n13_
                     have HO412 := n14_
                     have HO416 := n15_
                     have BK347 := n16_
                     have BK376 := n17_
                     have HB := n18_
                     clear n0_ n1_ n2_ n3_ n4_ n5_ n6_ n7_ n8_ n9_ n10_ n11_ n12_ n13_ n14_ n15_ n16_ n17_ n18_
                     (try clear hb)
                     (try clear hb2)
                     (try clear hk)
                     (try clear hi)
                     (try clear ho0)
                     refine hK.out _ _ ⟨(blk_cell BK376.out 0).trans rfl, (blk_cell BK376.out 1).trans rfl, (blk_cell BK376.out 2).trans rfl, (blk_cell BK376.out 3).trans rfl, (blk_cell BK376.out 4).trans rfl, (blk_cell BK347.out 0).trans rfl, (blk_cell BK347.out 1).trans rfl, (blk_cell BK347.out 2).trans rfl, (blk_cell BK347.out 3).trans rfl, (blk_cell BK347.out 4).trans rfl⟩ (fun hHeld => ?_)
                     clear hK K
                     refine norm_ (a' := ?_) ?_ ?_
                     rotate_left
                     · show Act.put _ (some 91) _ = _
                       simp only [Act.put, List.setIfInBounds_toArray, List.set_cons_zero, List.set_cons_succ, i64_w, i32_w]
                       rfl
                     refine one_ (i := 21) (N := some 93) #[true, true, true, true, true, true, true, true, true, true, true, true, true, true, true, true, true, true, true, true, true, true, false, false, false, false, false, false, false, false, false, false, false, false, false, false] rfl rfl (one_of HT_.out (by kernel_rfl)) (by decide) (fun K hK => ?_)
                     refine goes_ Try.func16 (by kernel_rfl) rfl #[.slice A0 l0.length c0] (by rfl) rfl rfl (by (try simp only [List.map_toArray, List.map_cons, List.map_nil]); first | done | rfl | (simp only [List.length_drop, List.length_take]; rfl)) ?_
                     with_reducible refine (handshakerlaw15_Refs.calls kj2 (fun k_ => ((((((((P0_ k_ ∨ P1_3_ k_ ∨ P1_4_ k_) ∨ w.heap.size ≤ k_) ∧ (k_ ≠ gb347 ∧ k_ ≠ gb376)) ∧ some k_ ≠ (.slice Ao55 y381.length co55 : Value).ownBlock) ∧ some k_ ≠ (.slice Ao60 y388.length co60 : Value).ownBlock) ∧ some k_ ≠ (.slice Ao66 t401.length co66 : Value).ownBlock) ∧ some k_ ≠ (.slice Ao68 t410.length co68 : Value).ownBlock) ∧ some k_ ≠ (v415 : Value).ownBlock)) _ _ l0 t417 _ ?side1 A32.out).mono ?_
                     (case side1 => exact HO_0.out)
                     rintro e w72 ⟨v418, rfl, ho0, hb⟩
                     refine ⟨_, rfl, ?_⟩
                     have n0_ := Aside0.mk (Kd.V_elder' (vq_ HO_0) (Kd.N_base ho0) hb)
                     have n1_ := Aside0.mk (Kd.V_elder' (vq_ HO_348003) (Kd.N_base ho0) hb)
                     have n2_ := Aside0.mk (Kd.V_elder' (vq_ HO_348004) (Kd.N_base ho0) hb)
                     have n3_ := Aside0.mk (Kd.V_elder' (vq_ HO356) (Kd.N_base ho0) hb)
                     have n4_ := Aside0.mk (Kd.V_elder' (vq_ HO371) (Kd.N_base ho0) hb)
                     have n5_ := Aside0.mk (Kd.V_elder' (vq_ HO374) (Kd.N_base ho0) hb)
                     have n6_ := Aside0.mk (Kd.V_elder' (vq_ HO379) (Kd.N_base ho0) hb)
                     have n7_ := rb_ HO383 hb
                     have n8_ := Aside0.mk (Kd.V_elder' (vq_ HO386) (Kd.N_base ho0) hb)
                     have n9_ := rb_ HO390 hb
                     have n10_ := Aside0.mk (Kd.V_elder' (vq_ HO393) (Kd.N_base ho0) hb)
                     have n11_ := Aside0.mk (Kd.V_elder' (vq_ HO400) (Kd.N_base ho0) hb)
                     have n12_ := rb_ HO403 hb
                     have n13_ := Aside0.mk (Kd.V_elder' (vq_ HO409) (Kd.N_base ho0) hb)
                     have n14_ := rb_ HO412 hb
                     have n15_ := Aside0.mk (Kd.N_elder' (nq_ HO416) (Kd.N_base ho0) hb)
                     have n16_ := Aside0.mk (Kd.N_lower (Kd.N_mono (ok' := fun k_ => ((P0_ k_ ∨ P1_3_ k_ ∨ P1_4_ k_) ∨ w.heap.size ≤ k_) ∧ some k_ ≠ (.slice Ao55 y381.length co55 : Value).ownBlock ∧ some k_ ≠ (.slice Ao60 y388.length co60 : Value).ownBlock ∧ some k_ ≠ (.slice Ao66 t401.length co66 : Value).ownBlock ∧ some k_ ≠ (.slice Ao68 t410.length co68 : Value).ownBlock ∧ some k_ ≠ (v415 : Value).ownBlock ∧ k_ ≠ gb347 ∧ k_ ≠ gb376) ho0 (fun k_ hk_ => ⟨Or.elim hk_ (fun hs_ => hs_.1.1.1.1.1.1) (fun hn_ => (.inr (Nat.le_trans (below_size (by repeat (first | (with_reducible first | exact HB.out | apply below_alloc | apply pw_below_drewN | apply below_drew1 | refine below_set ?_ GE347.out | refine below_set ?_ GE376.out) | exact HB.out))) hn_))), Or.elim hk_ (fun hs_ => hs_.1.1.1.1.2) (fun hn_ => (Kd.fresh' (Kd.R_lt (rq_ HO383)) k_ hn_)), Or.elim hk_ (fun hs_ => hs_.1.1.1.2) (fun hn_ => (Kd.fresh' (Kd.R_lt (rq_ HO390)) k_ hn_)), Or.elim hk_ (fun hs_ => hs_.1.1.2) (fun hn_ => (Kd.fresh' (Kd.R_lt (rq_ HO403)) k_ hn_)), Or.elim hk_ (fun hs_ => hs_.1.2) (fun hn_ => (Kd.fresh' (Kd.R_lt (rq_ HO412)) k_ hn_)), Or.elim hk_ (fun hs_ => hs_.2) (fun hn_ => (Kd.fresh' (Kd.N_lt (nq_ HO416)) k_ hn_)), Or.elim hk_ (fun hs_ => hs_.1.1.1.1.1.2.1) (fun hn_ => (Kd.freshB (g := gb347) (o := .cells #[.int .i64 a1_0, .int .i64 a1_1, .int .i64 a1_2, .slice A1_3 l1_3.length c1_3, .slice A1_4 l1_4.length c1_4] 26 (0, 0)) (bq_ BK347) k_ hn_)), Or.elim hk_ (fun hs_ => hs_.1.1.1.1.1.2.2) (fun hn_ => (Kd.freshB (g := gb376) (o := .cells #[.int .i64 t366, .int .i64 t367, .int .i64 t368, .slice Ao47 t369.length co47, .slice Ao48 t372.length co48] 26 (0, 0)) (bq_ BK376) k_ hn_))⟩)) (below_size (by repeat (first | (with_reducible first | exact HB.out | apply below_alloc | apply pw_below_drewN | apply below_drew1 | refine below_set ?_ GE347.out | refine below_set ?_ GE376.out) | exact HB.out))))
                     have n17_ := bb_ BK347 hb
                     have n18_ := bb_ BK376 hb
                     have n19_ := Aside0.mk (below_step (by repeat (first | (with_reducible first | exact HB.out | apply below_alloc | apply pw_below_drewN | apply below_drew1 | refine below_set ?_ GE347.out | refine below_set ?_ GE376.out) | exact HB.out)) hb)
                     clear HO_0
                     clear HO_348003
                     clear HO_348004
                     clear HO356
                     clear HO371
                     clear HO374
                     clear HO379
                     clear HO383
                     clear HO386
                     clear HO390
                     clear HO393
                     clear HO400
                     clear HO403
                     clear HO409
                     clear HO412
                     clear HO416
                     clear BK347
                     clear BK376
                     clear HB
                     have HO_0 := n0_
                     have HO_348003 := n1_
                     have HO_348004 := n2_
                     have HO356 := n3_
                     have HO371 := n4_
                     have HO374 := n5_
                     have HO379 := n6_
                     have HO383 := n7_
                     have HO386 := n8_
                     have HO390 := n9_
                     have HO393 := n10_
                     have HO400 := n11_
                     have HO403 := n12_
                     have HO409 := n13_
                     have HO412 := n14_
                     have HO416 := n15_
                     have HO419 := n16_
                     have BK347 := n17_
                     have BK376 := n18_
                     have HB := n19_
                     clear n0_ n1_ n2_ n3_ n4_ n5_ n6_ n7_ n8_ n9_ n10_ n11_ n12_ n13_ n14_ n15_ n16_ n17_ n18_ n19_
                     (try clear hb)
                     (try clear hb2)
                     (try clear hk)
                     (try clear hi)
                     (try clear ho0)
                     obtain ⟨Ao73, co73, eo73⟩ := Kd.N_slice HO416.out
                     (first | subst eo73 | (injection eo73 with f1_ f2_ f3_; have f4_ := f1_.symm; have f5_ := f3_.symm; clear f1_ f2_ f3_; subst f4_; subst f5_))
                     obtain ⟨Ao74, co74, eo74⟩ := Kd.N_slice HO419.out
                     (first | subst eo74 | (injection eo74 with f1_ f2_ f3_; have f4_ := f1_.symm; have f5_ := f3_.symm; clear f1_ f2_ f3_; subst f4_; subst f5_))
                     refine hK.out _ _ ⟨(blk_cell BK376.out 0).trans rfl, (blk_cell BK376.out 1).trans rfl, (blk_cell BK376.out 2).trans rfl, (blk_cell BK376.out 3).trans rfl, (blk_cell BK376.out 4).trans rfl, (blk_cell BK347.out 0).trans rfl, (blk_cell BK347.out 1).trans rfl, (blk_cell BK347.out 2).trans rfl, (blk_cell BK347.out 3).trans rfl, (blk_cell BK347.out 4).trans rfl⟩ (fun hHeld => ?_)
                     clear hK K
                     refine norm_ (a' := ?_) ?_ ?_
                     rotate_left
                     · show Act.put _ (some 93) _ = _
                       simp only [Act.put, List.setIfInBounds_toArray, List.set_cons_zero, List.set_cons_succ, i64_w, i32_w]
                       rfl
                     refine one_ (i := 22) (N := some 94) #[true, true, true, true, true, true, true, true, true, true, true, true, true, true, true, true, true, true, true, true, true, true, true, false, false, false, false, false, false, false, false, false, false, false, false, false] rfl rfl (one_of HT_.out (by kernel_rfl)) (by decide) (fun K hK => ?_)
                     refine goes_ Try.func27 (by kernel_rfl) rfl #[.slice Ao73 t414.length co73, .slice Ao74 t417.length co74] (by rfl) rfl rfl (by (try simp only [List.map_toArray, List.map_cons, List.map_nil]); first | done | rfl | (simp only [List.length_drop, List.length_take]; rfl)) ?_
                     with_reducible refine (handshakerref15_Same.calls kj2 _ _ t414 _ _ t417 true _ ?side1 ?side2 ?side3 ?side4 A33.out).mono ?_
                     (case side1 => repeat (first | exact (Kd.N_reads' HO416.out).2.2 | with_reducible first | refine Kd.C_alloc ?_ _ | refine Kd.C_drewN ?_ _ | refine Kd.C_drew ?_))
                     (case side2 => exact (Kd.N_reads' HO416.out).2.1)
                     (case side3 => repeat (first | exact (Kd.N_reads' HO419.out).2.2 | with_reducible first | refine Kd.C_alloc ?_ _ | refine Kd.C_drewN ?_ _ | refine Kd.C_drew ?_))
                     (case side4 => exact (Kd.N_reads' HO419.out).2.1)
                     rintro e w75 ⟨rfl, hb⟩
                     refine ⟨_, rfl, ?_⟩
                     have n0_ := vb_ HO_0 hb
                     have n1_ := vb_ HO_348003 hb
                     have n2_ := vb_ HO_348004 hb
                     have n3_ := vb_ HO356 hb
                     have n4_ := vb_ HO371 hb
                     have n5_ := vb_ HO374 hb
                     have n6_ := vb_ HO379 hb
                     have n7_ := rb_ HO383 hb
                     have n8_ := vb_ HO386 hb
                     have n9_ := rb_ HO390 hb
                     have n10_ := vb_ HO393 hb
                     have n11_ := vb_ HO400 hb
                     have n12_ := rb_ HO403 hb
                     have n13_ := vb_ HO409 hb
                     have n14_ := rb_ HO412 hb
                     have n15_ := nb_ HO416 hb
                     have n16_ := nb_ HO419 hb
                     have n17_ := bb_ BK347 hb
                     have n18_ := bb_ BK376 hb
                     have n19_ := Aside0.mk (below_step (by repeat (first | (with_reducible first | exact HB.out | apply below_alloc | apply pw_below_drewN | apply below_drew1 | refine below_set ?_ GE347.out | refine below_set ?_ GE376.out) | exact HB.out)) hb)
                     clear HO_0
                     clear HO_348003
                     clear HO_348004
                     clear HO356
                     clear HO371
                     clear HO374
                     clear HO379
                     clear HO383
                     clear HO386
                     clear HO390
                     clear HO393
                     clear HO400
                     clear HO403
                     clear HO409
                     clear HO412
                     clear HO416
                     clear HO419
                     clear BK347
                     clear BK376
                     clear HB
                     have HO_0 := n0_
                     have HO_348003 := n1_
                     have HO_348004 := n2_
                     have HO356 := n3_
                     have HO371 := n4_
                     have HO374 := n5_
                     have HO379 := n6_
                     have HO383 := n7_
                     have HO386 := n8_
                     have HO390 := n9_
                     have HO393 := n10_
                     have HO400 := n11_
                     have HO403 := n12_
                     have HO409 := n13_
                     have HO412 := n14_
                     have HO416 := n15_
                     have HO419 := n16_
                     have BK347 := n17_
                     have BK376 := n18_
                     have HB := n19_
                     clear n0_ n1_ n2_ n3_ n4_ n5_ n6_ n7_ n8_ n9_ n10_ n11_ n12_ n13_ n14_ n15_ n16_ n17_ n18_ n19_
                     (try clear hb)
                     (try clear hb2)
                     (try clear hk)
                     (try clear hi)
                     refine hK.out _ _ ⟨(blk_cell BK376.out 0).trans rfl, (blk_cell BK376.out 1).trans rfl, (blk_cell BK376.out 2).trans rfl, (blk_cell BK376.out 3).trans rfl, (blk_cell BK376.out 4).trans rfl, (blk_cell BK347.out 0).trans rfl, (blk_cell BK347.out 1).trans rfl, (blk_cell BK347.out 2).trans rfl, (blk_cell BK347.out 3).trans rfl, (blk_cell BK347.out 4).trans rfl⟩ (fun hHeld => ?_)
                     clear hK K
                     refine norm_ (a' := ?_) ?_ ?_
                     rotate_left
                     · show Act.put _ (some 94) _ = _
                       simp only [Act.put, List.setIfInBounds_toArray, List.set_cons_zero, List.set_cons_succ, i64_w, i32_w]
                       rfl
                     refine pure_ (i := 23) (N := some 95) (v := ?_) (a' := ?_) #[true, true, true, true, true, true, true, true, true, true, true, true, true, true, true, true, true, true, true, true, true, true, true, true, false, false, false, false, false, false, false, false, false, false, false, false] rfl rfl (any_of HT_.out (by kernel_rfl)) (fun _ _ _ h => h) (Or.inl ⟨by rfl, ?_⟩) ?_ ?_
                     rotate_left
                     · intro w'
                       go_simp
                       with_reducible rfl
                     rotate_left
                     · simp only [Act.put, List.setIfInBounds_toArray, List.set_cons_zero, List.set_cons_succ, i64_w, i32_w]
                       rfl
                     refine pure_ (i := 24) (N := some 96) (v := ?_) (a' := ?_) #[true, true, true, true, true, true, true, true, true, true, true, true, true, true, true, true, true, true, true, true, true, true, true, true, true, false, false, false, false, false, false, false, false, false, false, false] rfl rfl (any_of HT_.out (by kernel_rfl)) (fun _ _ _ h => h) (Or.inl ⟨by rfl, ?_⟩) ?_ ?_
                     rotate_left
                     · intro w'
                       go_simp
                       with_reducible rfl
                     rotate_left
                     · simp only [Act.put, List.setIfInBounds_toArray, List.set_cons_zero, List.set_cons_succ, i64_w, i32_w]
                       rfl
                     refine pure_ (i := 25) (N := some 97) (v := ?_) (a' := ?_) #[true, true, true, true, true, true, true, true, true, true, true, true, true, true, true, true, true, true, true, true, true, true, true, true, true, true, false, false, false, false, false, false, false, false, false, false] rfl rfl (any_of HT_.out (by kernel_rfl)) (fun _ _ _ h => h) (Or.inl ⟨by rfl, ?_⟩) ?_ ?_
                     rotate_left
                     · intro w'
                       go_simp
                       with_reducible rfl
                     rotate_left
                     · simp only [Act.put, List.setIfInBounds_toArray, List.set_cons_zero, List.set_cons_succ, i64_w, i32_w]
                       rfl
                     refine pure_ (i := 26) (N := some 98) (v := ?_) (a' := ?_) #[true, true, true, true, true, true, true, true, true, true, true, true, true, true, true, true, true, true, true, true, true, true, true, true, true, true, true, false, false, false, false, false, false, false, false, false] rfl rfl (any_of HT_.out (by kernel_rfl)) (fun _ _ _ h => h) (Or.inl ⟨by rfl, ?_⟩) ?_ ?_
                     rotate_left
                     · intro w'
                       go_simp
                       with_reducible rfl
                     rotate_left
                     · simp only [Act.put, List.setIfInBounds_toArray, List.set_cons_zero, List.set_cons_succ, i64_w, i32_w]
                       rfl
                     refine pure_ (i := 27) (N := some 99) (v := ?_) (a' := ?_) #[true, true, true, true, true, true, true, true, true, true, true, true, true, true, true, true, true, true, true, true, true, true, true, true, true, true, true, true, false, false, false, false, false, false, false, false] rfl rfl (any_of HT_.out (by kernel_rfl)) (fun _ _ _ h => h) (Or.inl ⟨by rfl, ?_⟩) ?_ ?_
                     rotate_left
                     · intro w'
                       go_simp
                       with_reducible rfl
                     rotate_left
                     · simp only [Act.put, List.setIfInBounds_toArray, List.set_cons_zero, List.set_cons_succ, i64_w, i32_w]
                       rfl
                     refine pure_ (i := 28) (N := some 100) (v := ?_) (a' := ?_) #[true, true, true, true, true, true, true, true, true, true, true, true, true, true, true, true, true, true, true, true, true, true, true, true, true, true, true, true, true, false, false, false, false, false, false, false] rfl rfl (any_of HT_.out (by kernel_rfl)) (fun _ _ _ h => h) (Or.inl ⟨by rfl, ?_⟩) ?_ ?_
                     rotate_left
                     · intro w'
                       go_simp
                       with_reducible rfl
                     rotate_left
                     · simp only [Act.put, List.setIfInBounds_toArray, List.set_cons_zero, List.set_cons_succ, i64_w, i32_w]
                       rfl
                     refine pure_ (i := 29) (N := some 101) (v := ?_) (a' := ?_) #[true, true, true, true, true, true, true, true, true, true, true, true, true, true, true, true, true, true, true, true, true, true, true, true, true, true, true, true, true, true, false, false, false, false, false, false] rfl rfl (any_of HT_.out (by kernel_rfl)) (fun _ _ _ h => h) (Or.inl ⟨by rfl, ?_⟩) ?_ ?_
                     rotate_left
                     · intro w'
                       go_simp
                       with_reducible rfl
                     rotate_left
                     · simp only [Act.put, List.setIfInBounds_toArray, List.set_cons_zero, List.set_cons_succ, i64_w, i32_w]
                       rfl
                     refine one_ (i := 30) (N := some 102) #[true, true, true, true, true, true, true, true, true, true, true, true, true, true, true, true, true, true, true, true, true, true, true, true, true, true, true, true, true, true, true, false, false, false, false, false] rfl rfl (one_of HT_.out (by kernel_rfl)) (by decide) (fun K hK => ?_)
                     refine goes_ Try.func26 (by kernel_rfl) rfl #[.slice Ao42 t354.length co42] (by rfl) rfl rfl (by (try simp only [List.map_toArray, List.map_cons, List.map_nil]); first | done | rfl | (simp only [List.length_drop, List.length_take]; rfl)) ?_
                     with_reducible refine (sleep_Right.calls kj2 _ _ t354 true _ ?side1 ?side2 A36.out).mono ?_
                     (case side1 => repeat (first | exact (Kd.V_reads' HO356.out).2.2 | with_reducible first | refine Kd.C_alloc ?_ _ | refine Kd.C_drewN ?_ _ | refine Kd.C_drew ?_))
                     (case side2 => exact (Kd.V_reads' HO356.out).2.1)
                     rintro e w76 ⟨rfl, hb⟩
                     refine ⟨_, rfl, ?_⟩
                     have n0_ := vb_ HO_0 hb
                     have n1_ := vb_ HO_348003 hb
                     have n2_ := vb_ HO_348004 hb
                     have n3_ := vb_ HO356 hb
                     have n4_ := vb_ HO371 hb
                     have n5_ := vb_ HO374 hb
                     have n6_ := vb_ HO379 hb
                     have n7_ := rb_ HO383 hb
                     have n8_ := vb_ HO386 hb
                     have n9_ := rb_ HO390 hb
                     have n10_ := vb_ HO393 hb
                     have n11_ := vb_ HO400 hb
                     have n12_ := rb_ HO403 hb
                     have n13_ := vb_ HO409 hb
                     have n14_ := rb_ HO412 hb
                     have n15_ := nb_ HO416 hb
                     have n16_ := nb_ HO419 hb
                     have n17_ := bb_ BK347 hb
                     have n18_ := bb_ BK376 hb
                     have n19_ := Aside0.mk (below_step (by repeat (first | (with_reducible first | exact HB.out | apply below_alloc | apply pw_below_drewN | apply below_drew1 | refine below_set ?_ GE347.out | refine below_set ?_ GE376.out) | exact HB.out)) hb)
                     clear HO_0
                     clear HO_348003
                     clear HO_348004
                     clear HO356
                     clear HO371
                     clear HO374
                     clear HO379
                     clear HO383
                     clear HO386
                     clear HO390
                     clear HO393
                     clear HO400
                     clear HO403
                     clear HO409
                     clear HO412
                     clear HO416
                     clear HO419
                     clear BK347
                     clear BK376
                     clear HB
                     have HO_0 := n0_
                     have HO_348003 := n1_
                     have HO_348004 := n2_
                     have HO356 := n3_
                     have HO371 := n4_
                     have HO374 := n5_
                     have HO379 := n6_
                     have HO383 := n7_
                     have HO386 := n8_
                     have HO390 := n9_
                     have HO393 := n10_
                     have HO400 := n11_
                     have HO403 := n12_
                     have HO409 := n13_
                     have HO412 := n14_
                     have HO416 := n15_
                     have HO419 := n16_
                     have BK347 := n17_
                     have BK376 := n18_
                     have HB := n19_
                     clear n0_ n1_ n2_ n3_ n4_ n5_ n6_ n7_ n8_ n9_ n10_ n11_ n12_ n13_ n14_ n15_ n16_ n17_ n18_ n19_
                     (try clear hb)
                     (try clear hb2)
                     (try clear hk)
                     (try clear hi)
                     refine hK.out _ _ ⟨(blk_cell BK376.out 0).trans rfl, (blk_cell BK376.out 1).trans rfl, (blk_cell BK376.out 2).trans rfl, (blk_cell BK376.out 3).trans rfl, (blk_cell BK376.out 4).trans rfl, (blk_cell BK347.out 0).trans rfl, (blk_cell BK347.out 1).trans rfl, (blk_cell BK347.out 2).trans rfl, (blk_cell BK347.out 3).trans rfl, (blk_cell BK347.out 4).trans rfl⟩ (fun hHeld => ?_)
                     clear hK K
                     refine norm_ (a' := ?_) ?_ ?_
                     rotate_left
                     · show Act.put _ (some 102) _ = _
                       simp only [Act.put, List.setIfInBounds_toArray, List.set_cons_zero, List.set_cons_succ, i64_w, i32_w]
                       rfl
                     refine pure_ (i := 31) (N := some 103) (v := ?_) (a' := ?_) #[true, true, true, true, true, true, true, true, true, true, true, true, true, true, true, true, true, true, true, true, true, true, true, true, true, true, true, true, true, true, true, true, false, false, false, false] rfl rfl (any_of HT_.out (by kernel_rfl)) (fun _ _ _ h => h) (Or.inl ⟨by rfl, ?_⟩) ?_ ?_
                     rotate_left
                     · intro w'
                       go_simp
                       with_reducible rfl
                     rotate_left
                     · simp only [Act.put, List.setIfInBounds_toArray, List.set_cons_zero, List.set_cons_succ, i64_w, i32_w]
                       rfl
                     refine pure_ (i := 32) (N := some 104) (v := ?_) (a' := ?_) #[true, true, true, true, true, true, true, true, true, true, true, true, true, true, true, true, true, true, true, true, true, true, true, true, true, true, true, true, true, true, true, true, true, false, false, false] rfl rfl (any_of HT_.out (by kernel_rfl)) (fun _ _ _ h => h) (Or.inl ⟨by rfl, ?_⟩) ?_ ?_
                     rotate_left
                     · intro w'
                       go_simp
                       with_reducible rfl
                     rotate_left
                     · simp only [Act.put, List.setIfInBounds_toArray, List.set_cons_zero, List.set_cons_succ, i64_w, i32_w]
                       rfl
                     refine one_ (i := 33) (N := some 105) #[true, true, true, true, true, true, true, true, true, true, true, true, true, true, true, true, true, true, true, true, true, true, true, true, true, true, true, true, true, true, true, true, true, true, false, false] rfl rfl (one_of HT_.out (by kernel_rfl)) (by decide) (fun K hK => ?_)
                     refine goes_ Try.func15 (by kernel_rfl) rfl #[] (by rfl) rfl rfl (by (try simp only [List.map_toArray, List.map_cons, List.map_nil]); first | done | rfl | (simp only [List.length_drop, List.length_take]; rfl)) ?_
                     with_reducible refine (handshakerlaw15_awake.calls kj2  t422 _ A38.out).mono ?_
                     rintro e w77 ⟨rfl, hb⟩
                     refine ⟨_, rfl, ?_⟩
                     have n0_ := vb_ HO_0 hb
                     have n1_ := vb_ HO_348003 hb
                     have n2_ := vb_ HO_348004 hb
                     have n3_ := vb_ HO356 hb
                     have n4_ := vb_ HO371 hb
                     have n5_ := vb_ HO374 hb
                     have n6_ := vb_ HO379 hb
                     have n7_ := rb_ HO383 hb
                     have n8_ := vb_ HO386 hb
                     have n9_ := rb_ HO390 hb
                     have n10_ := vb_ HO393 hb
                     have n11_ := vb_ HO400 hb
                     have n12_ := rb_ HO403 hb
                     have n13_ := vb_ HO409 hb
                     have n14_ := rb_ HO412 hb
                     have n15_ := nb_ HO416 hb
                     have n16_ := nb_ HO419 hb
                     have n17_ := bb_ BK347 hb
                     have n18_ := bb_ BK376 hb
                     have n19_ := Aside0.mk (below_step (by repeat (first | (with_reducible first | exact HB.out | apply below_alloc | apply pw_below_drewN | apply below_drew1 | refine below_set ?_ GE347.out | refine below_set ?_ GE376.out) | exact HB.out)) hb)
                     clear HO_0
                     clear HO_348003
                     clear HO_348004
                     clear HO356
                     clear HO371
                     clear HO374
                     clear HO379
                     clear HO383
                     clear HO386
                     clear HO390
                     clear HO393
                     clear HO400
                     clear HO403
                     clear HO409
                     clear HO412
                     clear HO416
                     clear HO419
                     clear BK347
                     clear BK376
                     clear HB
                     have HO_0 := n0_
                     have HO_348003 := n1_
                     have HO_348004 := n2_
                     have HO356 := n3_
                     have HO371 := n4_
                     have HO374 := n5_
                     have HO379 := n6_
                     have HO383 := n7_
                     have HO386 := n8_
                     have HO390 := n9_
                     have HO393 := n10_
                     have HO400 := n11_
                     have HO403 := n12_
                     have HO409 := n13_
                     have HO412 := n14_
                     have HO416 := n15_
                     have HO419 := n16_
                     have BK347 := n17_
                     have BK376 := n18_
                     have HB := n19_
                     clear n0_ n1_ n2_ n3_ n4_ n5_ n6_ n7_ n8_ n9_ n10_ n11_ n12_ n13_ n14_ n15_ n16_ n17_ n18_ n19_
                     (try clear hb)
                     (try clear hb2)
                     (try clear hk)
                     (try clear hi)
                     refine hK.out _ _ ⟨(blk_cell BK376.out 0).trans rfl, (blk_cell BK376.out 1).trans rfl, (blk_cell BK376.out 2).trans rfl, (blk_cell BK376.out 3).trans rfl, (blk_cell BK376.out 4).trans rfl, (blk_cell BK347.out 0).trans rfl, (blk_cell BK347.out 1).trans rfl, (blk_cell BK347.out 2).trans rfl, (blk_cell BK347.out 3).trans rfl, (blk_cell BK347.out 4).trans rfl⟩ (fun hHeld => ?_)
                     clear hK K
                     refine norm_ (a' := ?_) ?_ ?_
                     rotate_left
                     · show Act.put _ (some 105) _ = _
                       simp only [Act.put, List.setIfInBounds_toArray, List.set_cons_zero, List.set_cons_succ, i64_w, i32_w]
                       rfl
                     refine pure_ (i := 34) (N := some 106) (v := ?_) (a' := ?_) #[true, true, true, true, true, true, true, true, true, true, true, true, true, true, true, true, true, true, true, true, true, true, true, true, true, true, true, true, true, true, true, true, true, true, true, false] rfl rfl (any_of HT_.out (by kernel_rfl)) (fun _ _ _ h => h) (Or.inl ⟨by rfl, ?_⟩) ?_ ?_
                     rotate_left
                     · intro w'
                       go_simp
                       with_reducible rfl
                     rotate_left
                     · simp only [Act.put, List.setIfInBounds_toArray, List.set_cons_zero, List.set_cons_succ, i64_w, i32_w]
                       rfl
                     refine pure_ (i := 35) (N := some 4) (v := ?_) (a' := ?_) #[true, true, true, true, true, true, true, true, true, true, true, true, true, true, true, true, true, true, true, true, true, true, true, true, true, true, true, true, true, true, true, true, true, true, true, true] rfl rfl (any_of HT_.out (by kernel_rfl)) (fun _ _ _ h => h) (Or.inl ⟨by rfl, ?_⟩) ?_ ?_
                     rotate_left
                     · intro w'
                       go_simp
                       with_reducible rfl
                     rotate_left
                     · simp only [Act.put, List.setIfInBounds_toArray, List.set_cons_zero, List.set_cons_succ, i64_w, i32_w]
                       rfl
                     refine done_ (done_of HT_.out (by kernel_rfl)) ?_
                     try go_wp2
                     go_ret
                     exact ⟨by first | rfl | (simp [errW_none, errW_some] <;> rfl) | (simp [*, errW_none, errW_some] <;> rfl), by repeat (first | (with_reducible first | exact HB.out | apply below_alloc | apply pw_below_drewN | apply below_drew1 | refine below_set ?_ GE347.out | refine below_set ?_ GE376.out) | exact HB.out)⟩
                   · replace c37 := Bool.eq_false_iff.mpr c37
                     subst c37
                     rw [if_neg (show ¬ (false = true) by decide)] at H
                     exact absurd (Option.some.inj H) (by rw [HT.out]; decide)
                 · rw [if_neg c35] at H
                   have c35b0 : (t394 == 3) = false := beq_eq_false_iff_ne.mpr c35
                   have c35b1 : (t394 != 3) = true := bne_iff_ne.mpr c35
                   exact absurd (Option.some.inj H) (by rw [HT.out]; decide)
               · replace c34 := Bool.eq_false_iff.mpr c34
                 subst c34
                 rw [if_neg (show ¬ (false = true) by decide)] at H
                 exact absurd (Option.some.inj H) (by rw [HT.out]; decide)
             · rw [if_neg c30] at H
               have c30b0 : (t387 == 0) = false := beq_eq_false_iff_ne.mpr c30
               have c30b1 : (t387 != 0) = true := bne_iff_ne.mpr c30
               exact absurd (Option.some.inj H) (by rw [HT.out]; decide)
           · rw [if_neg c29] at H
             have c29b0 : (t380 == 9) = false := beq_eq_false_iff_ne.mpr c29
             have c29b1 : (t380 != 9) = true := bne_iff_ne.mpr c29
             exact absurd (Option.some.inj H) (by rw [HT.out]; decide)
         · replace c28 := Bool.eq_false_iff.mpr c28
           subst c28
           rw [if_neg (show ¬ (false = true) by decide)] at H
           exact absurd (Option.some.inj H) (by rw [HT.out]; decide)
       · rw [if_neg c24] at H
         have c24b0 : (t375 == 0) = false := beq_eq_false_iff_ne.mpr c24
         have c24b1 : (t375 != 0) = true := bne_iff_ne.mpr c24
         exact absurd (Option.some.inj H) (by rw [HT.out]; decide)
     · rw [if_neg c19] at H
       have c19b0 : (t357 == 0) = false := beq_eq_false_iff_ne.mpr c19
       have c19b1 : (t357 != 0) = true := bne_iff_ne.mpr c19
       replace H := Option.bind_eq_some_iff.mp H
       obtain ⟨t358, A780, H⟩ := H
       have A78 := Aside0.mk A780
       clear A780
       replace H := Option.bind_eq_some_iff.mp H
       obtain ⟨t361, A790, H⟩ := H
       have A79 := Aside0.mk A790
       clear A790
       replace H := Option.bind_eq_some_iff.mp H
       obtain ⟨t364, A800, H⟩ := H
       have A80 := Aside0.mk A800
       clear A800
       by_cases c81 : t364 = true
       · subst c81
         rw [if_pos rfl] at H
         replace H := Option.bind_eq_some_iff.mp H
         obtain ⟨t365, A820, H⟩ := H
         have A82 := Aside0.mk A820
         clear A820
         obtain rfl := Option.some.inj H
         have hcz83_0 : wc.cell? ⟨gb347, 0, none⟩ = some (.int .i64 a1_0) := (blk_cell BK347.out 0).trans rfl
         have hcz83_1 : wc.cell? ⟨gb347, 1, none⟩ = some (.int .i64 a1_1) := (blk_cell BK347.out 1).trans rfl
         have hcz83_2 : wc.cell? ⟨gb347, 2, none⟩ = some (.int .i64 a1_2) := (blk_cell BK347.out 2).trans rfl
         have hcz83_3 : wc.cell? ⟨gb347, 3, none⟩ = some (.slice A1_3 l1_3.length c1_3) := (blk_cell BK347.out 3).trans rfl
         have hcz83_4 : wc.cell? ⟨gb347, 4, none⟩ = some (.slice A1_4 l1_4.length c1_4) := (blk_cell BK347.out 4).trans rfl
         have hfz83_0 := blk_frozen BK347.out 0
         have hfz83_1 := blk_frozen BK347.out 1
         have hfz83_2 := blk_frozen BK347.out 2
         have hfz83_3 := blk_frozen BK347.out 3
         have hfz83_4 := blk_frozen BK347.out 4
         go_wp2_with (first | ((with_reducible refine gate_callee (f := 17) rfl ?_); refine goesL_ (some 28) rfl rfl Try.func17 (by kernel_rfl) rfl #[.slice A0 l0.length c0, .agg #[.int .i64 a1_0, .int .i64 a1_1, .int .i64 a1_2, .slice A1_3 l1_3.length c1_3, .slice A1_4 l1_4.length c1_4]] rfl mp_ ?_; (with_reducible refine (sleep_Add.calls kj2 (fun k_ => (((P0_ k_ ∨ P1_3_ k_ ∨ P1_4_ k_) ∨ w.heap.size ≤ k_) ∧ k_ ≠ gb347)) _ _ l0 a1_0 a1_1 a1_2 (fun k_ => (((P0_ k_ ∨ P1_3_ k_ ∨ P1_4_ k_) ∨ w.heap.size ≤ k_) ∧ k_ ≠ gb347)) _ _ l1_3 (fun k_ => (((P0_ k_ ∨ P1_3_ k_ ∨ P1_4_ k_) ∨ w.heap.size ≤ k_) ∧ k_ ≠ gb347)) _ _ l1_4 t354 t357 _ ?side1 ?side2 ?side3 A18.out).mono ?_); (case side1 => exact HO_0.out); (case side2 => exact HO_348003.out); (case side3 => exact HO_348004.out); rintro e w84 ⟨v355, rfl, ho0, hb⟩; refine ⟨_, rfl, ?_⟩; replace HO_0 := vb_ HO_0 hb; replace HO_348003 := vb_ HO_348003 hb; replace HO_348004 := vb_ HO_348004 hb; replace HO356 := Aside0.mk (Kd.V_lower (Kd.V_mono (ok' := fun k_ => ((P0_ k_ ∨ P1_3_ k_ ∨ P1_4_ k_) ∨ w.heap.size ≤ k_) ∧ k_ ≠ gb347) ho0 (fun k_ hk_ => ⟨Or.elim hk_ (fun hs_ => Or.elim hs_ (fun hs_ => hs_.1) (fun hs_ => Or.elim hs_ (fun hs_ => hs_.1) (fun hs_ => hs_.1))) (fun hn_ => (.inr (Nat.le_trans (below_size bsw_) hn_))), Or.elim hk_ (fun hs_ => Or.elim hs_ (fun hs_ => hs_.2) (fun hs_ => Or.elim hs_ (fun hs_ => hs_.2) (fun hs_ => hs_.2))) (fun hn_ => (Kd.freshB (g := gb347) (o := .cells #[.int .i64 a1_0, .int .i64 a1_1, .int .i64 a1_2, .slice A1_3 l1_3.length c1_3, .slice A1_4 l1_4.length c1_4] 26 (0, 0)) (bq_ BK347) k_ hn_))⟩)) (below_size bsw_)); replace BK347 := bb_ BK347 hb; replace HB := Aside0.mk (below_step bsw_ hb); (try clear hb); (try clear hb2); (try clear hk); (try clear hi); (try clear ho0); obtain ⟨Ao85, co85, eo85⟩ := Kd.V_slice HO356.out; subst eo85) | ((with_reducible refine gate_callee (f := 16) rfl ?_); refine goesL_ (some 34) rfl rfl Try.func16 (by kernel_rfl) rfl #[.slice Ao85 t354.length co85] rfl mp_ ?_; (with_reducible refine (handshakerlaw15_Refs.calls kj2 (fun k_ => (((P0_ k_ ∨ P1_3_ k_ ∨ P1_4_ k_) ∨ w.heap.size ≤ k_) ∧ k_ ≠ gb347)) _ _ t354 t358 _ ?side1 A78.out).mono ?_); (case side1 => exact HO356.out); rintro e w86 ⟨v359, rfl, ho0, hb⟩; refine ⟨_, rfl, ?_⟩; replace HO_0 := Aside0.mk (Kd.V_elder' (vq_ HO_0) (Kd.N_base ho0) hb); replace HO_348003 := Aside0.mk (Kd.V_elder' (vq_ HO_348003) (Kd.N_base ho0) hb); replace HO_348004 := Aside0.mk (Kd.V_elder' (vq_ HO_348004) (Kd.N_base ho0) hb); replace HO356 := Aside0.mk (Kd.V_elder' (vq_ HO356) (Kd.N_base ho0) hb); replace HO360 := Aside0.mk (Kd.N_lower (Kd.N_mono (ok' := fun k_ => ((P0_ k_ ∨ P1_3_ k_ ∨ P1_4_ k_) ∨ w.heap.size ≤ k_) ∧ k_ ≠ gb347) ho0 (fun k_ hk_ => ⟨Or.elim hk_ (fun hs_ => hs_.1) (fun hn_ => (.inr (Nat.le_trans (below_size bsw_) hn_))), Or.elim hk_ (fun hs_ => hs_.2) (fun hn_ => (Kd.freshB (g := gb347) (o := .cells #[.int .i64 a1_0, .int .i64 a1_1, .int .i64 a1_2, .slice A1_3 l1_3.length c1_3, .slice A1_4 l1_4.length c1_4] 26 (0, 0)) (bq_ BK347) k_ hn_))⟩)) (below_size bsw_)); replace BK347 := bb_ BK347 hb; replace HB := Aside0.mk (below_step bsw_ hb); (try clear hb); (try clear hb2); (try clear hk); (try clear hi); (try clear ho0)) | ((with_reducible refine gate_callee (f := 16) rfl ?_); refine goesL_ (some 36) rfl rfl Try.func16 (by kernel_rfl) rfl #[.slice A0 l0.length c0] rfl mp_ ?_; (with_reducible refine (handshakerlaw15_Refs.calls kj2 (fun k_ => ((((P0_ k_ ∨ P1_3_ k_ ∨ P1_4_ k_) ∨ w.heap.size ≤ k_) ∧ k_ ≠ gb347) ∧ some k_ ≠ (v359 : Value).ownBlock)) _ _ l0 t361 _ ?side1 A79.out).mono ?_); (case side1 => exact HO_0.out); rintro e w87 ⟨v362, rfl, ho0, hb⟩; refine ⟨_, rfl, ?_⟩; replace HO_0 := Aside0.mk (Kd.V_elder' (vq_ HO_0) (Kd.N_base ho0) hb); replace HO_348003 := Aside0.mk (Kd.V_elder' (vq_ HO_348003) (Kd.N_base ho0) hb); replace HO_348004 := Aside0.mk (Kd.V_elder' (vq_ HO_348004) (Kd.N_base ho0) hb); replace HO356 := Aside0.mk (Kd.V_elder' (vq_ HO356) (Kd.N_base ho0) hb); replace HO363 := Aside0.mk (Kd.N_lower (Kd.N_mono (ok' := fun k_ => ((P0_ k_ ∨ P1_3_ k_ ∨ P1_4_ k_) ∨ w.heap.size ≤ k_) ∧ some k_ ≠ (v359 : Value).ownBlock ∧ k_ ≠ gb347) ho0 (fun k_ hk_ => ⟨Or.elim hk_ (fun hs_ => hs_.1.1) (fun hn_ => (.inr (Nat.le_trans (below_size bsw_) hn_))), Or.elim hk_ (fun hs_ => hs_.2) (fun hn_ => (Kd.fresh' (Kd.N_lt (nq_ HO360)) k_ hn_)), Or.elim hk_ (fun hs_ => hs_.1.2) (fun hn_ => (Kd.freshB (g := gb347) (o := .cells #[.int .i64 a1_0, .int .i64 a1_1, .int .i64 a1_2, .slice A1_3 l1_3.length c1_3, .slice A1_4 l1_4.length c1_4] 26 (0, 0)) (bq_ BK347) k_ hn_))⟩)) (below_size bsw_)); replace HO360 := Aside0.mk (Kd.N_elder' (nq_ HO360) (Kd.N_base ho0) hb); replace BK347 := bb_ BK347 hb; replace HB := Aside0.mk (below_step bsw_ hb); (try clear hb); (try clear hb2); (try clear hk); (try clear hi); (try clear ho0); obtain ⟨Ao88, co88, eo88⟩ := Kd.N_slice HO360.out; subst eo88; obtain ⟨Ao89, co89, eo89⟩ := Kd.N_slice HO363.out; subst eo89) | ((with_reducible refine gate_callee (f := 27) rfl ?_); refine goesL_ (some 37) rfl rfl Try.func27 (by kernel_rfl) rfl #[.slice Ao88 t358.length co88, .slice Ao89 t361.length co89] rfl mp_ ?_; (with_reducible refine (handshakerref15_Same.calls kj2 _ _ t358 _ _ t361 true _ ?side1 ?side2 ?side3 ?side4 A80.out).mono ?_); (case side1 => repeat (first | exact (Kd.N_reads' HO360.out).2.2 | with_reducible first | refine Kd.C_alloc ?_ _ | refine Kd.C_drewN ?_ _ | refine Kd.C_drew ?_)); (case side2 => exact (Kd.N_reads' HO360.out).2.1); (case side3 => repeat (first | exact (Kd.N_reads' HO363.out).2.2 | with_reducible first | refine Kd.C_alloc ?_ _ | refine Kd.C_drewN ?_ _ | refine Kd.C_drew ?_)); (case side4 => exact (Kd.N_reads' HO363.out).2.1); rintro e w90 ⟨rfl, hb⟩; refine ⟨_, rfl, ?_⟩; replace HO_0 := vb_ HO_0 hb; replace HO_348003 := vb_ HO_348003 hb; replace HO_348004 := vb_ HO_348004 hb; replace HO356 := vb_ HO356 hb; replace HO360 := nb_ HO360 hb; replace HO363 := nb_ HO363 hb; replace BK347 := bb_ BK347 hb; replace HB := Aside0.mk (below_step bsw_ hb); (try clear hb); (try clear hb2); (try clear hk); (try clear hi)) | (go_at_call 15; (with_reducible refine (handshakerlaw15_awake.calls kj2  t365 _ A82.out).mono ?_); rintro e w91 ⟨rfl, hb⟩; replace HO_0 := vb_ HO_0 hb; replace HO_348003 := vb_ HO_348003 hb; replace HO_348004 := vb_ HO_348004 hb; replace HO356 := vb_ HO356 hb; replace HO360 := nb_ HO360 hb; replace HO363 := nb_ HO363 hb; replace BK347 := bb_ BK347 hb; replace HB := Aside0.mk (below_step bsw_ hb); (try clear hb); (try clear hb2); (try clear hk); (try clear hi)))
         go_ret
         exact ⟨by first | rfl | (simp [errW_none, errW_some] <;> rfl) | (simp [*, errW_none, errW_some] <;> rfl), bsw_⟩
       · replace c81 := Bool.eq_false_iff.mpr c81
         subst c81
         rw [if_neg (show ¬ (false = true) by decide)] at H
         exact absurd (Option.some.inj H) (by rw [HT.out]; decide)

/-- THE ONE PURE STATEMENT of handshakerlaw15_SleepTwice. -/
def handshakerlaw15_SleepTwice.Pure : Prop := ∀ (l0 : List (S26)) (x1 : S26), l0.length ≤ maxLen → l0.length * 72 ≤ 140737488351232 → (∀ y ∈ l0, wfS26 y) → wfS26 x1 → ∃ k, handshakerlaw15_SleepTwice.f k l0 x1.f0 x1.f1 x1.f2 x1.f3 x1.f4 = some true

end Go.Proofs.Ytjnkpocfmpbpoaa.Sa
