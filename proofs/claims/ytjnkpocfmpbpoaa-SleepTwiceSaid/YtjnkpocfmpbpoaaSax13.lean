-- PRINTED by print.py (a twelfth state) out of the translation. Not trusted: Lean checks it.
import Derived.Test.YtjnkpocfmpbpoaaSax0
import Derived.Test.YtjnkpocfmpbpoaaSax12
namespace Go.Proofs.Ytjnkpocfmpbpoaa.Sa
open Go.Proofs.Ytjnkpocfmpbpoaa.Ho
open Go.RowKit Go.Proofs.YtjnkpocfmpbpoaaW.PrintWords Go.Proofs.YtjnkpocfmpbpoaaW.PrintLast Go.Proofs.YtjnkpocfmpbpoaaW.PrintMore
attribute [local go_sem] max2_int min2_int max_two min_two max_three min_three max_four min_four   -- for this text's walks alone
set_option linter.unusedVariables false
set_option linter.unusedSimpArgs false

/-! ### handshakerref15_Same: function 27 -/
def handshakerref15_Same.l0 : Nat → List (S39) → List (S39) → Int → Option (Bool)
 | 0, _, _, _ => none
 | k + 1, x0, x1, x5 => if x5 < (x0.length : Int) then (if 0 ≤ x5 then (if x5 < (x1.length : Int) then ((handshakerref15_One2.f k ((rd_T39 x0 x5).f0) ((rd_T39 x0 x5).f1) ((rd_T39 x0 x5).f2) ((rd_T39 x0 x5).f3) ((rd_T39 x0 x5).f4) ((rd_T39 x1 x5).f0) ((rd_T39 x1 x5).f1) ((rd_T39 x1 x5).f2) ((rd_T39 x1 x5).f3) ((rd_T39 x1 x5).f4)).bind fun t346 => (if t346 = true then (handshakerref15_Same.l0 k x0 x1 (wrap64 (x5 + 1))) else (some false))) else (none)) else (none)) else (some true)
def handshakerref15_Same.f (k : Nat) (l0 : List (S39)) (l1 : List (S39)) : Option (Bool) := if (l0.length : Int) = (l1.length : Int) then (handshakerref15_Same.l0 k l0 l1 0) else (some false)
theorem handshakerref15_Same.mono_l : ∀ k, (∀ y0 y1 y2, LeO (handshakerref15_Same.l0 k y0 y1 y2) (handshakerref15_Same.l0 (k + 1) y0 y1 y2))
 | 0 => fun _ _ _ r h => by simp [handshakerref15_Same.l0] at h
 | k + 1 => by
  have ih0 := handshakerref15_Same.mono_l k
  · intro y0 y1 y2
    unfold handshakerref15_Same.l0
    repeat' first
    | (with_reducible exact ih0 _ _ _)
    | (with_reducible exact handshakerref15_One2.mono _ _ _ _ _ _ _ _ _ _ _)
    | (with_reducible exact LeO.refl _)
    | (with_reducible exact LeO.none _)
    | (with_reducible refine LeO.ite ?_ ?_)
    | (with_reducible refine LeO.bind ?_ (fun _ => ?_))
    | exact ih0 _ _ _
    | exact handshakerref15_One2.mono _ _ _ _ _ _ _ _ _ _ _
    | exact LeO.none _
    | refine LeO.ite ?_ ?_
    | refine LeO.bind ?_ (fun _ => ?_)
theorem handshakerref15_Same.mono : ∀ a0 a1 k, LeO (handshakerref15_Same.f k a0 a1) (handshakerref15_Same.f (k + 1) a0 a1) := by
 intro a0 a1 k
 have ih0 := handshakerref15_Same.mono_l k
 unfold handshakerref15_Same.f
 repeat' first
  | (with_reducible exact ih0 _ _ _)
  | (with_reducible exact handshakerref15_One2.mono _ _ _ _ _ _ _ _ _ _ _)
  | (with_reducible exact LeO.refl _)
  | (with_reducible exact LeO.none _)
  | (with_reducible refine LeO.ite ?_ ?_)
  | (with_reducible refine LeO.bind ?_ (fun _ => ?_))
  | exact ih0 _ _ _
  | exact handshakerref15_One2.mono _ _ _ _ _ _ _ _ _ _ _
  | exact LeO.none _
  | refine LeO.ite ?_ ?_
  | refine LeO.bind ?_ (fun _ => ?_)
def handshakerref15_Same.T6 : Bool × List (List Nat × List Nat) := (true, [([], []), ([], []), ([0, 1], [0, 1]), ([2], [2]), ([], []), ([], []), ([4, 5], [4, 5]), ([6], [6]), ([3, 7], [3, 7]), ([8, 8, 0, 1, 2, 3, 4, 5, 6, 7, 8], [8])])
def handshakerref15_Same.B6 : List Nat := [0, 0, 3, 7, 0, 0, 48, 112, 255, 511]
theorem handshakerref15_Same.tab6 : rtab .any (opsOf Try.f27 6) = handshakerref15_Same.T6 := by kernel_rfl
theorem handshakerref15_Same.bits6 : waitsOk handshakerref15_Same.T6.2 handshakerref15_Same.B6 = true := by kernel_rfl
set_option maxHeartbeats 8000000 in
set_option maxRecDepth 100000 in
theorem handshakerref15_Same.calls (k : Nat) (A0 : Option Addr) (c0 : Nat) (l0 : List (S39)) (A1 : Option Addr) (c1 : Nat) (l1 : List (S39)) (r : Bool) (w : World) (hr0 : Kd.C k39 w A0 l0.length l0) (hc0 : l0.length ≤ c0) (hr1 : Kd.C k39 w A1 l1.length l1) (hc1 : l1.length ≤ c1) (h : handshakerref15_Same.f k l0 l1 = some r) :
 Calls Try.prog 27 #[.slice A0 l0.length c0, .slice A1 l1.length c1] w fun e w' => e = .returned (.bool r) ∧ Below w.heap.size w w' := by
 have hu39 := Try.underlying39
 have HR0 := Aside0.mk hr0
 have HC0 := Aside0.mk hc0
 clear hr0 hc0
 have HR1 := Aside0.mk hr1
 have HC1 := Aside0.mk hc1
 clear hr1 hc1
 have HB := Aside0.mk (Below.refl w.heap.size w)
 have H : (if (l0.length : Int) = (l1.length : Int) then (handshakerref15_Same.l0 k l0 l1 0) else (some false)) = some r := h
 clear h
 by_cases c3 : (l0.length : Int) = (l1.length : Int)
 · rw [if_pos c3] at H
   have c3b0 : ((l0.length : Int) == (l1.length : Int)) = true := beq_iff_eq.mpr c3
   have c3b1 : ((l0.length : Int) != (l1.length : Int)) = false := bne_eq_false_iff_eq.mpr c3
   have c3b2 : (l0.length == l1.length) = true := by first | simpa using c3 | (simp at c3 ⊢; omega)
   clear c3
   have H' := Aside0.mk H
   clear H
   go_enter Try.func27, Try.ntmps27
   go_wp2
   go_loopg [5] k (fun kq v5 w' => ∃ (x5_1 : Int), v5 = .int .i64 x5_1 ∧ Aside0 (handshakerref15_Same.l0 kq l0 l1 x5_1 = some r) ∧ Aside0 (kq ≤ k) ∧ Aside0 (Below w.heap.size w w'))
   case atStart => exact ⟨(0), (by first | rfl | (simp; done) | (simp [*]; done)), H', ⟨Nat.le_refl _⟩, ⟨bsv_⟩⟩
   case round =>
    clear H'
    try clear c1
    try clear c2
    try clear p2
    try clear c3
    try clear c3b0
    try clear c3b1
    try clear c3b2
    obtain ⟨x5_1, rfl, HA, HK1, HB⟩ := hrel
    cases gk with
    | zero => exact absurd HA.out (by simp [handshakerref15_Same.l0])
    | succ k1 =>
     have H := HA.out
     clear HA
     simp only [handshakerref15_Same.l0] at H
     by_cases c4 : x5_1 < (l0.length : Int)
     · rw [if_pos c4] at H
       have c4b0 : decide (x5_1 < (l0.length : Int)) = true := decide_eq_true c4
       clear c4
       by_cases c5 : 0 ≤ x5_1
       · rw [if_pos c5] at H
         have c5b0 : decide (0 ≤ x5_1) = true := decide_eq_true c5
         clear c5
         by_cases c6 : x5_1 < (l1.length : Int)
         · rw [if_pos c6] at H
           have c6b0 : decide (x5_1 < (l1.length : Int)) = true := decide_eq_true c6
           clear c6
           replace H := Option.bind_eq_some_iff.mp H
           obtain ⟨t346, A70, H⟩ := H
           have A7 := Aside0.mk A70
           clear A70
           by_cases c8 : t346 = true
           · subst c8
             rw [if_pos rfl] at H
             have H' := Aside0.mk H
             clear H
             try go_wp2
             have n0_ := Aside0.mk (below_drew1 HB.out)
             clear HB
             have HB := n0_
             clear n0_
             have p344 : 0 ≤ (x5_1 : Int) := oda_
             have q344 : x5_1 < (l0.length : Int) := oda_
             obtain ⟨ad344, A344_3, c344_3, A344_4, c344_4, e344, hx344_0, hx344_1, hx344_2, hx344_3, hx344_4, hl344_3, hi344_3, hl344_4, hi344_4⟩ := at_T39 HR0.out x5_1 p344 q344
             have hw344_4 := hx344_4
             have hw344_3 := hx344_3
             have hw344_2 := hx344_2
             have hw344_1 := hx344_1
             have hw344_0 := hx344_0
             cases e344
             replace hx344_0 := (HB.out.cell (World.block_lt_of_cell? w _ hx344_0)).trans hx344_0
             replace hx344_1 := (HB.out.cell (World.block_lt_of_cell? w _ hx344_1)).trans hx344_1
             replace hx344_2 := (HB.out.cell (World.block_lt_of_cell? w _ hx344_2)).trans hx344_2
             replace hx344_3 := (HB.out.cell (World.block_lt_of_cell? w _ hx344_3)).trans hx344_3
             replace hx344_4 := (HB.out.cell (World.block_lt_of_cell? w _ hx344_4)).trans hx344_4
             have HR344_3 := Aside0.mk hi344_3
             have HC344_3 := Aside0.mk hl344_3
             clear hi344_3 hl344_3
             have HR344_4 := Aside0.mk hi344_4
             have HC344_4 := Aside0.mk hl344_4
             clear hi344_4 hl344_4
             replace p344 := eq_true p344
             replace q344 := eq_true q344
             have p345 : 0 ≤ (x5_1 : Int) := oda_
             have q345 : x5_1 < (l1.length : Int) := oda_
             obtain ⟨ad345, A345_3, c345_3, A345_4, c345_4, e345, hx345_0, hx345_1, hx345_2, hx345_3, hx345_4, hl345_3, hi345_3, hl345_4, hi345_4⟩ := at_T39 HR1.out x5_1 p345 q345
             have hw345_4 := hx345_4
             have hw345_3 := hx345_3
             have hw345_2 := hx345_2
             have hw345_1 := hx345_1
             have hw345_0 := hx345_0
             cases e345
             replace hx345_0 := (HB.out.cell (World.block_lt_of_cell? w _ hx345_0)).trans hx345_0
             replace hx345_1 := (HB.out.cell (World.block_lt_of_cell? w _ hx345_1)).trans hx345_1
             replace hx345_2 := (HB.out.cell (World.block_lt_of_cell? w _ hx345_2)).trans hx345_2
             replace hx345_3 := (HB.out.cell (World.block_lt_of_cell? w _ hx345_3)).trans hx345_3
             replace hx345_4 := (HB.out.cell (World.block_lt_of_cell? w _ hx345_4)).trans hx345_4
             have HR345_3 := Aside0.mk hi345_3
             have HC345_3 := Aside0.mk hl345_3
             clear hi345_3 hl345_3
             have HR345_4 := Aside0.mk hi345_4
             have HC345_4 := Aside0.mk hl345_4
             clear hi345_4 hl345_4
             replace p345 := eq_true p345
             replace q345 := eq_true q345
             refine start_ (n := 10) (S := fun w' => w'.cell? (ad344.add ((x5_1).toNat * 5)) = some (.int .i64 ((rd_T39 l0 x5_1).f0)) ∧ w'.cell? ⟨(ad344.add ((x5_1).toNat * 5)).block, (ad344.add ((x5_1).toNat * 5)).off + 1, none⟩ = some (.int .i64 ((rd_T39 l0 x5_1).f1)) ∧ w'.cell? ⟨(ad344.add ((x5_1).toNat * 5)).block, (ad344.add ((x5_1).toNat * 5)).off + 2, none⟩ = some (.int .i64 ((rd_T39 l0 x5_1).f2)) ∧ w'.cell? ⟨(ad344.add ((x5_1).toNat * 5)).block, (ad344.add ((x5_1).toNat * 5)).off + 3, none⟩ = some (.slice A344_3 ((rd_T39 l0 x5_1).f3).length c344_3) ∧ w'.cell? ⟨(ad344.add ((x5_1).toNat * 5)).block, (ad344.add ((x5_1).toNat * 5)).off + 4, none⟩ = some (.slice A344_4 ((rd_T39 l0 x5_1).f4).length c344_4) ∧ w'.cell? (ad345.add ((x5_1).toNat * 5)) = some (.int .i64 ((rd_T39 l1 x5_1).f0)) ∧ w'.cell? ⟨(ad345.add ((x5_1).toNat * 5)).block, (ad345.add ((x5_1).toNat * 5)).off + 1, none⟩ = some (.int .i64 ((rd_T39 l1 x5_1).f1)) ∧ w'.cell? ⟨(ad345.add ((x5_1).toNat * 5)).block, (ad345.add ((x5_1).toNat * 5)).off + 2, none⟩ = some (.int .i64 ((rd_T39 l1 x5_1).f2)) ∧ w'.cell? ⟨(ad345.add ((x5_1).toNat * 5)).block, (ad345.add ((x5_1).toNat * 5)).off + 3, none⟩ = some (.slice A345_3 ((rd_T39 l1 x5_1).f3).length c345_3) ∧ w'.cell? ⟨(ad345.add ((x5_1).toNat * 5)).block, (ad345.add ((x5_1).toNat * 5)).off + 4, none⟩ = some (.slice A345_4 ((rd_T39 l1 x5_1).f4).length c345_4)) (ds := []) #[false, false, false, false, false, false, false, false, false, false] (by kernel_rfl) rfl rfl ⟨((HB.out.cell (World.block_lt_of_cell? w _ hw344_0)).trans hw344_0), ((HB.out.cell (World.block_lt_of_cell? w _ hw344_1)).trans hw344_1), ((HB.out.cell (World.block_lt_of_cell? w _ hw344_2)).trans hw344_2), ((HB.out.cell (World.block_lt_of_cell? w _ hw344_3)).trans hw344_3), ((HB.out.cell (World.block_lt_of_cell? w _ hw344_4)).trans hw344_4), ((HB.out.cell (World.block_lt_of_cell? w _ hw345_0)).trans hw345_0), ((HB.out.cell (World.block_lt_of_cell? w _ hw345_1)).trans hw345_1), ((HB.out.cell (World.block_lt_of_cell? w _ hw345_2)).trans hw345_2), ((HB.out.cell (World.block_lt_of_cell? w _ hw345_3)).trans hw345_3), ((HB.out.cell (World.block_lt_of_cell? w _ hw345_4)).trans hw345_4)⟩ (fun hHeld => ?_); refine with_tabW handshakerref15_Same.tab6 handshakerref15_Same.bits6 (fun HT_ HW_ => ?_)
             generalize wr.drew = w9 at HB HR344_3 HR344_4 HR345_3 HR345_4 hx344_0 hx344_1 hx344_2 hx344_3 hx344_4 hx345_0 hx345_1 hx345_2 hx345_3 hx345_4 hHeld ⊢
             refine pure_ (i := 0) (N := some 18) (v := ?_) (a' := ?_) #[true, false, false, false, false, false, false, false, false, false] rfl rfl (any_of HT_.out (by kernel_rfl)) (fun _ _ _ h => h) (Or.inl ⟨by rfl, ?_⟩) ?_ ?_
             rotate_left
             · intro w'
               go_simp
               with_reducible rfl
             rotate_left
             · simp only [Act.put, List.setIfInBounds_toArray, List.set_cons_zero, List.set_cons_succ, i64_w, i32_w]
               rfl
             refine pure_ (i := 1) (N := some 19) (v := ?_) (a' := ?_) #[true, true, false, false, false, false, false, false, false, false] rfl rfl (any_of HT_.out (by kernel_rfl)) (fun _ _ _ h => h) (Or.inl ⟨by rfl, ?_⟩) ?_ ?_
             rotate_left
             · intro w'
               go_simp
               with_reducible rfl
             rotate_left
             · simp only [Act.put, List.setIfInBounds_toArray, List.set_cons_zero, List.set_cons_succ, i64_w, i32_w]
               rfl
             refine pure_ (i := 2) (N := some 20) (v := ?_) (a' := ?_) #[true, true, true, false, false, false, false, false, false, false] rfl rfl (any_of HT_.out (by kernel_rfl)) (fun _ _ _ h => h) (Or.inl ⟨by rfl, ?_⟩) ?_ ?_
             rotate_left
             · intro w'
               go_simp
               with_reducible rfl
             rotate_left
             · simp only [Act.put, List.setIfInBounds_toArray, List.set_cons_zero, List.set_cons_succ, i64_w, i32_w]
               rfl
             refine pure_ (i := 4) (N := some 22) (v := ?_) (a' := ?_) #[true, true, true, false, true, false, false, false, false, false] rfl rfl (any_of HT_.out (by kernel_rfl)) (fun _ _ _ h => h) (Or.inl ⟨by rfl, ?_⟩) ?_ ?_
             rotate_left
             · intro w'
               go_simp
               with_reducible rfl
             rotate_left
             · simp only [Act.put, List.setIfInBounds_toArray, List.set_cons_zero, List.set_cons_succ, i64_w, i32_w]
               rfl
             refine pure_ (i := 5) (N := some 23) (v := ?_) (a' := ?_) #[true, true, true, false, true, true, false, false, false, false] rfl rfl (any_of HT_.out (by kernel_rfl)) (fun _ _ _ h => h) (Or.inl ⟨by rfl, ?_⟩) ?_ ?_
             rotate_left
             · intro w'
               go_simp
               with_reducible rfl
             rotate_left
             · simp only [Act.put, List.setIfInBounds_toArray, List.set_cons_zero, List.set_cons_succ, i64_w, i32_w]
               rfl
             refine pure_ (i := 6) (N := some 24) (v := ?_) (a' := ?_) #[true, true, true, false, true, true, true, false, false, false] rfl rfl (any_of HT_.out (by kernel_rfl)) (fun _ _ _ h => h) (Or.inl ⟨by rfl, ?_⟩) ?_ ?_
             rotate_left
             · intro w'
               go_simp
               with_reducible rfl
             rotate_left
             · simp only [Act.put, List.setIfInBounds_toArray, List.set_cons_zero, List.set_cons_succ, i64_w, i32_w]
               rfl
             refine take_ (i := 3) (N := some 21) (v := ?_) (a' := ?_) #[true, true, true, true, true, true, true, false, false, false] rfl rfl (take_ofW HT_.out HW_.out (by kernel_rfl)) (fun _ _ _ h => h) (Or.inl ⟨by rfl, ?_⟩) hHeld ?_ ?_
             rotate_left
             · rintro w' ⟨s0, s1, s2, s3, s4, s5, s6, s7, s8, s9⟩
               go_simp
               with_reducible rfl
             rotate_left
             · simp only [Act.put, List.setIfInBounds_toArray, List.set_cons_zero, List.set_cons_succ, i64_w, i32_w]
               rfl
             refine take_ (i := 7) (N := some 25) (v := ?_) (a' := ?_) #[true, true, true, true, true, true, true, true, false, false] rfl rfl (take_ofW HT_.out HW_.out (by kernel_rfl)) (fun _ _ _ h => h) (Or.inl ⟨by rfl, ?_⟩) hHeld ?_ ?_
             rotate_left
             · rintro w' ⟨s0, s1, s2, s3, s4, s5, s6, s7, s8, s9⟩
               go_simp
               with_reducible rfl
             rotate_left
             · simp only [Act.put, List.setIfInBounds_toArray, List.set_cons_zero, List.set_cons_succ, i64_w, i32_w]
               rfl
             refine one_ (i := 8) (N := some 26) #[true, true, true, true, true, true, true, true, true, false] rfl rfl (one_of HT_.out (by kernel_rfl)) (by decide) (fun K hK => ?_)
             refine goes_ Try.func25 (by kernel_rfl) rfl #[.agg #[.int .i64 ((rd_T39 l0 x5_1).f0), .int .i64 ((rd_T39 l0 x5_1).f1), .int .i64 ((rd_T39 l0 x5_1).f2), .slice A344_3 ((rd_T39 l0 x5_1).f3).length c344_3, .slice A344_4 ((rd_T39 l0 x5_1).f4).length c344_4], .agg #[.int .i64 ((rd_T39 l1 x5_1).f0), .int .i64 ((rd_T39 l1 x5_1).f1), .int .i64 ((rd_T39 l1 x5_1).f2), .slice A345_3 ((rd_T39 l1 x5_1).f3).length c345_3, .slice A345_4 ((rd_T39 l1 x5_1).f4).length c345_4]] (by rfl) rfl rfl (by (try simp only [List.map_toArray, List.map_cons, List.map_nil]); first | done | rfl | (simp only [List.length_drop, List.length_take]; rfl)) ?_
             with_reducible refine (handshakerref15_One2.calls k1 ((rd_T39 l0 x5_1).f0) ((rd_T39 l0 x5_1).f1) ((rd_T39 l0 x5_1).f2) _ _ ((rd_T39 l0 x5_1).f3) _ _ ((rd_T39 l0 x5_1).f4) ((rd_T39 l1 x5_1).f0) ((rd_T39 l1 x5_1).f1) ((rd_T39 l1 x5_1).f2) _ _ ((rd_T39 l1 x5_1).f3) _ _ ((rd_T39 l1 x5_1).f4) true _ ?side1 ?side2 ?side3 ?side4 ?side5 ?side6 ?side7 ?side8 A7.out).mono ?_
             (case side1 => repeat (first | exact (Kd.C_below HR344_3.out HB.out) | with_reducible first | refine Kd.C_alloc ?_ _ | refine Kd.C_drewN ?_ _ | refine Kd.C_drew ?_))
             (case side2 => exact HC344_3.out)
             (case side3 => repeat (first | exact (Kd.C_below HR344_4.out HB.out) | with_reducible first | refine Kd.C_alloc ?_ _ | refine Kd.C_drewN ?_ _ | refine Kd.C_drew ?_))
             (case side4 => exact HC344_4.out)
             (case side5 => repeat (first | exact (Kd.C_below HR345_3.out HB.out) | with_reducible first | refine Kd.C_alloc ?_ _ | refine Kd.C_drewN ?_ _ | refine Kd.C_drew ?_))
             (case side6 => exact HC345_3.out)
             (case side7 => repeat (first | exact (Kd.C_below HR345_4.out HB.out) | with_reducible first | refine Kd.C_alloc ?_ _ | refine Kd.C_drewN ?_ _ | refine Kd.C_drew ?_))
             (case side8 => exact HC345_4.out)
             rintro e w10 ⟨rfl, hb⟩
             refine ⟨_, rfl, ?_⟩
             have n0_ := Aside0.mk (bst_ hb)
             clear HB
             have HB := n0_
             clear n0_
             (try clear hb)
             (try clear hb2)
             (try clear hk)
             (try clear hi)
             refine hK.out _ _ ⟨((HB.out.cell (World.block_lt_of_cell? w _ hw344_0)).trans hw344_0), ((HB.out.cell (World.block_lt_of_cell? w _ hw344_1)).trans hw344_1), ((HB.out.cell (World.block_lt_of_cell? w _ hw344_2)).trans hw344_2), ((HB.out.cell (World.block_lt_of_cell? w _ hw344_3)).trans hw344_3), ((HB.out.cell (World.block_lt_of_cell? w _ hw344_4)).trans hw344_4), ((HB.out.cell (World.block_lt_of_cell? w _ hw345_0)).trans hw345_0), ((HB.out.cell (World.block_lt_of_cell? w _ hw345_1)).trans hw345_1), ((HB.out.cell (World.block_lt_of_cell? w _ hw345_2)).trans hw345_2), ((HB.out.cell (World.block_lt_of_cell? w _ hw345_3)).trans hw345_3), ((HB.out.cell (World.block_lt_of_cell? w _ hw345_4)).trans hw345_4)⟩ (fun hHeld => ?_)
             clear hK K
             refine norm_ (a' := ?_) ?_ ?_
             rotate_left
             · show Act.put _ (some 26) _ = _
               simp only [Act.put, List.setIfInBounds_toArray, List.set_cons_zero, List.set_cons_succ, i64_w, i32_w]
               rfl
             refine pure_ (i := 9) (N := some 6) (v := ?_) (a' := ?_) #[true, true, true, true, true, true, true, true, true, true] rfl rfl (any_of HT_.out (by kernel_rfl)) (fun _ _ _ h => h) (Or.inl ⟨by rfl, ?_⟩) ?_ ?_
             rotate_left
             · intro w'
               go_simp
               with_reducible rfl
             rotate_left
             · simp only [Act.put, List.setIfInBounds_toArray, List.set_cons_zero, List.set_cons_succ, i64_w, i32_w]
               rfl
             refine done_ (done_of HT_.out (by kernel_rfl)) ?_
             try go_wp2
             go_roundg k1
             case measure => have := HK1.out; omega
             case rel => exact ⟨(wrap64 (x5_1 + 1)), (by first | rfl | (simp; done) | (simp [*]; done)), H', ⟨by have := HK1.out; omega⟩, ⟨bsv_⟩⟩
           · replace c8 := Bool.eq_false_iff.mpr c8
             subst c8
             rw [if_neg (show ¬ (false = true) by decide)] at H
             obtain rfl := Option.some.inj H
             try go_wp2
             have n0_ := Aside0.mk (below_drew1 HB.out)
             clear HB
             have HB := n0_
             clear n0_
             have p344 : 0 ≤ (x5_1 : Int) := oda_
             have q344 : x5_1 < (l0.length : Int) := oda_
             obtain ⟨ad344, A344_3, c344_3, A344_4, c344_4, e344, hx344_0, hx344_1, hx344_2, hx344_3, hx344_4, hl344_3, hi344_3, hl344_4, hi344_4⟩ := at_T39 HR0.out x5_1 p344 q344
             have hw344_4 := hx344_4
             have hw344_3 := hx344_3
             have hw344_2 := hx344_2
             have hw344_1 := hx344_1
             have hw344_0 := hx344_0
             cases e344
             replace hx344_0 := (HB.out.cell (World.block_lt_of_cell? w _ hx344_0)).trans hx344_0
             replace hx344_1 := (HB.out.cell (World.block_lt_of_cell? w _ hx344_1)).trans hx344_1
             replace hx344_2 := (HB.out.cell (World.block_lt_of_cell? w _ hx344_2)).trans hx344_2
             replace hx344_3 := (HB.out.cell (World.block_lt_of_cell? w _ hx344_3)).trans hx344_3
             replace hx344_4 := (HB.out.cell (World.block_lt_of_cell? w _ hx344_4)).trans hx344_4
             have HR344_3 := Aside0.mk hi344_3
             have HC344_3 := Aside0.mk hl344_3
             clear hi344_3 hl344_3
             have HR344_4 := Aside0.mk hi344_4
             have HC344_4 := Aside0.mk hl344_4
             clear hi344_4 hl344_4
             replace p344 := eq_true p344
             replace q344 := eq_true q344
             have p345 : 0 ≤ (x5_1 : Int) := oda_
             have q345 : x5_1 < (l1.length : Int) := oda_
             obtain ⟨ad345, A345_3, c345_3, A345_4, c345_4, e345, hx345_0, hx345_1, hx345_2, hx345_3, hx345_4, hl345_3, hi345_3, hl345_4, hi345_4⟩ := at_T39 HR1.out x5_1 p345 q345
             have hw345_4 := hx345_4
             have hw345_3 := hx345_3
             have hw345_2 := hx345_2
             have hw345_1 := hx345_1
             have hw345_0 := hx345_0
             cases e345
             replace hx345_0 := (HB.out.cell (World.block_lt_of_cell? w _ hx345_0)).trans hx345_0
             replace hx345_1 := (HB.out.cell (World.block_lt_of_cell? w _ hx345_1)).trans hx345_1
             replace hx345_2 := (HB.out.cell (World.block_lt_of_cell? w _ hx345_2)).trans hx345_2
             replace hx345_3 := (HB.out.cell (World.block_lt_of_cell? w _ hx345_3)).trans hx345_3
             replace hx345_4 := (HB.out.cell (World.block_lt_of_cell? w _ hx345_4)).trans hx345_4
             have HR345_3 := Aside0.mk hi345_3
             have HC345_3 := Aside0.mk hl345_3
             clear hi345_3 hl345_3
             have HR345_4 := Aside0.mk hi345_4
             have HC345_4 := Aside0.mk hl345_4
             clear hi345_4 hl345_4
             replace p345 := eq_true p345
             replace q345 := eq_true q345
             refine start_ (n := 10) (S := fun w' => w'.cell? (ad344.add ((x5_1).toNat * 5)) = some (.int .i64 ((rd_T39 l0 x5_1).f0)) ∧ w'.cell? ⟨(ad344.add ((x5_1).toNat * 5)).block, (ad344.add ((x5_1).toNat * 5)).off + 1, none⟩ = some (.int .i64 ((rd_T39 l0 x5_1).f1)) ∧ w'.cell? ⟨(ad344.add ((x5_1).toNat * 5)).block, (ad344.add ((x5_1).toNat * 5)).off + 2, none⟩ = some (.int .i64 ((rd_T39 l0 x5_1).f2)) ∧ w'.cell? ⟨(ad344.add ((x5_1).toNat * 5)).block, (ad344.add ((x5_1).toNat * 5)).off + 3, none⟩ = some (.slice A344_3 ((rd_T39 l0 x5_1).f3).length c344_3) ∧ w'.cell? ⟨(ad344.add ((x5_1).toNat * 5)).block, (ad344.add ((x5_1).toNat * 5)).off + 4, none⟩ = some (.slice A344_4 ((rd_T39 l0 x5_1).f4).length c344_4) ∧ w'.cell? (ad345.add ((x5_1).toNat * 5)) = some (.int .i64 ((rd_T39 l1 x5_1).f0)) ∧ w'.cell? ⟨(ad345.add ((x5_1).toNat * 5)).block, (ad345.add ((x5_1).toNat * 5)).off + 1, none⟩ = some (.int .i64 ((rd_T39 l1 x5_1).f1)) ∧ w'.cell? ⟨(ad345.add ((x5_1).toNat * 5)).block, (ad345.add ((x5_1).toNat * 5)).off + 2, none⟩ = some (.int .i64 ((rd_T39 l1 x5_1).f2)) ∧ w'.cell? ⟨(ad345.add ((x5_1).toNat * 5)).block, (ad345.add ((x5_1).toNat * 5)).off + 3, none⟩ = some (.slice A345_3 ((rd_T39 l1 x5_1).f3).length c345_3) ∧ w'.cell? ⟨(ad345.add ((x5_1).toNat * 5)).block, (ad345.add ((x5_1).toNat * 5)).off + 4, none⟩ = some (.slice A345_4 ((rd_T39 l1 x5_1).f4).length c345_4)) (ds := []) #[false, false, false, false, false, false, false, false, false, false] (by kernel_rfl) rfl rfl ⟨((HB.out.cell (World.block_lt_of_cell? w _ hw344_0)).trans hw344_0), ((HB.out.cell (World.block_lt_of_cell? w _ hw344_1)).trans hw344_1), ((HB.out.cell (World.block_lt_of_cell? w _ hw344_2)).trans hw344_2), ((HB.out.cell (World.block_lt_of_cell? w _ hw344_3)).trans hw344_3), ((HB.out.cell (World.block_lt_of_cell? w _ hw344_4)).trans hw344_4), ((HB.out.cell (World.block_lt_of_cell? w _ hw345_0)).trans hw345_0), ((HB.out.cell (World.block_lt_of_cell? w _ hw345_1)).trans hw345_1), ((HB.out.cell (World.block_lt_of_cell? w _ hw345_2)).trans hw345_2), ((HB.out.cell (World.block_lt_of_cell? w _ hw345_3)).trans hw345_3), ((HB.out.cell (World.block_lt_of_cell? w _ hw345_4)).trans hw345_4)⟩ (fun hHeld => ?_); refine with_tabW handshakerref15_Same.tab6 handshakerref15_Same.bits6 (fun HT_ HW_ => ?_)
             generalize wr.drew = w11 at HB HR344_3 HR344_4 HR345_3 HR345_4 hx344_0 hx344_1 hx344_2 hx344_3 hx344_4 hx345_0 hx345_1 hx345_2 hx345_3 hx345_4 hHeld ⊢
             refine pure_ (i := 0) (N := some 18) (v := ?_) (a' := ?_) #[true, false, false, false, false, false, false, false, false, false] rfl rfl (any_of HT_.out (by kernel_rfl)) (fun _ _ _ h => h) (Or.inl ⟨by rfl, ?_⟩) ?_ ?_
             rotate_left
             · intro w'
               go_simp
               with_reducible rfl
             rotate_left
             · simp only [Act.put, List.setIfInBounds_toArray, List.set_cons_zero, List.set_cons_succ, i64_w, i32_w]
               rfl
             refine pure_ (i := 1) (N := some 19) (v := ?_) (a' := ?_) #[true, true, false, false, false, false, false, false, false, false] rfl rfl (any_of HT_.out (by kernel_rfl)) (fun _ _ _ h => h) (Or.inl ⟨by rfl, ?_⟩) ?_ ?_
             rotate_left
             · intro w'
               go_simp
               with_reducible rfl
             rotate_left
             · simp only [Act.put, List.setIfInBounds_toArray, List.set_cons_zero, List.set_cons_succ, i64_w, i32_w]
               rfl
             refine pure_ (i := 2) (N := some 20) (v := ?_) (a' := ?_) #[true, true, true, false, false, false, false, false, false, false] rfl rfl (any_of HT_.out (by kernel_rfl)) (fun _ _ _ h => h) (Or.inl ⟨by rfl, ?_⟩) ?_ ?_
             rotate_left
             · intro w'
               go_simp
               with_reducible rfl
             rotate_left
             · simp only [Act.put, List.setIfInBounds_toArray, List.set_cons_zero, List.set_cons_succ, i64_w, i32_w]
               rfl
             refine pure_ (i := 4) (N := some 22) (v := ?_) (a' := ?_) #[true, true, true, false, true, false, false, false, false, false] rfl rfl (any_of HT_.out (by kernel_rfl)) (fun _ _ _ h => h) (Or.inl ⟨by rfl, ?_⟩) ?_ ?_
             rotate_left
             · intro w'
               go_simp
               with_reducible rfl
             rotate_left
             · simp only [Act.put, List.setIfInBounds_toArray, List.set_cons_zero, List.set_cons_succ, i64_w, i32_w]
               rfl
             refine pure_ (i := 5) (N := some 23) (v := ?_) (a' := ?_) #[true, true, true, false, true, true, false, false, false, false] rfl rfl (any_of HT_.out (by kernel_rfl)) (fun _ _ _ h => h) (Or.inl ⟨by rfl, ?_⟩) ?_ ?_
             rotate_left
             · intro w'
               go_simp
               with_reducible rfl
             rotate_left
             · simp only [Act.put, List.setIfInBounds_toArray, List.set_cons_zero, List.set_cons_succ, i64_w, i32_w]
               rfl
             refine pure_ (i := 6) (N := some 24) (v := ?_) (a' := ?_) #[true, true, true, false, true, true, true, false, false, false] rfl rfl (any_of HT_.out (by kernel_rfl)) (fun _ _ _ h => h) (Or.inl ⟨by rfl, ?_⟩) ?_ ?_
             rotate_left
             · intro w'
               go_simp
               with_reducible rfl
             rotate_left
             · simp only [Act.put, List.setIfInBounds_toArray, List.set_cons_zero, List.set_cons_succ, i64_w, i32_w]
               rfl
             refine take_ (i := 3) (N := some 21) (v := ?_) (a' := ?_) #[true, true, true, true, true, true, true, false, false, false] rfl rfl (take_ofW HT_.out HW_.out (by kernel_rfl)) (fun _ _ _ h => h) (Or.inl ⟨by rfl, ?_⟩) hHeld ?_ ?_
             rotate_left
             · rintro w' ⟨s0, s1, s2, s3, s4, s5, s6, s7, s8, s9⟩
               go_simp
               with_reducible rfl
             rotate_left
             · simp only [Act.put, List.setIfInBounds_toArray, List.set_cons_zero, List.set_cons_succ, i64_w, i32_w]
               rfl
             refine take_ (i := 7) (N := some 25) (v := ?_) (a' := ?_) #[true, true, true, true, true, true, true, true, false, false] rfl rfl (take_ofW HT_.out HW_.out (by kernel_rfl)) (fun _ _ _ h => h) (Or.inl ⟨by rfl, ?_⟩) hHeld ?_ ?_
             rotate_left
             · rintro w' ⟨s0, s1, s2, s3, s4, s5, s6, s7, s8, s9⟩
               go_simp
               with_reducible rfl
             rotate_left
             · simp only [Act.put, List.setIfInBounds_toArray, List.set_cons_zero, List.set_cons_succ, i64_w, i32_w]
               rfl
             refine one_ (i := 8) (N := some 26) #[true, true, true, true, true, true, true, true, true, false] rfl rfl (one_of HT_.out (by kernel_rfl)) (by decide) (fun K hK => ?_)
             refine goes_ Try.func25 (by kernel_rfl) rfl #[.agg #[.int .i64 ((rd_T39 l0 x5_1).f0), .int .i64 ((rd_T39 l0 x5_1).f1), .int .i64 ((rd_T39 l0 x5_1).f2), .slice A344_3 ((rd_T39 l0 x5_1).f3).length c344_3, .slice A344_4 ((rd_T39 l0 x5_1).f4).length c344_4], .agg #[.int .i64 ((rd_T39 l1 x5_1).f0), .int .i64 ((rd_T39 l1 x5_1).f1), .int .i64 ((rd_T39 l1 x5_1).f2), .slice A345_3 ((rd_T39 l1 x5_1).f3).length c345_3, .slice A345_4 ((rd_T39 l1 x5_1).f4).length c345_4]] (by rfl) rfl rfl (by (try simp only [List.map_toArray, List.map_cons, List.map_nil]); first | done | rfl | (simp only [List.length_drop, List.length_take]; rfl)) ?_
             with_reducible refine (handshakerref15_One2.calls k1 ((rd_T39 l0 x5_1).f0) ((rd_T39 l0 x5_1).f1) ((rd_T39 l0 x5_1).f2) _ _ ((rd_T39 l0 x5_1).f3) _ _ ((rd_T39 l0 x5_1).f4) ((rd_T39 l1 x5_1).f0) ((rd_T39 l1 x5_1).f1) ((rd_T39 l1 x5_1).f2) _ _ ((rd_T39 l1 x5_1).f3) _ _ ((rd_T39 l1 x5_1).f4) false _ ?side1 ?side2 ?side3 ?side4 ?side5 ?side6 ?side7 ?side8 A7.out).mono ?_
             (case side1 => repeat (first | exact (Kd.C_below HR344_3.out HB.out) | with_reducible first | refine Kd.C_alloc ?_ _ | refine Kd.C_drewN ?_ _ | refine Kd.C_drew ?_))
             (case side2 => exact HC344_3.out)
             (case side3 => repeat (first | exact (Kd.C_below HR344_4.out HB.out) | with_reducible first | refine Kd.C_alloc ?_ _ | refine Kd.C_drewN ?_ _ | refine Kd.C_drew ?_))
             (case side4 => exact HC344_4.out)
             (case side5 => repeat (first | exact (Kd.C_below HR345_3.out HB.out) | with_reducible first | refine Kd.C_alloc ?_ _ | refine Kd.C_drewN ?_ _ | refine Kd.C_drew ?_))
             (case side6 => exact HC345_3.out)
             (case side7 => repeat (first | exact (Kd.C_below HR345_4.out HB.out) | with_reducible first | refine Kd.C_alloc ?_ _ | refine Kd.C_drewN ?_ _ | refine Kd.C_drew ?_))
             (case side8 => exact HC345_4.out)
             rintro e w12 ⟨rfl, hb⟩
             refine ⟨_, rfl, ?_⟩
             have n0_ := Aside0.mk (bst_ hb)
             clear HB
             have HB := n0_
             clear n0_
             (try clear hb)
             (try clear hb2)
             (try clear hk)
             (try clear hi)
             refine hK.out _ _ ⟨((HB.out.cell (World.block_lt_of_cell? w _ hw344_0)).trans hw344_0), ((HB.out.cell (World.block_lt_of_cell? w _ hw344_1)).trans hw344_1), ((HB.out.cell (World.block_lt_of_cell? w _ hw344_2)).trans hw344_2), ((HB.out.cell (World.block_lt_of_cell? w _ hw344_3)).trans hw344_3), ((HB.out.cell (World.block_lt_of_cell? w _ hw344_4)).trans hw344_4), ((HB.out.cell (World.block_lt_of_cell? w _ hw345_0)).trans hw345_0), ((HB.out.cell (World.block_lt_of_cell? w _ hw345_1)).trans hw345_1), ((HB.out.cell (World.block_lt_of_cell? w _ hw345_2)).trans hw345_2), ((HB.out.cell (World.block_lt_of_cell? w _ hw345_3)).trans hw345_3), ((HB.out.cell (World.block_lt_of_cell? w _ hw345_4)).trans hw345_4)⟩ (fun hHeld => ?_)
             clear hK K
             refine norm_ (a' := ?_) ?_ ?_
             rotate_left
             · show Act.put _ (some 26) _ = _
               simp only [Act.put, List.setIfInBounds_toArray, List.set_cons_zero, List.set_cons_succ, i64_w, i32_w]
               rfl
             refine pure_ (i := 9) (N := some 6) (v := ?_) (a' := ?_) #[true, true, true, true, true, true, true, true, true, true] rfl rfl (any_of HT_.out (by kernel_rfl)) (fun _ _ _ h => h) (Or.inl ⟨by rfl, ?_⟩) ?_ ?_
             rotate_left
             · intro w'
               go_simp
               with_reducible rfl
             rotate_left
             · simp only [Act.put, List.setIfInBounds_toArray, List.set_cons_zero, List.set_cons_succ, i64_w, i32_w]
               rfl
             refine done_ (done_of HT_.out (by kernel_rfl)) ?_
             try go_wp2
             go_ret
             exact ⟨by first | rfl | (simp [errW_none, errW_some] <;> rfl) | (simp [*, errW_none, errW_some] <;> rfl), bsv_⟩
         · rw [if_neg c6] at H
           exact absurd H (by simp)
       · rw [if_neg c5] at H
         exact absurd H (by simp)
     · rw [if_neg c4] at H
       have c4b0 : decide (x5_1 < (l0.length : Int)) = false := decide_eq_false c4
       clear c4
       obtain rfl := Option.some.inj H
       go_wp2
       go_ret
       exact ⟨by first | rfl | (simp [errW_none, errW_some] <;> rfl) | (simp [*, errW_none, errW_some] <;> rfl), bsv_⟩
 · rw [if_neg c3] at H
   have c3b0 : ((l0.length : Int) == (l1.length : Int)) = false := beq_eq_false_iff_ne.mpr c3
   have c3b1 : ((l0.length : Int) != (l1.length : Int)) = true := bne_iff_ne.mpr c3
   have c3b2 : (l0.length == l1.length) = false := by first | simpa using c3 | (simp at c3 ⊢; omega)
   obtain rfl := Option.some.inj H
   go_enter Try.func27, Try.ntmps27
   go_wp2
   go_ret
   exact ⟨by first | rfl | (simp [errW_none, errW_some] <;> rfl) | (simp [*, errW_none, errW_some] <;> rfl), bsv_⟩

/-! ### wfS62 -/
def wfS62 (x : S62) : Prop := (Lit.int .i64 x.f0).wf = true ∧ (Lit.int .i64 x.f1).wf = true

/-! ### wfS80 -/
def wfS80 (x : S80) : Prop := (Lit.int .i64 x.f0).wf = true ∧ (Lit.int .i64 x.f1).wf = true

/-! ### wfS26 -/
def wfS26 (x : S26) : Prop := (Lit.int .i64 x.f0).wf = true ∧ (Lit.int .i64 x.f1).wf = true ∧ (Lit.int .i64 x.f2).wf = true ∧ (x.f3.length ≤ maxLen ∧ ∀ y ∈ x.f3, wfS62 y) ∧ (x.f4.length ≤ maxLen ∧ ∀ y ∈ x.f4, wfS80 y)

end Go.Proofs.Ytjnkpocfmpbpoaa.Sa
