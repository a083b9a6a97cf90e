-- PRINTED by print.py (a twelfth state) out of the translation. Not trusted: Lean checks it.
import Derived.Test.YtihcnbhcemkncaaBx0
import Derived.Test.YtihcnbhcemkncaaBx8
import Derived.Test.YtihcnbhcemkncaaBx9
namespace Go.Proofs.Ytihcnbhcemkncaa.B
open Go.Proofs.Ytihcnbhcemkncaa.Ho
open Go.RowKit Go.Proofs.YtihcnbhcemkncaaW.PrintWords Go.Proofs.YtihcnbhcemkncaaW.PrintLast Go.Proofs.YtihcnbhcemkncaaW.PrintMore
attribute [local go_sem] max2_int min2_int max_two min_two max_three min_three max_four min_four   -- for this text's walks alone
set_option linter.unusedVariables false
set_option linter.unusedSimpArgs false

/-! ### handshakerref22_Right: function 23 -/
def handshakerref22_Right.l0 : Nat → List (S39) → Int → Option (Bool)
 | 0, _, _ => none
 | k + 1, x0, x3 => if x3 < (x0.length : Int) then (if 0 ≤ x3 then ((handshakerref22_one.f k ((rd_T39 x0 x3).f0) ((rd_T39 x0 x3).f1)).bind fun t305 => (if x3 ≤ (x0.length : Int) then ((handshakerref22_free.f k (x0.take (x3 : Int).toNat) ((rd_T39 x0 x3).f0) ((rd_T39 x0 x3).f1)).bind fun t311 => (if t305 = true then (if t311 = true then (handshakerref22_Right.l0 k x0 (wrap64 (x3 + 1))) else (some false)) else (some false))) else (none))) else (none)) else (some (decide ((x0.length : Int) < 17)))
def handshakerref22_Right.f (k : Nat) (l0 : List (S39)) : Option (Bool) := handshakerref22_Right.l0 k l0 0
theorem handshakerref22_Right.mono_l : ∀ k, (∀ y0 y1, LeO (handshakerref22_Right.l0 k y0 y1) (handshakerref22_Right.l0 (k + 1) y0 y1))
 | 0 => fun _ _ r h => by simp [handshakerref22_Right.l0] at h
 | k + 1 => by
  have ih0 := handshakerref22_Right.mono_l k
  · intro y0 y1
    unfold handshakerref22_Right.l0
    repeat' first
    | (with_reducible exact ih0 _ _)
    | (with_reducible exact handshakerref22_free.mono _ _ _ _)
    | (with_reducible exact handshakerref22_one.mono _ _ _)
    | (with_reducible exact LeO.refl _)
    | (with_reducible exact LeO.none _)
    | (with_reducible refine LeO.ite ?_ ?_)
    | (with_reducible refine LeO.bind ?_ (fun _ => ?_))
    | exact ih0 _ _
    | exact handshakerref22_free.mono _ _ _ _
    | exact handshakerref22_one.mono _ _ _
    | exact LeO.none _
    | refine LeO.ite ?_ ?_
    | refine LeO.bind ?_ (fun _ => ?_)
theorem handshakerref22_Right.mono : ∀ a0 k, LeO (handshakerref22_Right.f k a0) (handshakerref22_Right.f (k + 1) a0) := by
 intro a0 k
 have ih0 := handshakerref22_Right.mono_l k
 unfold handshakerref22_Right.f
 repeat' first
  | (with_reducible exact ih0 _ _)
  | (with_reducible exact handshakerref22_free.mono _ _ _ _)
  | (with_reducible exact handshakerref22_one.mono _ _ _)
  | (with_reducible exact LeO.refl _)
  | (with_reducible exact LeO.none _)
  | (with_reducible refine LeO.ite ?_ ?_)
  | (with_reducible refine LeO.bind ?_ (fun _ => ?_))
  | exact ih0 _ _
  | exact handshakerref22_free.mono _ _ _ _
  | exact handshakerref22_one.mono _ _ _
  | exact LeO.none _
  | refine LeO.ite ?_ ?_
  | refine LeO.bind ?_ (fun _ => ?_)
def handshakerref22_Right.T4 : Bool × List (List Nat × List Nat) := (true, [([], []), ([], []), ([0, 1], [0, 1]), ([2], [2]), ([3], [3]), ([], []), ([], []), ([5, 6], [5, 6]), ([], []), ([], []), ([8, 9], [8, 9]), ([10], [10]), ([7, 11, 4], [7, 11]), ([4, 12, 0, 1, 2, 3, 4], [4]), ([12, 13, 0, 1, 2, 3, 4, 5, 6, 7, 8, 9, 10, 11, 12, 13], [12])])
def handshakerref22_Right.B4 : List Nat := [0, 0, 3, 7, 15, 0, 0, 96, 0, 0, 768, 1792, 4095, 8191, 16383]
theorem handshakerref22_Right.tab4 : rtab .any (opsOf Try.f23 4) = handshakerref22_Right.T4 := by kernel_rfl
theorem handshakerref22_Right.bits4 : waitsOk handshakerref22_Right.T4.2 handshakerref22_Right.B4 = true := by kernel_rfl
set_option maxHeartbeats 8000000 in
set_option maxRecDepth 100000 in
theorem handshakerref22_Right.calls (k : Nat) (A0 : Option Addr) (c0 : Nat) (l0 : List (S39)) (r : Bool) (w : World) (hr0 : Kd.C k39 w A0 l0.length l0) (hc0 : l0.length ≤ c0) (h : handshakerref22_Right.f k l0 = some r) :
 Calls Try.prog 23 #[.slice A0 l0.length c0] w fun e w' => e = .returned (.bool r) ∧ Below w.heap.size w w' := by
 have hu39 := Try.underlying39
 have HR0 := Aside0.mk hr0
 have HC0 := Aside0.mk hc0
 clear hr0 hc0
 have HB := Aside0.mk (Below.refl w.heap.size w)
 have H : (handshakerref22_Right.l0 k l0 0) = some r := h
 clear h
 have H' := Aside0.mk H
 clear H
 go_enter Try.func23, Try.ntmps23
 go_wp2
 go_loopg [3] k (fun kq v3 w' => ∃ (x3_1 : Int), v3 = .int .i64 x3_1 ∧ Aside0 (handshakerref22_Right.l0 kq l0 x3_1 = some r) ∧ Aside0 (kq ≤ k) ∧ Aside0 (Below w.heap.size w w'))
 case atStart => exact ⟨(0), (by first | rfl | (simp; done) | (simp [*]; done)), H', ⟨Nat.le_refl _⟩, ⟨bsv_⟩⟩
 case round =>
  clear H'
  obtain ⟨x3_1, rfl, HA, HK1, HB⟩ := hrel
  cases gk with
  | zero => exact absurd HA.out (by simp [handshakerref22_Right.l0])
  | succ k1 =>
   have H := HA.out
   clear HA
   simp only [handshakerref22_Right.l0] at H
   by_cases c2 : x3_1 < (l0.length : Int)
   · rw [if_pos c2] at H
     have c2b0 : decide (x3_1 < (l0.length : Int)) = true := decide_eq_true c2
     clear c2
     by_cases c3 : 0 ≤ x3_1
     · rw [if_pos c3] at H
       have c3b0 : decide (0 ≤ x3_1) = true := decide_eq_true c3
       clear c3
       replace H := Option.bind_eq_some_iff.mp H
       obtain ⟨t305, A40, H⟩ := H
       have A4 := Aside0.mk A40
       clear A40
       have c5b0 := eq_true (oda_ : 0 ≤ x3_1)
       by_cases c6 : x3_1 ≤ (l0.length : Int)
       · rw [if_pos c6] at H
         have c6b0 := eq_true c6
         have c6b1 : decide (x3_1 ≤ (l0.length : Int)) = true := decide_eq_true c6
         clear c6
         obtain ⟨y306, hy306⟩ : ∃ y_ : List (S39), y_ = (l0.take (x3_1 : Int).toNat) := ⟨_, rfl⟩
         replace H : ((handshakerref22_free.f k1 y306 ((rd_T39 l0 x3_1).f0) ((rd_T39 l0 x3_1).f1)).bind fun t311 => (if t305 = true then (if t311 = true then (handshakerref22_Right.l0 k1 l0 (wrap64 (x3_1 + 1))) else (some false)) else (some false))) = some r := by first | (rw [hy306]; with_reducible exact H) | (have H2_ := (Option.bind_some _ _).symm.trans H; rw [hy306]; with_reducible exact H2_) | (have H2_ := (Option.bind_some _ _).symm.trans H; with_reducible exact H2_) | with_reducible exact H | (rw [hy306]; exact H) | exact H
         have Ny306 := Aside0.mk hy306
         clear hy306
         replace H := Option.bind_eq_some_iff.mp H
         obtain ⟨t311, A70, H⟩ := H
         have A7 := Aside0.mk A70
         clear A70
         by_cases c8 : t305 = true
         · subst c8
           rw [if_pos rfl] at H
           by_cases c9 : t311 = true
           · subst c9
             rw [if_pos rfl] at H
             have H' := Aside0.mk H
             clear H
             try go_wp2
             have n0_ := Aside0.mk (below_drew1 HB.out)
             clear HB
             have HB := n0_
             clear n0_
             have p304 : 0 ≤ (x3_1 : Int) := oda_
             have q304 : x3_1 < (l0.length : Int) := oda_
             obtain ⟨ad304, A304_1, c304_1, e304, hx304_0, hx304_1, hl304_1, hi304_1⟩ := at_T39 HR0.out x3_1 p304 q304
             have hw304_1 := hx304_1
             have hw304_0 := hx304_0
             cases e304
             replace hx304_0 := (HB.out.cell (World.block_lt_of_cell? w _ hx304_0)).trans hx304_0
             replace hx304_1 := (HB.out.cell (World.block_lt_of_cell? w _ hx304_1)).trans hx304_1
             have HR304_1 := Aside0.mk hi304_1
             have HC304_1 := Aside0.mk hl304_1
             clear hi304_1 hl304_1
             replace p304 := eq_true p304
             replace q304 := eq_true q304
             have q11 : (x3_1 : Int) ≤ ((l0.length : Int) : Int) := oda_
             obtain ⟨i011, hi011, _, hsz11, _⟩ := info_parts info39
             have hroom11 : l0.length ≤ c0 := HC0.out
             have hC11 : Kd.C k39 _ (some ad304) l0.length l0 := HR0.out
             have hcut11 := cut_to (P := Try.prog) 30 39 .i64 Try.underlying30 hi011 (some ad304) l0.length c0 x3_1 (oda_) q11 hroom11
             have hr11 := Kd.C_take (m := (x3_1 : Int).toNat) hC11 (by omega)
             have hy11 : y306.length = (x3_1 : Int).toNat := (by rw [Ny306.out, List.length_take]; omega)
             rw [← Ny306.out] at hr11
             rw [← hy11] at hcut11
             have HR309 := Aside0.mk hr11
             have HC309 := Aside0.mk (show y306.length ≤ c0 from by omega)
             clear hr11 hC11 hroom11 hi011 hsz11
             have KY11 := Aside0.mk hy11
             clear hy11
             replace q11 := eq_true q11
             have p310 : 0 ≤ (x3_1 : Int) := oda_
             have q310 : x3_1 < (l0.length : Int) := oda_
             obtain ⟨ad310, A310_1, c310_1, e310, hx310_0, hx310_1, hl310_1, hi310_1⟩ := at_T39 HR0.out x3_1 p310 q310
             have hw310_1 := hx310_1
             have hw310_0 := hx310_0
             obtain rfl : ad304 = ad310 := (by injection e310)
             replace hx310_0 := (HB.out.cell (World.block_lt_of_cell? w _ hx310_0)).trans hx310_0
             replace hx310_1 := (HB.out.cell (World.block_lt_of_cell? w _ hx310_1)).trans hx310_1
             have HR310_1 := Aside0.mk hi310_1
             have HC310_1 := Aside0.mk hl310_1
             clear hi310_1 hl310_1
             replace p310 := eq_true p310
             replace q310 := eq_true q310
             have ea_ := Option.some.inj (hx304_1.symm.trans hx310_1)
             injection ea_ with ea_ en_ ec_
             subst ea_
             subst ec_
             clear en_
             refine start_ (n := 15) (S := fun w' => w'.cell? (ad304.add ((x3_1).toNat * 2)) = some (.int .i64 ((rd_T39 l0 x3_1).f0)) ∧ w'.cell? ⟨(ad304.add ((x3_1).toNat * 2)).block, (ad304.add ((x3_1).toNat * 2)).off + 1, none⟩ = some (.slice A304_1 ((rd_T39 l0 x3_1).f1).length c304_1) ∧ w'.cell? (ad304.add ((x3_1).toNat * 2)) = some (.int .i64 ((rd_T39 l0 x3_1).f0)) ∧ w'.cell? ⟨(ad304.add ((x3_1).toNat * 2)).block, (ad304.add ((x3_1).toNat * 2)).off + 1, none⟩ = some (.slice A304_1 ((rd_T39 l0 x3_1).f1).length c304_1)) (ds := []) #[false, false, false, false, false, false, false, false, false, false, false, false, false, false, false] (by kernel_rfl) rfl rfl ⟨((HB.out.cell (World.block_lt_of_cell? w _ hw304_0)).trans hw304_0), ((HB.out.cell (World.block_lt_of_cell? w _ hw304_1)).trans hw304_1), ((HB.out.cell (World.block_lt_of_cell? w _ hw310_0)).trans hw310_0), ((HB.out.cell (World.block_lt_of_cell? w _ hw310_1)).trans hw310_1)⟩ (fun hHeld => ?_); refine with_tabW handshakerref22_Right.tab4 handshakerref22_Right.bits4 (fun HT_ HW_ => ?_)
             generalize wr.drew = w10 at HB HR304_1 HR309 HR310_1 hx304_0 hx304_1 hx310_0 hx310_1 hHeld ⊢
             refine pure_ (i := 0) (N := some 12) (v := ?_) (a' := ?_) #[true, false, false, false, false, false, false, false, false, false, false, false, false, false, false] rfl rfl (any_of HT_.out (by kernel_rfl)) (fun _ _ _ h => h) (Or.inl ⟨by rfl, ?_⟩) ?_ ?_
             rotate_left
             · intro w'
               go_simp
               with_reducible rfl
             rotate_left
             · simp only [Act.put, List.setIfInBounds_toArray, List.set_cons_zero, List.set_cons_succ, i64_w, i32_w]
               rfl
             refine pure_ (i := 1) (N := some 13) (v := ?_) (a' := ?_) #[true, true, false, false, false, false, false, false, false, false, false, false, false, false, false] rfl rfl (any_of HT_.out (by kernel_rfl)) (fun _ _ _ h => h) (Or.inl ⟨by rfl, ?_⟩) ?_ ?_
             rotate_left
             · intro w'
               go_simp
               with_reducible rfl
             rotate_left
             · simp only [Act.put, List.setIfInBounds_toArray, List.set_cons_zero, List.set_cons_succ, i64_w, i32_w]
               rfl
             refine pure_ (i := 2) (N := some 14) (v := ?_) (a' := ?_) #[true, true, true, false, false, false, false, false, false, false, false, false, false, false, false] rfl rfl (any_of HT_.out (by kernel_rfl)) (fun _ _ _ h => h) (Or.inl ⟨by rfl, ?_⟩) ?_ ?_
             rotate_left
             · intro w'
               go_simp
               with_reducible rfl
             rotate_left
             · simp only [Act.put, List.setIfInBounds_toArray, List.set_cons_zero, List.set_cons_succ, i64_w, i32_w]
               rfl
             refine pure_ (i := 5) (N := some 17) (v := ?_) (a' := ?_) #[true, true, true, false, false, true, false, false, false, false, false, false, false, false, false] rfl rfl (any_of HT_.out (by kernel_rfl)) (fun _ _ _ h => h) (Or.inl ⟨by rfl, ?_⟩) ?_ ?_
             rotate_left
             · intro w'
               go_simp
               with_reducible rfl
             rotate_left
             · simp only [Act.put, List.setIfInBounds_toArray, List.set_cons_zero, List.set_cons_succ, i64_w, i32_w]
               rfl
             refine pure_ (i := 6) (N := some 18) (v := ?_) (a' := ?_) #[true, true, true, false, false, true, true, false, false, false, false, false, false, false, false] rfl rfl (any_of HT_.out (by kernel_rfl)) (fun _ _ _ h => h) (Or.inl ⟨by rfl, ?_⟩) ?_ ?_
             rotate_left
             · intro w'
               go_simp
               with_reducible rfl
             rotate_left
             · simp only [Act.put, List.setIfInBounds_toArray, List.set_cons_zero, List.set_cons_succ, i64_w, i32_w]
               rfl
             refine pure_ (i := 7) (N := some 19) (v := ?_) (a' := ?_) #[true, true, true, false, false, true, true, true, false, false, false, false, false, false, false] rfl rfl (any_of HT_.out (by kernel_rfl)) (fun _ _ _ h => h) (Or.inl ⟨by rfl, ?_⟩) ?_ ?_
             rotate_left
             · intro w'
               go_simp
               with_reducible rfl
             rotate_left
             · simp only [Act.put, List.setIfInBounds_toArray, List.set_cons_zero, List.set_cons_succ, i64_w, i32_w]
               rfl
             refine pure_ (i := 8) (N := some 20) (v := ?_) (a' := ?_) #[true, true, true, false, false, true, true, true, true, false, false, false, false, false, false] rfl rfl (any_of HT_.out (by kernel_rfl)) (fun _ _ _ h => h) (Or.inl ⟨by rfl, ?_⟩) ?_ ?_
             rotate_left
             · intro w'
               go_simp
               with_reducible rfl
             rotate_left
             · simp only [Act.put, List.setIfInBounds_toArray, List.set_cons_zero, List.set_cons_succ, i64_w, i32_w]
               rfl
             refine pure_ (i := 9) (N := some 21) (v := ?_) (a' := ?_) #[true, true, true, false, false, true, true, true, true, true, false, false, false, false, false] rfl rfl (any_of HT_.out (by kernel_rfl)) (fun _ _ _ h => h) (Or.inl ⟨by rfl, ?_⟩) ?_ ?_
             rotate_left
             · intro w'
               go_simp
               with_reducible rfl
             rotate_left
             · simp only [Act.put, List.setIfInBounds_toArray, List.set_cons_zero, List.set_cons_succ, i64_w, i32_w]
               rfl
             refine pure_ (i := 10) (N := some 22) (v := ?_) (a' := ?_) #[true, true, true, false, false, true, true, true, true, true, true, false, false, false, false] rfl rfl (any_of HT_.out (by kernel_rfl)) (fun _ _ _ h => h) (Or.inl ⟨by rfl, ?_⟩) ?_ ?_
             rotate_left
             · intro w'
               go_simp
               with_reducible rfl
             rotate_left
             · simp only [Act.put, List.setIfInBounds_toArray, List.set_cons_zero, List.set_cons_succ, i64_w, i32_w]
               rfl
             refine take_ (i := 3) (N := some 15) (v := ?_) (a' := ?_) #[true, true, true, true, false, true, true, true, true, true, true, false, false, false, false] rfl rfl (take_ofW HT_.out HW_.out (by kernel_rfl)) (fun _ _ _ h => h) (Or.inl ⟨by rfl, ?_⟩) hHeld ?_ ?_
             rotate_left
             · rintro w' ⟨s0, s1, s2, s3⟩
               go_simp
               with_reducible rfl
             rotate_left
             · simp only [Act.put, List.setIfInBounds_toArray, List.set_cons_zero, List.set_cons_succ, i64_w, i32_w]
               rfl
             refine take_ (i := 11) (N := some 23) (v := ?_) (a' := ?_) #[true, true, true, true, false, true, true, true, true, true, true, true, false, false, false] rfl rfl (take_ofW HT_.out HW_.out (by kernel_rfl)) (fun _ _ _ h => h) (Or.inl ⟨by rfl, ?_⟩) hHeld ?_ ?_
             rotate_left
             · rintro w' ⟨s0, s1, s2, s3⟩
               go_simp
               with_reducible rfl
             rotate_left
             · simp only [Act.put, List.setIfInBounds_toArray, List.set_cons_zero, List.set_cons_succ, i64_w, i32_w]
               rfl
             refine one_ (i := 4) (N := some 16) #[true, true, true, true, true, true, true, true, true, true, true, true, false, false, false] rfl rfl (one_of HT_.out (by kernel_rfl)) (by decide) (fun K hK => ?_)
             refine goes_ Try.func41 (by kernel_rfl) rfl #[.agg #[.int .i64 ((rd_T39 l0 x3_1).f0), .slice A304_1 ((rd_T39 l0 x3_1).f1).length c304_1]] (by rfl) rfl rfl (by (try simp only [List.map_toArray, List.map_cons, List.map_nil]); first | done | rfl | (simp only [List.length_drop, List.length_take]; rfl)) ?_
             with_reducible refine (handshakerref22_one.calls k1 ((rd_T39 l0 x3_1).f0) _ _ ((rd_T39 l0 x3_1).f1) true _ ?side1 ?side2 A4.out).mono ?_
             (case side1 => repeat (first | exact (Kd.C_below HR304_1.out HB.out) | with_reducible first | refine Kd.C_alloc ?_ _ | refine Kd.C_drewN ?_ _ | refine Kd.C_drew ?_))
             (case side2 => exact HC304_1.out)
             rintro e w12 ⟨rfl, hb⟩
             refine ⟨_, rfl, ?_⟩
             have n0_ := Aside0.mk (bst_ hb)
             clear HB
             have HB := n0_
             clear n0_
             (try clear hb)
             (try clear hb2)
             (try clear hk)
             (try clear hi)
             refine hK.out _ _ ⟨((HB.out.cell (World.block_lt_of_cell? w _ hw304_0)).trans hw304_0), ((HB.out.cell (World.block_lt_of_cell? w _ hw304_1)).trans hw304_1), ((HB.out.cell (World.block_lt_of_cell? w _ hw310_0)).trans hw310_0), ((HB.out.cell (World.block_lt_of_cell? w _ hw310_1)).trans hw310_1)⟩ (fun hHeld => ?_)
             clear hK K
             refine norm_ (a' := ?_) ?_ ?_
             rotate_left
             · show Act.put _ (some 16) _ = _
               simp only [Act.put, List.setIfInBounds_toArray, List.set_cons_zero, List.set_cons_succ, i64_w, i32_w]
               rfl
             refine one_ (i := 12) (N := some 24) #[true, true, true, true, true, true, true, true, true, true, true, true, true, false, false] rfl rfl (one_of HT_.out (by kernel_rfl)) (by decide) (fun K hK => ?_)
             refine goes_ Try.func42 (by kernel_rfl) rfl #[.slice (some ad304) y306.length c0, .agg #[.int .i64 ((rd_T39 l0 x3_1).f0), .slice A304_1 ((rd_T39 l0 x3_1).f1).length c304_1]] (by rfl) rfl rfl (by (try simp only [List.map_toArray, List.map_cons, List.map_nil]); first | done | rfl | (simp only [List.length_drop, List.length_take]; rfl)) ?_
             with_reducible refine (handshakerref22_free.calls k1 _ _ y306 ((rd_T39 l0 x3_1).f0) _ _ ((rd_T39 l0 x3_1).f1) true _ ?side1 ?side2 ?side3 ?side4 A7.out).mono ?_
             (case side1 => repeat (first | exact (Kd.C_below HR309.out HB.out) | with_reducible first | refine Kd.C_alloc ?_ _ | refine Kd.C_drewN ?_ _ | refine Kd.C_drew ?_))
             (case side2 => exact HC309.out)
             (case side3 => repeat (first | exact (Kd.C_below HR310_1.out HB.out) | with_reducible first | refine Kd.C_alloc ?_ _ | refine Kd.C_drewN ?_ _ | refine Kd.C_drew ?_))
             (case side4 => exact HC310_1.out)
             rintro e w13 ⟨rfl, hb⟩
             refine ⟨_, rfl, ?_⟩
             have n0_ := Aside0.mk (bst_ hb)
             clear HB
             have HB := n0_
             clear n0_
             (try clear hb)
             (try clear hb2)
             (try clear hk)
             (try clear hi)
             refine hK.out _ _ ⟨((HB.out.cell (World.block_lt_of_cell? w _ hw304_0)).trans hw304_0), ((HB.out.cell (World.block_lt_of_cell? w _ hw304_1)).trans hw304_1), ((HB.out.cell (World.block_lt_of_cell? w _ hw310_0)).trans hw310_0), ((HB.out.cell (World.block_lt_of_cell? w _ hw310_1)).trans hw310_1)⟩ (fun hHeld => ?_)
             clear hK K
             refine norm_ (a' := ?_) ?_ ?_
             rotate_left
             · show Act.put _ (some 24) _ = _
               simp only [Act.put, List.setIfInBounds_toArray, List.set_cons_zero, List.set_cons_succ, i64_w, i32_w]
               rfl
             refine pure_ (i := 13) (N := some 4) (v := ?_) (a' := ?_) #[true, true, true, true, true, true, true, true, true, true, true, true, true, true, false] rfl rfl (any_of HT_.out (by kernel_rfl)) (fun _ _ _ h => h) (Or.inl ⟨by rfl, ?_⟩) ?_ ?_
             rotate_left
             · intro w'
               go_simp
               with_reducible rfl
             rotate_left
             · simp only [Act.put, List.setIfInBounds_toArray, List.set_cons_zero, List.set_cons_succ, i64_w, i32_w]
               rfl
             refine pure_ (i := 14) (N := some 5) (v := ?_) (a' := ?_) #[true, true, true, true, true, true, true, true, true, true, true, true, true, true, true] rfl rfl (any_of HT_.out (by kernel_rfl)) (fun _ _ _ h => h) (Or.inl ⟨by rfl, ?_⟩) ?_ ?_
             rotate_left
             · intro w'
               go_simp
               with_reducible rfl
             rotate_left
             · simp only [Act.put, List.setIfInBounds_toArray, List.set_cons_zero, List.set_cons_succ, i64_w, i32_w]
               rfl
             refine done_ (done_of HT_.out (by kernel_rfl)) ?_
             try go_wp2
             go_roundg k1
             case measure => have := HK1.out; omega
             case rel => exact ⟨(wrap64 (x3_1 + 1)), (by first | rfl | (simp; done) | (simp [*]; done)), H', ⟨by have := HK1.out; omega⟩, ⟨bsv_⟩⟩
           · replace c9 := Bool.eq_false_iff.mpr c9
             subst c9
             rw [if_neg (show ¬ (false = true) by decide)] at H
             obtain rfl := Option.some.inj H
             try go_wp2
             have n0_ := Aside0.mk (below_drew1 HB.out)
             clear HB
             have HB := n0_
             clear n0_
             have p304 : 0 ≤ (x3_1 : Int) := oda_
             have q304 : x3_1 < (l0.length : Int) := oda_
             obtain ⟨ad304, A304_1, c304_1, e304, hx304_0, hx304_1, hl304_1, hi304_1⟩ := at_T39 HR0.out x3_1 p304 q304
             have hw304_1 := hx304_1
             have hw304_0 := hx304_0
             cases e304
             replace hx304_0 := (HB.out.cell (World.block_lt_of_cell? w _ hx304_0)).trans hx304_0
             replace hx304_1 := (HB.out.cell (World.block_lt_of_cell? w _ hx304_1)).trans hx304_1
             have HR304_1 := Aside0.mk hi304_1
             have HC304_1 := Aside0.mk hl304_1
             clear hi304_1 hl304_1
             replace p304 := eq_true p304
             replace q304 := eq_true q304
             have q15 : (x3_1 : Int) ≤ ((l0.length : Int) : Int) := oda_
             obtain ⟨i015, hi015, _, hsz15, _⟩ := info_parts info39
             have hroom15 : l0.length ≤ c0 := HC0.out
             have hC15 : Kd.C k39 _ (some ad304) l0.length l0 := HR0.out
             have hcut15 := cut_to (P := Try.prog) 30 39 .i64 Try.underlying30 hi015 (some ad304) l0.length c0 x3_1 (oda_) q15 hroom15
             have hr15 := Kd.C_take (m := (x3_1 : Int).toNat) hC15 (by omega)
             have hy15 : y306.length = (x3_1 : Int).toNat := (by rw [Ny306.out, List.length_take]; omega)
             rw [← Ny306.out] at hr15
             rw [← hy15] at hcut15
             have HR309 := Aside0.mk hr15
             have HC309 := Aside0.mk (show y306.length ≤ c0 from by omega)
             clear hr15 hC15 hroom15 hi015 hsz15
             have KY15 := Aside0.mk hy15
             clear hy15
             replace q15 := eq_true q15
             have p310 : 0 ≤ (x3_1 : Int) := oda_
             have q310 : x3_1 < (l0.length : Int) := oda_
             obtain ⟨ad310, A310_1, c310_1, e310, hx310_0, hx310_1, hl310_1, hi310_1⟩ := at_T39 HR0.out x3_1 p310 q310
             have hw310_1 := hx310_1
             have hw310_0 := hx310_0
             obtain rfl : ad304 = ad310 := (by injection e310)
             replace hx310_0 := (HB.out.cell (World.block_lt_of_cell? w _ hx310_0)).trans hx310_0
             replace hx310_1 := (HB.out.cell (World.block_lt_of_cell? w _ hx310_1)).trans hx310_1
             have HR310_1 := Aside0.mk hi310_1
             have HC310_1 := Aside0.mk hl310_1
             clear hi310_1 hl310_1
             replace p310 := eq_true p310
             replace q310 := eq_true q310
             have ea_ := Option.some.inj (hx304_1.symm.trans hx310_1)
             injection ea_ with ea_ en_ ec_
             subst ea_
             subst ec_
             clear en_
             refine start_ (n := 15) (S := fun w' => w'.cell? (ad304.add ((x3_1).toNat * 2)) = some (.int .i64 ((rd_T39 l0 x3_1).f0)) ∧ w'.cell? ⟨(ad304.add ((x3_1).toNat * 2)).block, (ad304.add ((x3_1).toNat * 2)).off + 1, none⟩ = some (.slice A304_1 ((rd_T39 l0 x3_1).f1).length c304_1) ∧ w'.cell? (ad304.add ((x3_1).toNat * 2)) = some (.int .i64 ((rd_T39 l0 x3_1).f0)) ∧ w'.cell? ⟨(ad304.add ((x3_1).toNat * 2)).block, (ad304.add ((x3_1).toNat * 2)).off + 1, none⟩ = some (.slice A304_1 ((rd_T39 l0 x3_1).f1).length c304_1)) (ds := []) #[false, false, false, false, false, false, false, false, false, false, false, false, false, false, false] (by kernel_rfl) rfl rfl ⟨((HB.out.cell (World.block_lt_of_cell? w _ hw304_0)).trans hw304_0), ((HB.out.cell (World.block_lt_of_cell? w _ hw304_1)).trans hw304_1), ((HB.out.cell (World.block_lt_of_cell? w _ hw310_0)).trans hw310_0), ((HB.out.cell (World.block_lt_of_cell? w _ hw310_1)).trans hw310_1)⟩ (fun hHeld => ?_); refine with_tabW handshakerref22_Right.tab4 handshakerref22_Right.bits4 (fun HT_ HW_ => ?_)
             generalize wr.drew = w14 at HB HR304_1 HR309 HR310_1 hx304_0 hx304_1 hx310_0 hx310_1 hHeld ⊢
             refine pure_ (i := 0) (N := some 12) (v := ?_) (a' := ?_) #[true, false, false, false, false, false, false, false, false, false, false, false, false, false, false] rfl rfl (any_of HT_.out (by kernel_rfl)) (fun _ _ _ h => h) (Or.inl ⟨by rfl, ?_⟩) ?_ ?_
             rotate_left
             · intro w'
               go_simp
               with_reducible rfl
             rotate_left
             · simp only [Act.put, List.setIfInBounds_toArray, List.set_cons_zero, List.set_cons_succ, i64_w, i32_w]
               rfl
             refine pure_ (i := 1) (N := some 13) (v := ?_) (a' := ?_) #[true, true, false, false, false, false, false, false, false, false, false, false, false, false, false] rfl rfl (any_of HT_.out (by kernel_rfl)) (fun _ _ _ h => h) (Or.inl ⟨by rfl, ?_⟩) ?_ ?_
             rotate_left
             · intro w'
               go_simp
               with_reducible rfl
             rotate_left
             · simp only [Act.put, List.setIfInBounds_toArray, List.set_cons_zero, List.set_cons_succ, i64_w, i32_w]
               rfl
             refine pure_ (i := 2) (N := some 14) (v := ?_) (a' := ?_) #[true, true, true, false, false, false, false, false, false, false, false, false, false, false, false] rfl rfl (any_of HT_.out (by kernel_rfl)) (fun _ _ _ h => h) (Or.inl ⟨by rfl, ?_⟩) ?_ ?_
             rotate_left
             · intro w'
               go_simp
               with_reducible rfl
             rotate_left
             · simp only [Act.put, List.setIfInBounds_toArray, List.set_cons_zero, List.set_cons_succ, i64_w, i32_w]
               rfl
             refine pure_ (i := 5) (N := some 17) (v := ?_) (a' := ?_) #[true, true, true, false, false, true, false, false, false, false, false, false, false, false, false] rfl rfl (any_of HT_.out (by kernel_rfl)) (fun _ _ _ h => h) (Or.inl ⟨by rfl, ?_⟩) ?_ ?_
             rotate_left
             · intro w'
               go_simp
               with_reducible rfl
             rotate_left
             · simp only [Act.put, List.setIfInBounds_toArray, List.set_cons_zero, List.set_cons_succ, i64_w, i32_w]
               rfl
             refine pure_ (i := 6) (N := some 18) (v := ?_) (a' := ?_) #[true, true, true, false, false, true, true, false, false, false, false, false, false, false, false] rfl rfl (any_of HT_.out (by kernel_rfl)) (fun _ _ _ h => h) (Or.inl ⟨by rfl, ?_⟩) ?_ ?_
             rotate_left
             · intro w'
               go_simp
               with_reducible rfl
             rotate_left
             · simp only [Act.put, List.setIfInBounds_toArray, List.set_cons_zero, List.set_cons_succ, i64_w, i32_w]
               rfl
             refine pure_ (i := 7) (N := some 19) (v := ?_) (a' := ?_) #[true, true, true, false, false, true, true, true, false, false, false, false, false, false, false] rfl rfl (any_of HT_.out (by kernel_rfl)) (fun _ _ _ h => h) (Or.inl ⟨by rfl, ?_⟩) ?_ ?_
             rotate_left
             · intro w'
               go_simp
               with_reducible rfl
             rotate_left
             · simp only [Act.put, List.setIfInBounds_toArray, List.set_cons_zero, List.set_cons_succ, i64_w, i32_w]
               rfl
             refine pure_ (i := 8) (N := some 20) (v := ?_) (a' := ?_) #[true, true, true, false, false, true, true, true, true, false, false, false, false, false, false] rfl rfl (any_of HT_.out (by kernel_rfl)) (fun _ _ _ h => h) (Or.inl ⟨by rfl, ?_⟩) ?_ ?_
             rotate_left
             · intro w'
               go_simp
               with_reducible rfl
             rotate_left
             · simp only [Act.put, List.setIfInBounds_toArray, List.set_cons_zero, List.set_cons_succ, i64_w, i32_w]
               rfl
             refine pure_ (i := 9) (N := some 21) (v := ?_) (a' := ?_) #[true, true, true, false, false, true, true, true, true, true, false, false, false, false, false] rfl rfl (any_of HT_.out (by kernel_rfl)) (fun _ _ _ h => h) (Or.inl ⟨by rfl, ?_⟩) ?_ ?_
             rotate_left
             · intro w'
               go_simp
               with_reducible rfl
             rotate_left
             · simp only [Act.put, List.setIfInBounds_toArray, List.set_cons_zero, List.set_cons_succ, i64_w, i32_w]
               rfl
             refine pure_ (i := 10) (N := some 22) (v := ?_) (a' := ?_) #[true, true, true, false, false, true, true, true, true, true, true, false, false, false, false] rfl rfl (any_of HT_.out (by kernel_rfl)) (fun _ _ _ h => h) (Or.inl ⟨by rfl, ?_⟩) ?_ ?_
             rotate_left
             · intro w'
               go_simp
               with_reducible rfl
             rotate_left
             · simp only [Act.put, List.setIfInBounds_toArray, List.set_cons_zero, List.set_cons_succ, i64_w, i32_w]
               rfl
             refine take_ (i := 3) (N := some 15) (v := ?_) (a' := ?_) #[true, true, true, true, false, true, true, true, true, true, true, false, false, false, false] rfl rfl (take_ofW HT_.out HW_.out (by kernel_rfl)) (fun _ _ _ h => h) (Or.inl ⟨by rfl, ?_⟩) hHeld ?_ ?_
             rotate_left
             · rintro w' ⟨s0, s1, s2, s3⟩
               go_simp
               with_reducible rfl
             rotate_left
             · simp only [Act.put, List.setIfInBounds_toArray, List.set_cons_zero, List.set_cons_succ, i64_w, i32_w]
               rfl
             refine take_ (i := 11) (N := some 23) (v := ?_) (a' := ?_) #[true, true, true, true, false, true, true, true, true, true, true, true, false, false, false] rfl rfl (take_ofW HT_.out HW_.out (by kernel_rfl)) (fun _ _ _ h => h) (Or.inl ⟨by rfl, ?_⟩) hHeld ?_ ?_
             rotate_left
             · rintro w' ⟨s0, s1, s2, s3⟩
               go_simp
               with_reducible rfl
             rotate_left
             · simp only [Act.put, List.setIfInBounds_toArray, List.set_cons_zero, List.set_cons_succ, i64_w, i32_w]
               rfl
             refine one_ (i := 4) (N := some 16) #[true, true, true, true, true, true, true, true, true, true, true, true, false, false, false] rfl rfl (one_of HT_.out (by kernel_rfl)) (by decide) (fun K hK => ?_)
             refine goes_ Try.func41 (by kernel_rfl) rfl #[.agg #[.int .i64 ((rd_T39 l0 x3_1).f0), .slice A304_1 ((rd_T39 l0 x3_1).f1).length c304_1]] (by rfl) rfl rfl (by (try simp only [List.map_toArray, List.map_cons, List.map_nil]); first | done | rfl | (simp only [List.length_drop, List.length_take]; rfl)) ?_
             with_reducible refine (handshakerref22_one.calls k1 ((rd_T39 l0 x3_1).f0) _ _ ((rd_T39 l0 x3_1).f1) true _ ?side1 ?side2 A4.out).mono ?_
             (case side1 => repeat (first | exact (Kd.C_below HR304_1.out HB.out) | with_reducible first | refine Kd.C_alloc ?_ _ | refine Kd.C_drewN ?_ _ | refine Kd.C_drew ?_))
             (case side2 => exact HC304_1.out)
             rintro e w16 ⟨rfl, hb⟩
             refine ⟨_, rfl, ?_⟩
             have n0_ := Aside0.mk (bst_ hb)
             clear HB
             have HB := n0_
             clear n0_
             (try clear hb)
             (try clear hb2)
             (try clear hk)
             (try clear hi)
             refine hK.out _ _ ⟨((HB.out.cell (World.block_lt_of_cell? w _ hw304_0)).trans hw304_0), ((HB.out.cell (World.block_lt_of_cell? w _ hw304_1)).trans hw304_1), ((HB.out.cell (World.block_lt_of_cell? w _ hw310_0)).trans hw310_0), ((HB.out.cell (World.block_lt_of_cell? w _ hw310_1)).trans hw310_1)⟩ (fun hHeld => ?_)
             clear hK K
             refine norm_ (a' := ?_) ?_ ?_
             rotate_left
             · show Act.put _ (some 16) _ = _
               simp only [Act.put, List.setIfInBounds_toArray, List.set_cons_zero, List.set_cons_succ, i64_w, i32_w]
               rfl
             refine one_ (i := 12) (N := some 24) #[true, true, true, true, true, true, true, true, true, true, true, true, true, false, false] rfl rfl (one_of HT_.out (by kernel_rfl)) (by decide) (fun K hK => ?_)
             refine goes_ Try.func42 (by kernel_rfl) rfl #[.slice (some ad304) y306.length c0, .agg #[.int .i64 ((rd_T39 l0 x3_1).f0), .slice A304_1 ((rd_T39 l0 x3_1).f1).length c304_1]] (by rfl) rfl rfl (by (try simp only [List.map_toArray, List.map_cons, List.map_nil]); first | done | rfl | (simp only [List.length_drop, List.length_take]; rfl)) ?_
             with_reducible refine (handshakerref22_free.calls k1 _ _ y306 ((rd_T39 l0 x3_1).f0) _ _ ((rd_T39 l0 x3_1).f1) false _ ?side1 ?side2 ?side3 ?side4 A7.out).mono ?_
             (case side1 => repeat (first | exact (Kd.C_below HR309.out HB.out) | with_reducible first | refine Kd.C_alloc ?_ _ | refine Kd.C_drewN ?_ _ | refine Kd.C_drew ?_))
             (case side2 => exact HC309.out)
             (case side3 => repeat (first | exact (Kd.C_below HR310_1.out HB.out) | with_reducible first | refine Kd.C_alloc ?_ _ | refine Kd.C_drewN ?_ _ | refine Kd.C_drew ?_))
             (case side4 => exact HC310_1.out)
             rintro e w17 ⟨rfl, hb⟩
             refine ⟨_, rfl, ?_⟩
             have n0_ := Aside0.mk (bst_ hb)
             clear HB
             have HB := n0_
             clear n0_
             (try clear hb)
             (try clear hb2)
             (try clear hk)
             (try clear hi)
             refine hK.out _ _ ⟨((HB.out.cell (World.block_lt_of_cell? w _ hw304_0)).trans hw304_0), ((HB.out.cell (World.block_lt_of_cell? w _ hw304_1)).trans hw304_1), ((HB.out.cell (World.block_lt_of_cell? w _ hw310_0)).trans hw310_0), ((HB.out.cell (World.block_lt_of_cell? w _ hw310_1)).trans hw310_1)⟩ (fun hHeld => ?_)
             clear hK K
             refine norm_ (a' := ?_) ?_ ?_
             rotate_left
             · show Act.put _ (some 24) _ = _
               simp only [Act.put, List.setIfInBounds_toArray, List.set_cons_zero, List.set_cons_succ, i64_w, i32_w]
               rfl
             refine pure_ (i := 13) (N := some 4) (v := ?_) (a' := ?_) #[true, true, true, true, true, true, true, true, true, true, true, true, true, true, false] rfl rfl (any_of HT_.out (by kernel_rfl)) (fun _ _ _ h => h) (Or.inl ⟨by rfl, ?_⟩) ?_ ?_
             rotate_left
             · intro w'
               go_simp
               with_reducible rfl
             rotate_left
             · simp only [Act.put, List.setIfInBounds_toArray, List.set_cons_zero, List.set_cons_succ, i64_w, i32_w]
               rfl
             refine pure_ (i := 14) (N := some 5) (v := ?_) (a' := ?_) #[true, true, true, true, true, true, true, true, true, true, true, true, true, true, true] rfl rfl (any_of HT_.out (by kernel_rfl)) (fun _ _ _ h => h) (Or.inl ⟨by rfl, ?_⟩) ?_ ?_
             rotate_left
             · intro w'
               go_simp
               with_reducible rfl
             rotate_left
             · simp only [Act.put, List.setIfInBounds_toArray, List.set_cons_zero, List.set_cons_succ, i64_w, i32_w]
               rfl
             refine done_ (done_of HT_.out (by kernel_rfl)) ?_
             try go_wp2
             go_ret
             exact ⟨by first | rfl | (simp [errW_none, errW_some] <;> rfl) | (simp [*, errW_none, errW_some] <;> rfl), bsv_⟩
         · replace c8 := Bool.eq_false_iff.mpr c8
           subst c8
           rw [if_neg (show ¬ (false = true) by decide)] at H
           obtain rfl := Option.some.inj H
           try go_wp2
           have n0_ := Aside0.mk (below_drew1 HB.out)
           clear HB
           have HB := n0_
           clear n0_
           have p304 : 0 ≤ (x3_1 : Int) := oda_
           have q304 : x3_1 < (l0.length : Int) := oda_
           obtain ⟨ad304, A304_1, c304_1, e304, hx304_0, hx304_1, hl304_1, hi304_1⟩ := at_T39 HR0.out x3_1 p304 q304
           have hw304_1 := hx304_1
           have hw304_0 := hx304_0
           cases e304
           replace hx304_0 := (HB.out.cell (World.block_lt_of_cell? w _ hx304_0)).trans hx304_0
           replace hx304_1 := (HB.out.cell (World.block_lt_of_cell? w _ hx304_1)).trans hx304_1
           have HR304_1 := Aside0.mk hi304_1
           have HC304_1 := Aside0.mk hl304_1
           clear hi304_1 hl304_1
           replace p304 := eq_true p304
           replace q304 := eq_true q304
           have q19 : (x3_1 : Int) ≤ ((l0.length : Int) : Int) := oda_
           obtain ⟨i019, hi019, _, hsz19, _⟩ := info_parts info39
           have hroom19 : l0.length ≤ c0 := HC0.out
           have hC19 : Kd.C k39 _ (some ad304) l0.length l0 := HR0.out
           have hcut19 := cut_to (P := Try.prog) 30 39 .i64 Try.underlying30 hi019 (some ad304) l0.length c0 x3_1 (oda_) q19 hroom19
           have hr19 := Kd.C_take (m := (x3_1 : Int).toNat) hC19 (by omega)
           have hy19 : y306.length = (x3_1 : Int).toNat := (by rw [Ny306.out, List.length_take]; omega)
           rw [← Ny306.out] at hr19
           rw [← hy19] at hcut19
           have HR309 := Aside0.mk hr19
           have HC309 := Aside0.mk (show y306.length ≤ c0 from by omega)
           clear hr19 hC19 hroom19 hi019 hsz19
           have KY19 := Aside0.mk hy19
           clear hy19
           replace q19 := eq_true q19
           have p310 : 0 ≤ (x3_1 : Int) := oda_
           have q310 : x3_1 < (l0.length : Int) := oda_
           obtain ⟨ad310, A310_1, c310_1, e310, hx310_0, hx310_1, hl310_1, hi310_1⟩ := at_T39 HR0.out x3_1 p310 q310
           have hw310_1 := hx310_1
           have hw310_0 := hx310_0
           obtain rfl : ad304 = ad310 := (by injection e310)
           replace hx310_0 := (HB.out.cell (World.block_lt_of_cell? w _ hx310_0)).trans hx310_0
           replace hx310_1 := (HB.out.cell (World.block_lt_of_cell? w _ hx310_1)).trans hx310_1
           have HR310_1 := Aside0.mk hi310_1
           have HC310_1 := Aside0.mk hl310_1
           clear hi310_1 hl310_1
           replace p310 := eq_true p310
           replace q310 := eq_true q310
           have ea_ := Option.some.inj (hx304_1.symm.trans hx310_1)
           injection ea_ with ea_ en_ ec_
           subst ea_
           subst ec_
           clear en_
           refine start_ (n := 15) (S := fun w' => w'.cell? (ad304.add ((x3_1).toNat * 2)) = some (.int .i64 ((rd_T39 l0 x3_1).f0)) ∧ w'.cell? ⟨(ad304.add ((x3_1).toNat * 2)).block, (ad304.add ((x3_1).toNat * 2)).off + 1, none⟩ = some (.slice A304_1 ((rd_T39 l0 x3_1).f1).length c304_1) ∧ w'.cell? (ad304.add ((x3_1).toNat * 2)) = some (.int .i64 ((rd_T39 l0 x3_1).f0)) ∧ w'.cell? ⟨(ad304.add ((x3_1).toNat * 2)).block, (ad304.add ((x3_1).toNat * 2)).off + 1, none⟩ = some (.slice A304_1 ((rd_T39 l0 x3_1).f1).length c304_1)) (ds := []) #[false, false, false, false, false, false, false, false, false, false, false, false, false, false, false] (by kernel_rfl) rfl rfl ⟨((HB.out.cell (World.block_lt_of_cell? w _ hw304_0)).trans hw304_0), ((HB.out.cell (World.block_lt_of_cell? w _ hw304_1)).trans hw304_1), ((HB.out.cell (World.block_lt_of_cell? w _ hw310_0)).trans hw310_0), ((HB.out.cell (World.block_lt_of_cell? w _ hw310_1)).trans hw310_1)⟩ (fun hHeld => ?_); refine with_tabW handshakerref22_Right.tab4 handshakerref22_Right.bits4 (fun HT_ HW_ => ?_)
           generalize wr.drew = w18 at HB HR304_1 HR309 HR310_1 hx304_0 hx304_1 hx310_0 hx310_1 hHeld ⊢
           refine pure_ (i := 0) (N := some 12) (v := ?_) (a' := ?_) #[true, false, false, false, false, false, false, false, false, false, false, false, false, false, false] rfl rfl (any_of HT_.out (by kernel_rfl)) (fun _ _ _ h => h) (Or.inl ⟨by rfl, ?_⟩) ?_ ?_
           rotate_left
           · intro w'
             go_simp
             with_reducible rfl
           rotate_left
           · simp only [Act.put, List.setIfInBounds_toArray, List.set_cons_zero, List.set_cons_succ, i64_w, i32_w]
             rfl
           refine pure_ (i := 1) (N := some 13) (v := ?_) (a' := ?_) #[true, true, false, false, false, false, false, false, false, false, false, false, false, false, false] rfl rfl (any_of HT_.out (by kernel_rfl)) (fun _ _ _ h => h) (Or.inl ⟨by rfl, ?_⟩) ?_ ?_
           rotate_left
           · intro w'
             go_simp
             with_reducible rfl
           rotate_left
           · simp only [Act.put, List.setIfInBounds_toArray, List.set_cons_zero, List.set_cons_succ, i64_w, i32_w]
             rfl
           refine pure_ (i := 2) (N := some 14) (v := ?_) (a' := ?_) #[true, true, true, false, false, false, false, false, false, false, false, false, false, false, false] rfl rfl (any_of HT_.out (by kernel_rfl)) (fun _ _ _ h => h) (Or.inl ⟨by rfl, ?_⟩) ?_ ?_
           rotate_left
           · intro w'
             go_simp
             with_reducible rfl
           rotate_left
           · simp only [Act.put, List.setIfInBounds_toArray, List.set_cons_zero, List.set_cons_succ, i64_w, i32_w]
             rfl
           refine pure_ (i := 5) (N := some 17) (v := ?_) (a' := ?_) #[true, true, true, false, false, true, false, false, false, false, false, false, false, false, false] rfl rfl (any_of HT_.out (by kernel_rfl)) (fun _ _ _ h => h) (Or.inl ⟨by rfl, ?_⟩) ?_ ?_
           rotate_left
           · intro w'
             go_simp
             with_reducible rfl
           rotate_left
           · simp only [Act.put, List.setIfInBounds_toArray, List.set_cons_zero, List.set_cons_succ, i64_w, i32_w]
             rfl
           refine pure_ (i := 6) (N := some 18) (v := ?_) (a' := ?_) #[true, true, true, false, false, true, true, false, false, false, false, false, false, false, false] rfl rfl (any_of HT_.out (by kernel_rfl)) (fun _ _ _ h => h) (Or.inl ⟨by rfl, ?_⟩) ?_ ?_
           rotate_left
           · intro w'
             go_simp
             with_reducible rfl
           rotate_left
           · simp only [Act.put, List.setIfInBounds_toArray, List.set_cons_zero, List.set_cons_succ, i64_w, i32_w]
             rfl
           refine pure_ (i := 7) (N := some 19) (v := ?_) (a' := ?_) #[true, true, true, false, false, true, true, true, false, false, false, false, false, false, false] rfl rfl (any_of HT_.out (by kernel_rfl)) (fun _ _ _ h => h) (Or.inl ⟨by rfl, ?_⟩) ?_ ?_
           rotate_left
           · intro w'
             go_simp
             with_reducible rfl
           rotate_left
           · simp only [Act.put, List.setIfInBounds_toArray, List.set_cons_zero, List.set_cons_succ, i64_w, i32_w]
             rfl
           refine pure_ (i := 8) (N := some 20) (v := ?_) (a' := ?_) #[true, true, true, false, false, true, true, true, true, false, false, false, false, false, false] rfl rfl (any_of HT_.out (by kernel_rfl)) (fun _ _ _ h => h) (Or.inl ⟨by rfl, ?_⟩) ?_ ?_
           rotate_left
           · intro w'
             go_simp
             with_reducible rfl
           rotate_left
           · simp only [Act.put, List.setIfInBounds_toArray, List.set_cons_zero, List.set_cons_succ, i64_w, i32_w]
             rfl
           refine pure_ (i := 9) (N := some 21) (v := ?_) (a' := ?_) #[true, true, true, false, false, true, true, true, true, true, false, false, false, false, false] rfl rfl (any_of HT_.out (by kernel_rfl)) (fun _ _ _ h => h) (Or.inl ⟨by rfl, ?_⟩) ?_ ?_
           rotate_left
           · intro w'
             go_simp
             with_reducible rfl
           rotate_left
           · simp only [Act.put, List.setIfInBounds_toArray, List.set_cons_zero, List.set_cons_succ, i64_w, i32_w]
             rfl
           refine pure_ (i := 10) (N := some 22) (v := ?_) (a' := ?_) #[true, true, true, false, false, true, true, true, true, true, true, false, false, false, false] rfl rfl (any_of HT_.out (by kernel_rfl)) (fun _ _ _ h => h) (Or.inl ⟨by rfl, ?_⟩) ?_ ?_
           rotate_left
           · intro w'
             go_simp
             with_reducible rfl
           rotate_left
           · simp only [Act.put, List.setIfInBounds_toArray, List.set_cons_zero, List.set_cons_succ, i64_w, i32_w]
             rfl
           refine take_ (i := 3) (N := some 15) (v := ?_) (a' := ?_) #[true, true, true, true, false, true, true, true, true, true, true, false, false, false, false] rfl rfl (take_ofW HT_.out HW_.out (by kernel_rfl)) (fun _ _ _ h => h) (Or.inl ⟨by rfl, ?_⟩) hHeld ?_ ?_
           rotate_left
           · rintro w' ⟨s0, s1, s2, s3⟩
             go_simp
             with_reducible rfl
           rotate_left
           · simp only [Act.put, List.setIfInBounds_toArray, List.set_cons_zero, List.set_cons_succ, i64_w, i32_w]
             rfl
           refine take_ (i := 11) (N := some 23) (v := ?_) (a' := ?_) #[true, true, true, true, false, true, true, true, true, true, true, true, false, false, false] rfl rfl (take_ofW HT_.out HW_.out (by kernel_rfl)) (fun _ _ _ h => h) (Or.inl ⟨by rfl, ?_⟩) hHeld ?_ ?_
           rotate_left
           · rintro w' ⟨s0, s1, s2, s3⟩
             go_simp
             with_reducible rfl
           rotate_left
           · simp only [Act.put, List.setIfInBounds_toArray, List.set_cons_zero, List.set_cons_succ, i64_w, i32_w]
             rfl
           refine one_ (i := 4) (N := some 16) #[true, true, true, true, true, true, true, true, true, true, true, true, false, false, false] rfl rfl (one_of HT_.out (by kernel_rfl)) (by decide) (fun K hK => ?_)
           refine goes_ Try.func41 (by kernel_rfl) rfl #[.agg #[.int .i64 ((rd_T39 l0 x3_1).f0), .slice A304_1 ((rd_T39 l0 x3_1).f1).length c304_1]] (by rfl) rfl rfl (by (try simp only [List.map_toArray, List.map_cons, List.map_nil]); first | done | rfl | (simp only [List.length_drop, List.length_take]; rfl)) ?_
           with_reducible refine (handshakerref22_one.calls k1 ((rd_T39 l0 x3_1).f0) _ _ ((rd_T39 l0 x3_1).f1) false _ ?side1 ?side2 A4.out).mono ?_
           (case side1 => repeat (first | exact (Kd.C_below HR304_1.out HB.out) | with_reducible first | refine Kd.C_alloc ?_ _ | refine Kd.C_drewN ?_ _ | refine Kd.C_drew ?_))
           (case side2 => exact HC304_1.out)
           rintro e w20 ⟨rfl, hb⟩
           refine ⟨_, rfl, ?_⟩
           have n0_ := Aside0.mk (bst_ hb)
           clear HB
           have HB := n0_
           clear n0_
           (try clear hb)
           (try clear hb2)
           (try clear hk)
           (try clear hi)
           refine hK.out _ _ ⟨((HB.out.cell (World.block_lt_of_cell? w _ hw304_0)).trans hw304_0), ((HB.out.cell (World.block_lt_of_cell? w _ hw304_1)).trans hw304_1), ((HB.out.cell (World.block_lt_of_cell? w _ hw310_0)).trans hw310_0), ((HB.out.cell (World.block_lt_of_cell? w _ hw310_1)).trans hw310_1)⟩ (fun hHeld => ?_)
           clear hK K
           refine norm_ (a' := ?_) ?_ ?_
           rotate_left
           · show Act.put _ (some 16) _ = _
             simp only [Act.put, List.setIfInBounds_toArray, List.set_cons_zero, List.set_cons_succ, i64_w, i32_w]
             rfl
           refine one_ (i := 12) (N := some 24) #[true, true, true, true, true, true, true, true, true, true, true, true, true, false, false] rfl rfl (one_of HT_.out (by kernel_rfl)) (by decide) (fun K hK => ?_)
           refine goes_ Try.func42 (by kernel_rfl) rfl #[.slice (some ad304) y306.length c0, .agg #[.int .i64 ((rd_T39 l0 x3_1).f0), .slice A304_1 ((rd_T39 l0 x3_1).f1).length c304_1]] (by rfl) rfl rfl (by (try simp only [List.map_toArray, List.map_cons, List.map_nil]); first | done | rfl | (simp only [List.length_drop, List.length_take]; rfl)) ?_
           with_reducible refine (handshakerref22_free.calls k1 _ _ y306 ((rd_T39 l0 x3_1).f0) _ _ ((rd_T39 l0 x3_1).f1) t311 _ ?side1 ?side2 ?side3 ?side4 A7.out).mono ?_
           (case side1 => repeat (first | exact (Kd.C_below HR309.out HB.out) | with_reducible first | refine Kd.C_alloc ?_ _ | refine Kd.C_drewN ?_ _ | refine Kd.C_drew ?_))
           (case side2 => exact HC309.out)
           (case side3 => repeat (first | exact (Kd.C_below HR310_1.out HB.out) | with_reducible first | refine Kd.C_alloc ?_ _ | refine Kd.C_drewN ?_ _ | refine Kd.C_drew ?_))
           (case side4 => exact HC310_1.out)
           rintro e w21 ⟨rfl, hb⟩
           refine ⟨_, rfl, ?_⟩
           have n0_ := Aside0.mk (bst_ hb)
           clear HB
           have HB := n0_
           clear n0_
           (try clear hb)
           (try clear hb2)
           (try clear hk)
           (try clear hi)
           refine hK.out _ _ ⟨((HB.out.cell (World.block_lt_of_cell? w _ hw304_0)).trans hw304_0), ((HB.out.cell (World.block_lt_of_cell? w _ hw304_1)).trans hw304_1), ((HB.out.cell (World.block_lt_of_cell? w _ hw310_0)).trans hw310_0), ((HB.out.cell (World.block_lt_of_cell? w _ hw310_1)).trans hw310_1)⟩ (fun hHeld => ?_)
           clear hK K
           refine norm_ (a' := ?_) ?_ ?_
           rotate_left
           · show Act.put _ (some 24) _ = _
             simp only [Act.put, List.setIfInBounds_toArray, List.set_cons_zero, List.set_cons_succ, i64_w, i32_w]
             rfl
           refine pure_ (i := 13) (N := some 4) (v := ?_) (a' := ?_) #[true, true, true, true, true, true, true, true, true, true, true, true, true, true, false] rfl rfl (any_of HT_.out (by kernel_rfl)) (fun _ _ _ h => h) (Or.inl ⟨by rfl, ?_⟩) ?_ ?_
           rotate_left
           · intro w'
             go_simp
             with_reducible rfl
           rotate_left
           · simp only [Act.put, List.setIfInBounds_toArray, List.set_cons_zero, List.set_cons_succ, i64_w, i32_w]
             rfl
           refine pure_ (i := 14) (N := some 5) (v := ?_) (a' := ?_) #[true, true, true, true, true, true, true, true, true, true, true, true, true, true, true] rfl rfl (any_of HT_.out (by kernel_rfl)) (fun _ _ _ h => h) (Or.inl ⟨by rfl, ?_⟩) ?_ ?_
           rotate_left
           · intro w'
             go_simp
             with_reducible rfl
           rotate_left
           · simp only [Act.put, List.setIfInBounds_toArray, List.set_cons_zero, List.set_cons_succ, i64_w, i32_w]
             rfl
           refine done_ (done_of HT_.out (by kernel_rfl)) ?_
           try go_wp2
           go_ret
           exact ⟨by first | rfl | (simp [errW_none, errW_some] <;> rfl) | (simp [*, errW_none, errW_some] <;> rfl), bsv_⟩
       · rw [if_neg c6] at H
         exact absurd H (by simp)
     · rw [if_neg c3] at H
       exact absurd H (by simp)
   · rw [if_neg c2] at H
     have c2b0 : decide (x3_1 < (l0.length : Int)) = false := decide_eq_false c2
     clear c2
     obtain rfl := Option.some.inj H
     go_wp2
     go_ret
     exact ⟨by first | rfl | (simp [errW_none, errW_some] <;> rfl) | (simp [*, errW_none, errW_some] <;> rfl), bsv_⟩

end Go.Proofs.Ytihcnbhcemkncaa.B
