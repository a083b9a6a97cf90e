-- PRINTED by print.py (a twelfth state) out of the translation. Not trusted: Lean checks it.
import Derived.Test.YtihcnbhcemkncaaBx0
import Derived.Test.YtihcnbhcemkncaaBx8
import Derived.Test.YtihcnbhcemkncaaBx9
import Derived.Test.YtihcnbhcemkncaaBx10
namespace Go.Proofs.Ytihcnbhcemkncaa.B
open Go.Proofs.Ytihcnbhcemkncaa.Ho
open Go.RowKit Go.Proofs.YtihcnbhcemkncaaW.PrintWords Go.Proofs.YtihcnbhcemkncaaW.PrintLast Go.Proofs.YtihcnbhcemkncaaW.PrintMore
attribute [local go_sem] max2_int min2_int max_two min_two max_three min_three max_four min_four   -- for this text's walks alone
set_option linter.unusedVariables false
set_option linter.unusedSimpArgs false

/-! ### handshakerref22_Defer: function 15 -/
def handshakerref22_Defer.j0 : Nat → List (S39) → Bool → Bool → Int → List (S87) → Option ((List (S39)) × Int)
 | 0, _, _, _, _, _ => none
 | k + 1, x0, x8, x22, x313000, x313001 => if x22 = true then (some (x0, 1)) else (if x8 = true then (if (x0.length : Int) = 16 then (some (x0, 4)) else (if ([] : List (S39)).length + x0.length < 4398046511104 then ((some (([] : List (S39)) ++ x0 : List (S39))).bind fun y316 => (if y316.length < 4398046511104 then (some ((y316 ++ [(⟨x313000, x313001⟩ : S39)]), 0)) else (none))) else (none))) else (some (x0, 7)))
def handshakerref22_Defer.f (k : Nat) (l0 : List (S39)) (a1_0 : Int) (l1_1 : List (S87)) : Option ((List (S39)) × Int) := (handshakerref22_Right.f k l0).bind fun t313 => ((handshakerref22_one.f k a1_0 l1_1).bind fun t314 => ((handshakerref22_free.f k l0 a1_0 l1_1).bind fun t315 => (if t313 = true then (handshakerref22_Defer.j0 k l0 t315 (!t314) a1_0 l1_1) else (handshakerref22_Defer.j0 k l0 t315 true a1_0 l1_1))))
theorem handshakerref22_Defer.mono_l : ∀ k, (∀ y0 y1 y2 y3 y4, LeO (handshakerref22_Defer.j0 k y0 y1 y2 y3 y4) (handshakerref22_Defer.j0 (k + 1) y0 y1 y2 y3 y4))
 | 0 => fun _ _ _ _ _ r h => by simp [handshakerref22_Defer.j0] at h
 | k + 1 => by
  have ih0 := handshakerref22_Defer.mono_l k
  · intro y0 y1 y2 y3 y4
    unfold handshakerref22_Defer.j0
    repeat' first
    | (with_reducible exact ih0 _ _ _ _ _)
    | (with_reducible exact handshakerref22_Right.mono _ _)
    | (with_reducible exact handshakerref22_free.mono _ _ _ _)
    | (with_reducible exact handshakerref22_one.mono _ _ _)
    | (with_reducible exact LeO.refl _)
    | (with_reducible exact LeO.none _)
    | (with_reducible refine LeO.ite ?_ ?_)
    | (with_reducible refine LeO.bind ?_ (fun _ => ?_))
    | exact ih0 _ _ _ _ _
    | exact handshakerref22_Right.mono _ _
    | exact handshakerref22_free.mono _ _ _ _
    | exact handshakerref22_one.mono _ _ _
    | exact LeO.none _
    | refine LeO.ite ?_ ?_
    | refine LeO.bind ?_ (fun _ => ?_)
theorem handshakerref22_Defer.mono : ∀ a0 a1 a2 k, LeO (handshakerref22_Defer.f k a0 a1 a2) (handshakerref22_Defer.f (k + 1) a0 a1 a2) := by
 intro a0 a1 a2 k
 have ih0 := handshakerref22_Defer.mono_l k
 unfold handshakerref22_Defer.f
 repeat' first
  | (with_reducible exact ih0 _ _ _ _ _)
  | (with_reducible exact handshakerref22_Right.mono _ _)
  | (with_reducible exact handshakerref22_free.mono _ _ _ _)
  | (with_reducible exact handshakerref22_one.mono _ _ _)
  | (with_reducible exact LeO.refl _)
  | (with_reducible exact LeO.none _)
  | (with_reducible refine LeO.ite ?_ ?_)
  | (with_reducible refine LeO.bind ?_ (fun _ => ?_))
  | exact ih0 _ _ _ _ _
  | exact handshakerref22_Right.mono _ _
  | exact handshakerref22_free.mono _ _ _ _
  | exact handshakerref22_one.mono _ _ _
  | exact LeO.none _
  | refine LeO.ite ?_ ?_
  | refine LeO.bind ?_ (fun _ => ?_)
def handshakerref22_Defer.T1 : Bool × List (List Nat × List Nat) := (true, [([], []), ([0], [0]), ([], []), ([2, 1], [2]), ([], []), ([], []), ([4, 5, 3], [4, 5]), ([1, 6, 0, 1], [1]), ([3, 7, 0, 1, 2, 3, 7], [3]), ([6, 8, 0, 1, 2, 3, 4, 5, 6, 7, 8], [6])])
def handshakerref22_Defer.B1 : List Nat := [0, 1, 0, 7, 0, 0, 63, 127, 255, 511]
theorem handshakerref22_Defer.tab1 : rtab .any (opsOf Try.f15 1) = handshakerref22_Defer.T1 := by kernel_rfl
theorem handshakerref22_Defer.bits1 : waitsOk handshakerref22_Defer.T1.2 handshakerref22_Defer.B1 = true := by kernel_rfl
set_option maxHeartbeats 8000000 in
set_option maxRecDepth 100000 in
theorem handshakerref22_Defer.calls (k : Nat) (P0_ : Nat → Prop) (A0 : Option Addr) (c0 : Nat) (l0 : List (S39)) (a1_0 : Int) (P1_1_ : Nat → Prop) (A1_1 : Option Addr) (c1_1 : Nat) (l1_1 : List (S87)) (r1 : List (S39)) (r2 : Int) (w : World) (hs0 : Kd.V k39 39 w w.heap.size (fun k_ => P0_ k_) (.slice A0 l0.length c0) l0) (hs1_1 : Kd.V k87 87 w w.heap.size (fun k_ => P1_1_ k_) (.slice A1_1 l1_1.length c1_1) l1_1) (h : handshakerref22_Defer.f k l0 a1_0 l1_1 = some (r1, r2)) :
 Calls Try.prog 15 #[.slice A0 l0.length c0, .agg #[.int .i64 a1_0, .slice A1_1 l1_1.length c1_1]] w fun e w' => ∃ v0_ : Value, e = .returned (.tuple #[v0_, .int .i64 r2]) ∧ Kd.V k39 39 w' w.heap.size (fun k_ => ((P0_ k_ ∨ P1_1_ k_) ∨ w.heap.size ≤ k_)) v0_ r1 ∧ Below w.heap.size w w' := by
 have hu39 := Try.underlying39
 have HO0 := Aside0.mk (show Kd.V k39 39 w w.heap.size (fun k_ => ((P0_ k_ ∨ P1_1_ k_) ∨ w.heap.size ≤ k_)) (.slice A0 l0.length c0) l0 from Kd.V_mono hs0 (fun k_ hk => .inl (.inl hk)))
 have HO1_1 := Aside0.mk (show Kd.V k87 87 w w.heap.size (fun k_ => ((P0_ k_ ∨ P1_1_ k_) ∨ w.heap.size ≤ k_)) (.slice A1_1 l1_1.length c1_1) l1_1 from Kd.V_mono hs1_1 (fun k_ hk => .inl (.inr hk)))
 have HB := Aside0.mk (Below.refl w.heap.size w)
 have H : ((handshakerref22_Right.f k l0).bind fun t313 => ((handshakerref22_one.f k a1_0 l1_1).bind fun t314 => ((handshakerref22_free.f k l0 a1_0 l1_1).bind fun t315 => (if t313 = true then (handshakerref22_Defer.j0 k l0 t315 (!t314) a1_0 l1_1) else (handshakerref22_Defer.j0 k l0 t315 true a1_0 l1_1))))) = some (r1, r2) := h
 clear h
 replace H := Option.bind_eq_some_iff.mp H
 obtain ⟨t313, A30, H⟩ := H
 have A3 := Aside0.mk A30
 clear A30
 replace H := Option.bind_eq_some_iff.mp H
 obtain ⟨t314, A40, H⟩ := H
 have A4 := Aside0.mk A40
 clear A40
 replace H := Option.bind_eq_some_iff.mp H
 obtain ⟨t315, A50, H⟩ := H
 have A5 := Aside0.mk A50
 clear A50
 have HC6 := Aside0.mk H
 clear H
 go_enter Try.func15, Try.ntmps15
 try go_wp2_with (first | ((with_reducible refine gate_dst (N := 3) rfl ?_); refine box_event ?hg (N := 3) ?hd (cs := #[.int .i64 a1_0, .slice A1_1 l1_1.length c1_1]) (t := 39) ?hr ?_; (case hd => rfl); (case hg => rfl); (case hr => first | (go_simp; done) | (go_simp; rfl)); intro gb312 hg w7 hbox hb; replace HO0 := Aside0.mk (Kd.V_below (Kd.V_elderB (vq_ HO0) gb312 (Nat.le_of_eq hg.symm)) hb); replace HO1_1 := Aside0.mk (Kd.V_below (Kd.V_elderB (vq_ HO1_1) gb312 (Nat.le_of_eq hg.symm)) hb); replace BK312 := Aside0.mk (hbox); replace GW312 := Aside0.mk ((by rw [hg]; exact bsz_ : w.heap.size ≤ gb312)); replace HB := Aside0.mk (bst_ hb); replace GE312 := GW312; clear hb hbox hg))
 have n0_ := Aside0.mk (Kd.V_drew HO0.out)
 have n1_ := Aside0.mk (Kd.V_drew HO1_1.out)
 have n2_ := Aside0.mk (blk_drew BK312.out)
 have n3_ := Aside0.mk (below_drew1 HB.out)
 clear HO0
 clear HO1_1
 clear BK312
 clear HB
 have HO0 := n0_
 have HO1_1 := n1_
 have BK312 := n2_
 have HB := n3_
 clear n0_ n1_ n2_ n3_
 refine start_ (n := 10) (S := fun w' => w'.cell? ⟨gb312, 0, none⟩ = some (.int .i64 a1_0) ∧ w'.cell? ⟨gb312, 1, none⟩ = some (.slice A1_1 l1_1.length c1_1)) (ds := []) #[false, false, false, false, false, false, false, false, false, false] (by kernel_rfl) rfl rfl ⟨(blk_cell BK312.out 0).trans rfl, (blk_cell BK312.out 1).trans rfl⟩ (fun hHeld => ?_); refine with_tabW handshakerref22_Defer.tab1 handshakerref22_Defer.bits1 (fun HT_ HW_ => ?_)
 generalize w7.drew = w8 at HO0 HO1_1 BK312 HB hHeld ⊢
 refine pure_ (i := 0) (N := some 10) (v := ?_) (a' := ?_) #[true, false, false, false, false, false, false, false, false, false] rfl rfl (any_of HT_.out (by kernel_rfl)) (fun _ _ _ h => h) (Or.inl ⟨by rfl, ?_⟩) ?_ ?_
 rotate_left
 · intro w'
   go_simp
   with_reducible rfl
 rotate_left
 · simp only [Act.put, List.setIfInBounds_toArray, List.set_cons_zero, List.set_cons_succ, i64_w, i32_w]
   rfl
 refine pure_ (i := 4) (N := some 14) (v := ?_) (a' := ?_) #[true, false, false, false, true, false, false, false, false, false] rfl rfl (any_of HT_.out (by kernel_rfl)) (fun _ _ _ h => h) (Or.inl ⟨by rfl, ?_⟩) ?_ ?_
 rotate_left
 · intro w'
   go_simp
   with_reducible rfl
 rotate_left
 · simp only [Act.put, List.setIfInBounds_toArray, List.set_cons_zero, List.set_cons_succ, i64_w, i32_w]
   rfl
 refine take_ (i := 2) (N := some 12) (v := ?_) (a' := ?_) #[true, false, true, false, true, false, false, false, false, false] rfl rfl (take_ofW HT_.out HW_.out (by kernel_rfl)) (fun _ _ _ h => h) (Or.inl ⟨by rfl, ?_⟩) hHeld ?_ ?_
 rotate_left
 · rintro w' ⟨s0, s1⟩
   go_simp
   with_reducible rfl
 rotate_left
 · simp only [Act.put, List.setIfInBounds_toArray, List.set_cons_zero, List.set_cons_succ, i64_w, i32_w]
   rfl
 refine take_ (i := 5) (N := some 15) (v := ?_) (a' := ?_) #[true, false, true, false, true, true, false, false, false, false] rfl rfl (take_ofW HT_.out HW_.out (by kernel_rfl)) (fun _ _ _ h => h) (Or.inl ⟨by rfl, ?_⟩) hHeld ?_ ?_
 rotate_left
 · rintro w' ⟨s0, s1⟩
   go_simp
   with_reducible rfl
 rotate_left
 · simp only [Act.put, List.setIfInBounds_toArray, List.set_cons_zero, List.set_cons_succ, i64_w, i32_w]
   rfl
 refine one_ (i := 1) (N := some 11) #[true, true, true, false, true, true, false, false, false, false] rfl rfl (one_of HT_.out (by kernel_rfl)) (by decide) (fun K hK => ?_)
 refine goes_ Try.func23 (by kernel_rfl) rfl #[.slice A0 l0.length c0] (by rfl) rfl rfl (by (try simp only [List.map_toArray, List.map_cons, List.map_nil]); first | done | rfl | (simp only [List.length_drop, List.length_take]; rfl)) ?_
 with_reducible refine (handshakerref22_Right.calls k _ _ l0 t313 _ ?side1 ?side2 A3.out).mono ?_
 (case side1 => repeat (first | exact (Kd.V_reads' HO0.out).2.2 | with_reducible first | refine Kd.C_alloc ?_ _ | refine Kd.C_drewN ?_ _ | refine Kd.C_drew ?_))
 (case side2 => exact (Kd.V_reads' HO0.out).2.1)
 rintro e w9 ⟨rfl, hb⟩
 refine ⟨_, rfl, ?_⟩
 have n0_ := vb_ HO0 hb
 have n1_ := vb_ HO1_1 hb
 have n2_ := bb_ BK312 hb
 have n3_ := Aside0.mk (below_step bsw_ hb)
 clear HO0
 clear HO1_1
 clear BK312
 clear HB
 have HO0 := n0_
 have HO1_1 := n1_
 have BK312 := n2_
 have HB := n3_
 clear n0_ n1_ n2_ n3_
 (try clear hb)
 (try clear hb2)
 (try clear hk)
 (try clear hi)
 refine hK.out _ _ ⟨(blk_cell BK312.out 0).trans rfl, (blk_cell BK312.out 1).trans rfl⟩ (fun hHeld => ?_)
 clear hK K
 refine norm_ (a' := ?_) ?_ ?_
 rotate_left
 · show Act.put _ (some 11) _ = _
   simp only [Act.put, List.setIfInBounds_toArray, List.set_cons_zero, List.set_cons_succ, i64_w, i32_w]
   rfl
 refine one_ (i := 3) (N := some 13) #[true, true, true, true, true, true, false, false, false, false] rfl rfl (one_of HT_.out (by kernel_rfl)) (by decide) (fun K hK => ?_)
 refine goes_ Try.func41 (by kernel_rfl) rfl #[.agg #[.int .i64 a1_0, .slice A1_1 l1_1.length c1_1]] (by rfl) rfl rfl (by (try simp only [List.map_toArray, List.map_cons, List.map_nil]); first | done | rfl | (simp only [List.length_drop, List.length_take]; rfl)) ?_
 with_reducible refine (handshakerref22_one.calls k a1_0 _ _ l1_1 t314 _ ?side1 ?side2 A4.out).mono ?_
 (case side1 => repeat (first | exact (Kd.V_reads' HO1_1.out).2.2 | with_reducible first | refine Kd.C_alloc ?_ _ | refine Kd.C_drewN ?_ _ | refine Kd.C_drew ?_))
 (case side2 => exact (Kd.V_reads' HO1_1.out).2.1)
 rintro e w10 ⟨rfl, hb⟩
 refine ⟨_, rfl, ?_⟩
 have n0_ := vb_ HO0 hb
 have n1_ := vb_ HO1_1 hb
 have n2_ := bb_ BK312 hb
 have n3_ := Aside0.mk (below_step bsw_ hb)
 clear HO0
 clear HO1_1
 clear BK312
 clear HB
 have HO0 := n0_
 have HO1_1 := n1_
 have BK312 := n2_
 have HB := n3_
 clear n0_ n1_ n2_ n3_
 (try clear hb)
 (try clear hb2)
 (try clear hk)
 (try clear hi)
 refine hK.out _ _ ⟨(blk_cell BK312.out 0).trans rfl, (blk_cell BK312.out 1).trans rfl⟩ (fun hHeld => ?_)
 clear hK K
 refine norm_ (a' := ?_) ?_ ?_
 rotate_left
 · show Act.put _ (some 13) _ = _
   simp only [Act.put, List.setIfInBounds_toArray, List.set_cons_zero, List.set_cons_succ, i64_w, i32_w]
   rfl
 refine one_ (i := 6) (N := some 16) #[true, true, true, true, true, true, true, false, false, false] rfl rfl (one_of HT_.out (by kernel_rfl)) (by decide) (fun K hK => ?_)
 refine goes_ Try.func42 (by kernel_rfl) rfl #[.slice A0 l0.length c0, .agg #[.int .i64 a1_0, .slice A1_1 l1_1.length c1_1]] (by rfl) rfl rfl (by (try simp only [List.map_toArray, List.map_cons, List.map_nil]); first | done | rfl | (simp only [List.length_drop, List.length_take]; rfl)) ?_
 with_reducible refine (handshakerref22_free.calls k _ _ l0 a1_0 _ _ l1_1 t315 _ ?side1 ?side2 ?side3 ?side4 A5.out).mono ?_
 (case side1 => repeat (first | exact (Kd.V_reads' HO0.out).2.2 | with_reducible first | refine Kd.C_alloc ?_ _ | refine Kd.C_drewN ?_ _ | refine Kd.C_drew ?_))
 (case side2 => exact (Kd.V_reads' HO0.out).2.1)
 (case side3 => repeat (first | exact (Kd.V_reads' HO1_1.out).2.2 | with_reducible first | refine Kd.C_alloc ?_ _ | refine Kd.C_drewN ?_ _ | refine Kd.C_drew ?_))
 (case side4 => exact (Kd.V_reads' HO1_1.out).2.1)
 rintro e w11 ⟨rfl, hb⟩
 refine ⟨_, rfl, ?_⟩
 have n0_ := vb_ HO0 hb
 have n1_ := vb_ HO1_1 hb
 have n2_ := bb_ BK312 hb
 have n3_ := Aside0.mk (below_step bsw_ hb)
 clear HO0
 clear HO1_1
 clear BK312
 clear HB
 have HO0 := n0_
 have HO1_1 := n1_
 have BK312 := n2_
 have HB := n3_
 clear n0_ n1_ n2_ n3_
 (try clear hb)
 (try clear hb2)
 (try clear hk)
 (try clear hi)
 refine hK.out _ _ ⟨(blk_cell BK312.out 0).trans rfl, (blk_cell BK312.out 1).trans rfl⟩ (fun hHeld => ?_)
 clear hK K
 refine norm_ (a' := ?_) ?_ ?_
 rotate_left
 · show Act.put _ (some 16) _ = _
   simp only [Act.put, List.setIfInBounds_toArray, List.set_cons_zero, List.set_cons_succ, i64_w, i32_w]
   rfl
 refine pure_ (i := 7) (N := some 6) (v := ?_) (a' := ?_) #[true, true, true, true, true, true, true, true, false, false] rfl rfl (any_of HT_.out (by kernel_rfl)) (fun _ _ _ h => h) (Or.inl ⟨by rfl, ?_⟩) ?_ ?_
 rotate_left
 · intro w'
   go_simp
   with_reducible rfl
 rotate_left
 · simp only [Act.put, List.setIfInBounds_toArray, List.set_cons_zero, List.set_cons_succ, i64_w, i32_w]
   rfl
 refine pure_ (i := 8) (N := some 7) (v := ?_) (a' := ?_) #[true, true, true, true, true, true, true, true, true, false] rfl rfl (any_of HT_.out (by kernel_rfl)) (fun _ _ _ h => h) (Or.inl ⟨by rfl, ?_⟩) ?_ ?_
 rotate_left
 · intro w'
   go_simp
   with_reducible rfl
 rotate_left
 · simp only [Act.put, List.setIfInBounds_toArray, List.set_cons_zero, List.set_cons_succ, i64_w, i32_w]
   rfl
 refine pure_ (i := 9) (N := some 8) (v := ?_) (a' := ?_) #[true, true, true, true, true, true, true, true, true, true] rfl rfl (any_of HT_.out (by kernel_rfl)) (fun _ _ _ h => h) (Or.inl ⟨by rfl, ?_⟩) ?_ ?_
 rotate_left
 · intro w'
   go_simp
   with_reducible rfl
 rotate_left
 · simp only [Act.put, List.setIfInBounds_toArray, List.set_cons_zero, List.set_cons_succ, i64_w, i32_w]
   rfl
 refine done_ (done_of HT_.out (by kernel_rfl)) ?_
 go_upto_region 2 with (fail)
 go_cut [22] (fun v22 wc => ∃ (kq : Nat) (x22_5 : Bool), v22 = .bool x22_5 ∧ Aside0 (handshakerref22_Defer.j0 kq l0 t315 x22_5 a1_0 l1_1 = some (r1, r2)) ∧ Aside0 (kq ≤ k) ∧ Aside0 (Kd.V k39 39 wc w.heap.size (fun k_ => ((P0_ k_ ∨ P1_1_ k_) ∨ w.heap.size ≤ k_) ∧ k_ ≠ gb312) (.slice A0 l0.length c0) l0) ∧ Aside0 (Kd.V k87 87 wc w.heap.size (fun k_ => ((P0_ k_ ∨ P1_1_ k_) ∨ w.heap.size ≤ k_) ∧ k_ ≠ gb312) (.slice A1_1 l1_1.length c1_1) l1_1) ∧ Aside0 (wc.heap[gb312]? = some (.cells #[.int .i64 a1_0, (.slice A1_1 l1_1.length c1_1)] 39 (0, 0))) ∧ Aside0 (Below w.heap.size w wc))
 case first =>
  have H := HC6.out
  clear HC6
  by_cases c12 : t313 = true
  · subst c12
    rw [if_pos rfl] at H
    have H' := Aside0.mk H
    clear H
    go_wp2
    go_meet
    case rel => exact ⟨_, (!t314), (by first | rfl | (simp; done) | (simp [*]; done)), H', ⟨by first | omega | exact Nat.le_refl _⟩, ⟨vq_ HO0⟩, ⟨vq_ HO1_1⟩, ⟨bq_ BK312⟩, ⟨bsw_⟩⟩
  · replace c12 := Bool.eq_false_iff.mpr c12
    subst c12
    rw [if_neg (show ¬ (false = true) by decide)] at H
    have H' := Aside0.mk H
    clear H
    go_wp2
    go_meet
    case rel => exact ⟨_, (true), (by first | rfl | (simp; done) | (simp [*]; done)), H', ⟨by first | omega | exact Nat.le_refl _⟩, ⟨vq_ HO0⟩, ⟨vq_ HO1_1⟩, ⟨bq_ BK312⟩, ⟨bsw_⟩⟩
 case rest =>
  clear HC6
  try clear c1
  try clear c2
  try clear p2
  try clear c4
  try clear c12
  obtain ⟨kq, x22_5, rfl, HA, HJ5, HO_0, HO_313001, BK312, HB⟩ := hcut
  cases kq with
  | zero => exact absurd HA.out (by simp [handshakerref22_Defer.j0])
  | succ kj5 =>
   have H := HA.out
   clear HA
   simp only [handshakerref22_Defer.j0] at H
   by_cases c13 : x22_5 = true
   · subst c13
     rw [if_pos rfl] at H
     simp only [Option.some.injEq, Prod.mk.injEq] at H
     obtain ⟨rfl, rfl⟩ := H
     go_wp2
     go_ret2
     exact ⟨_, by first | rfl | (simp [errW_none, errW_some] <;> rfl) | (simp [*, errW_none, errW_some] <;> rfl), Kd.V_mono (vq_ HO_0) (fun _ hk => hk.1), bsw_⟩
   · replace c13 := Bool.eq_false_iff.mpr c13
     subst c13
     rw [if_neg (show ¬ (false = true) by decide)] at H
     by_cases c14 : t315 = true
     · subst c14
       rw [if_pos rfl] at H
       by_cases c15 : (l0.length : Int) = 16
       · rw [if_pos c15] at H
         have c15b0 : ((l0.length : Int) == 16) = true := beq_iff_eq.mpr c15
         have c15b1 : ((l0.length : Int) != 16) = false := bne_eq_false_iff_eq.mpr c15
         clear c15
         simp only [Option.some.injEq, Prod.mk.injEq] at H
         obtain ⟨rfl, rfl⟩ := H
         go_wp2
         go_ret2
         exact ⟨_, by first | rfl | (simp [errW_none, errW_some] <;> rfl) | (simp [*, errW_none, errW_some] <;> rfl), Kd.V_mono (vq_ HO_0) (fun _ hk => hk.1), bsw_⟩
       · rw [if_neg c15] at H
         have c15b0 : ((l0.length : Int) == 16) = false := beq_eq_false_iff_ne.mpr c15
         have c15b1 : ((l0.length : Int) != 16) = true := bne_iff_ne.mpr c15
         by_cases c16 : ([] : List (S39)).length + l0.length < 4398046511104
         · rw [if_pos c16] at H
           have LMc16 := Aside0.mk c16
           clear c16
           obtain ⟨y316, hy316⟩ : ∃ y_ : List (S39), y_ = (([] : List (S39)) ++ l0) := ⟨_, rfl⟩
           replace H : (if y316.length < 4398046511104 then (some ((y316 ++ [(⟨a1_0, l1_1⟩ : S39)]), 0)) else (none)) = some (r1, r2) := by first | (rw [hy316]; with_reducible exact H) | (have H2_ := (Option.bind_some _ _).symm.trans H; rw [hy316]; with_reducible exact H2_) | (have H2_ := (Option.bind_some _ _).symm.trans H; with_reducible exact H2_) | with_reducible exact H | (rw [hy316]; exact H) | exact H
           have Ny316 := Aside0.mk hy316
           clear hy316
           by_cases c17 : y316.length < 4398046511104
           · rw [if_pos c17] at H
             have LMc17 := Aside0.mk c17
             clear c17
             obtain ⟨y319, hy319⟩ : ∃ y_ : List (S39), y_ = (y316 ++ [(⟨a1_0, l1_1⟩ : S39)]) := ⟨_, rfl⟩
             replace H : (some (y319, 0)) = some (r1, r2) := by first | (rw [hy319]; with_reducible exact H) | (have H2_ := (Option.bind_some _ _).symm.trans H; rw [hy319]; with_reducible exact H2_) | (have H2_ := (Option.bind_some _ _).symm.trans H; with_reducible exact H2_) | with_reducible exact H | (rw [hy319]; exact H) | exact H
             have Ny319 := Aside0.mk hy319
             clear hy319
             simp only [Option.some.injEq, Prod.mk.injEq] at H
             obtain ⟨rfl, rfl⟩ := H
             go_wp2_with (first | ((with_reducible refine gate_builtin (b := .append) (xs := #[.tmp 31, .tmp 32]) rfl ?_); at_builtin; refine Kd.N_append_rows k39 (w0 := w) w.heap.size rfl (.tmp 31) (.tmp 32) 30 39 (.agg #[(.int .i64 0), (.slice none 0 0)]) 32 rfl Try.underlying30 info39 rfl (by decide) (by omega) (.slice none 0 0) ([] : List (S39)) l0 _ _ _ (fun k_ => ((P0_ k_ ∨ P1_1_ k_) ∨ w.heap.size ≤ k_) ∧ k_ ≠ gb312) (fun k_ => ((fun k_ => ((P0_ k_ ∨ P1_1_ k_) ∨ w.heap.size ≤ k_) ∧ k_ ≠ gb312)) k_ ∧ some k_ ≠ (.slice none 0 0 : Value).ownBlock) rfl rfl ?aO ?aR (fun _ hk => hk) ?aF ?aB ?aS ?aL ?_; (case aR => exact (by skip; exact Kd.V_F (e := 0) (base := 0) (Kd.V_mono (ok' := (fun k_ => ((fun k_ => ((P0_ k_ ∨ P1_1_ k_) ∨ w.heap.size ≤ k_) ∧ k_ ≠ gb312)) k_ ∧ some k_ ≠ (.slice none 0 0 : Value).ownBlock)) (HO_0.out) (fun k_ hk => ⟨⟨hk.1, hk.2⟩, (by simp [Value.ownBlock])⟩)))); (case aB => exact bsw_); (case aF => exact (fun k_ hk => ⟨(.inr (Nat.le_trans (below_size bsw_) hk)), Kd.freshB (g := gb312) (o := .cells #[.int .i64 a1_0, .slice A1_1 l1_1.length c1_1] 39 (0, 0)) (bq_ BK312) k_ hk⟩)); (case aO => exact ((Kd.N_nil _ _ _ _ (fun k_ => ((P0_ k_ ∨ P1_1_ k_) ∨ w.heap.size ≤ k_) ∧ k_ ≠ gb312)))); (case aS => exact (below_size bsw_)); (case aL => have := LMc16.out; omega); intro v317 w18 ho hb hg hat; rw [← Ny316.out] at ho; replace HO_0 := Aside0.mk (Kd.V_afterv (Kd.V_apart_nil (vq_ HO_0)) hg hat); replace HO_313001 := Aside0.mk (Kd.V_afterv (Kd.V_apart_nil (vq_ HO_313001)) hg hat); replace BK312 := Aside0.mk (blk_grown (g := gb312) (o := .cells #[.int .i64 a1_0, .slice A1_1 l1_1.length c1_1] 39 (0, 0)) (bq_ BK312) hg (by simp [Value.ownBlock])); replace HB := Aside0.mk (hb); replace HO318 := Aside0.mk (ho); clear ho hb hg hat; have hcz19_0 : w18.cell? ⟨gb312, 0, none⟩ = some (.int .i64 a1_0) := (blk_cell BK312.out 0).trans rfl; have hcz19_1 : w18.cell? ⟨gb312, 1, none⟩ = some (.slice A1_1 l1_1.length c1_1) := (blk_cell BK312.out 1).trans rfl; have hfz19_0 := blk_frozen BK312.out 0; have hfz19_1 := blk_frozen BK312.out 1) | ((with_reducible refine gate_builtin (b := .append) (xs := #[.tmp 34, .tmp 36]) rfl ?_); at_builtin; refine Kd.N_append k39 (w0 := w) w.heap.size rfl (.tmp 34) (.tmp 36) 30 39 (.agg #[(.int .i64 0), (.slice none 0 0)]) 32 rfl Try.underlying30 info39 rfl (by decide) (by omega) v317 y316 (⟨a1_0, l1_1⟩ : S39) [.int .i64 a1_0, .slice A1_1 l1_1.length c1_1] (fun k_ => ((P0_ k_ ∨ P1_1_ k_) ∨ w.heap.size ≤ k_) ∧ k_ ≠ gb312) (fun k_ => ((fun k_ => ((P0_ k_ ∨ P1_1_ k_) ∨ w.heap.size ≤ k_) ∧ k_ ≠ gb312)) k_ ∧ some k_ ≠ (v317 : Value).ownBlock) rfl rfl ?aP (fun _ hk => hk) ?aF ?aO ?aB ?aS ?aL ?_; (case aP => exact (k39_mkF _ _ (⟨a1_0, l1_1⟩ : S39) (Kd.V_reads' (Kd.V_mono (ok' := (fun k_ => ((fun k_ => ((P0_ k_ ∨ P1_1_ k_) ∨ w.heap.size ≤ k_) ∧ k_ ≠ gb312)) k_ ∧ some k_ ≠ (v317 : Value).ownBlock)) (HO_313001.out) (fun k_ hk => ⟨⟨hk.1.1, hk.1.2⟩, hk.2⟩))).2.1 (Kd.V_F (Kd.V_mono (ok' := (fun k_ => ((fun k_ => ((P0_ k_ ∨ P1_1_ k_) ∨ w.heap.size ≤ k_) ∧ k_ ≠ gb312)) k_ ∧ some k_ ≠ (v317 : Value).ownBlock)) (HO_313001.out) (fun k_ hk => ⟨⟨hk.1.1, hk.1.2⟩, hk.2⟩))))); (case aB => exact bsw_); (case aF => exact (fun k_ hk => ⟨(.inr (Nat.le_trans (below_size bsw_) hk)), Kd.freshB (g := gb312) (o := .cells #[.int .i64 a1_0, .slice A1_1 l1_1.length c1_1] 39 (0, 0)) (bq_ BK312) k_ hk⟩)); (case aO => exact (nq_ HO318)); (case aS => exact (below_size bsw_)); (case aL => have := LMc17.out; omega); intro v320 w20 ho hb hg hat; rw [← Ny319.out] at ho; replace HO_0 := Aside0.mk (Kd.V_afterv (ok := (fun k_ => ((P0_ k_ ∨ P1_1_ k_) ∨ w.heap.size ≤ k_) ∧ k_ ≠ gb312)) (vq_ HO_0) hg hat); replace HO_313001 := Aside0.mk (Kd.V_afterv (ok := (fun k_ => ((P0_ k_ ∨ P1_1_ k_) ∨ w.heap.size ≤ k_) ∧ k_ ≠ gb312)) (vq_ HO_313001) hg hat); replace BK312 := Aside0.mk (blk_grown (g := gb312) (o := .cells #[.int .i64 a1_0, .slice A1_1 l1_1.length c1_1] 39 (0, 0)) (bq_ BK312) hg (Kd.N_away HO318.out (fun _ hk => hk.2))); replace HB := Aside0.mk (hb); replace HO321 := Aside0.mk (ho); clear HO318; clear ho hb hg hat))
             go_ret2
             exact ⟨_, by first | rfl | (simp [errW_none, errW_some] <;> rfl) | (simp [*, errW_none, errW_some] <;> rfl), Kd.N_V (Kd.N_mono (nq_ HO321) (fun _ hk => hk.1)), bsw_⟩
           · rw [if_neg c17] at H
             exact absurd H (by simp)
         · rw [if_neg c16] at H
           exact absurd H (by simp)
     · replace c14 := Bool.eq_false_iff.mpr c14
       subst c14
       rw [if_neg (show ¬ (false = true) by decide)] at H
       simp only [Option.some.injEq, Prod.mk.injEq] at H
       obtain ⟨rfl, rfl⟩ := H
       go_wp2
       go_ret2
       exact ⟨_, by first | rfl | (simp [errW_none, errW_some] <;> rfl) | (simp [*, errW_none, errW_some] <;> rfl), Kd.V_mono (vq_ HO_0) (fun _ hk => hk.1), bsw_⟩

/-! ### handshakerref02_Right: function 48 -/
def handshakerref02_Right.l0 : Nat → List (S66) → Int → Option (Bool)
 | 0, _, _ => none
 | k + 1, x0, x3 => if x3 < (x0.length : Int) then (if 0 ≤ x3 then ((handshakerref01_Right.f ((rd_T66 x0 x3).f1)).bind fun t323 => (if t323 = true then (if ((rd_T66 x0 x3).f0 = true) then (handshakerref02_Right.l0 k x0 (wrap64 (x3 + 1))) else (if ((rd_T66 x0 x3).f1) = 0 then (handshakerref02_Right.l0 k x0 (wrap64 (x3 + 1))) else (some false))) else (some false))) else (none)) else (if (x0.length : Int) > 0 then (some (decide ((x0.length : Int) < 65))) else (some false))
def handshakerref02_Right.f (k : Nat) (l0 : List (S66)) : Option (Bool) := handshakerref02_Right.l0 k l0 0
theorem handshakerref02_Right.mono_l : ∀ k, (∀ y0 y1, LeO (handshakerref02_Right.l0 k y0 y1) (handshakerref02_Right.l0 (k + 1) y0 y1))
 | 0 => fun _ _ r h => by simp [handshakerref02_Right.l0] at h
 | k + 1 => by
  have ih0 := handshakerref02_Right.mono_l k
  · intro y0 y1
    unfold handshakerref02_Right.l0
    repeat' first
    | (with_reducible exact ih0 _ _)
    | (with_reducible exact LeO.refl _)
    | (with_reducible exact LeO.none _)
    | (with_reducible refine LeO.ite ?_ ?_)
    | (with_reducible refine LeO.bind ?_ (fun _ => ?_))
    | exact ih0 _ _
    | exact LeO.none _
    | refine LeO.ite ?_ ?_
    | refine LeO.bind ?_ (fun _ => ?_)
theorem handshakerref02_Right.mono : ∀ a0 k, LeO (handshakerref02_Right.f k a0) (handshakerref02_Right.f (k + 1) a0) := by
 intro a0 k
 have ih0 := handshakerref02_Right.mono_l k
 unfold handshakerref02_Right.f
 repeat' first
  | (with_reducible exact ih0 _ _)
  | (with_reducible exact LeO.refl _)
  | (with_reducible exact LeO.none _)
  | (with_reducible refine LeO.ite ?_ ?_)
  | (with_reducible refine LeO.bind ?_ (fun _ => ?_))
  | exact ih0 _ _
  | exact LeO.none _
  | refine LeO.ite ?_ ?_
  | refine LeO.bind ?_ (fun _ => ?_)
set_option maxHeartbeats 8000000 in
set_option maxRecDepth 100000 in
theorem handshakerref02_Right.calls (k : Nat) (A0 : Option Addr) (c0 : Nat) (l0 : List (S66)) (r : Bool) (w : World) (hr0 : Kd.C k66 w A0 l0.length l0) (hc0 : l0.length ≤ c0) (h : handshakerref02_Right.f k l0 = some r) :
 Calls Try.prog 48 #[.slice A0 l0.length c0] w fun e w' => e = .returned (.bool r) ∧ Drawn0 w w' := by
 have HR0 := Aside0.mk hr0
 have HC0 := Aside0.mk hc0
 clear hr0 hc0
 have H : (handshakerref02_Right.l0 k l0 0) = some r := h
 clear h
 have H' := Aside0.mk H
 clear H
 go_enter Try.func48, Try.ntmps48
 go_wp2
 go_loopg [3] k (fun kq v3 w' => ∃ (x3_1 : Int), v3 = .int .i64 x3_1 ∧ Aside0 (handshakerref02_Right.l0 kq l0 x3_1 = some r) ∧ Aside0 (kq ≤ k) ∧ Drawn0 w w')
 case atStart => exact ⟨(0), (by first | rfl | (simp; done) | (simp [*]; done)), H', ⟨Nat.le_refl _⟩, by repeat (first | exact Drawn0.refl _ | apply Drawn0.step)⟩
 case round =>
  clear H'
  obtain ⟨x3_1, rfl, HA, HK1, ⟨m1, rfl⟩⟩ := hrel
  cases gk with
  | zero => exact absurd HA.out (by simp [handshakerref02_Right.l0])
  | succ k1 =>
   have H := HA.out
   clear HA
   simp only [handshakerref02_Right.l0] at H
   by_cases c2 : x3_1 < (l0.length : Int)
   · rw [if_pos c2] at H
     have c2b0 : decide (x3_1 < (l0.length : Int)) = true := decide_eq_true c2
     clear c2
     by_cases c3 : 0 ≤ x3_1
     · rw [if_pos c3] at H
       have c3b0 : decide (0 ≤ x3_1) = true := decide_eq_true c3
       clear c3
       replace H := Option.bind_eq_some_iff.mp H
       obtain ⟨t323, A40, H⟩ := H
       have A4 := Aside0.mk A40
       clear A40
       by_cases c5 : t323 = true
       · subst c5
         rw [if_pos rfl] at H
         obtain ⟨bq6, hbq6⟩ : ∃ b_ : Bool, b_ = ((rd_T66 l0 x3_1).f0) := ⟨_, rfl⟩
         replace H : (if (bq6 = true) then (handshakerref02_Right.l0 k1 l0 (wrap64 (x3_1 + 1))) else (if ((rd_T66 l0 x3_1).f1) = 0 then (handshakerref02_Right.l0 k1 l0 (wrap64 (x3_1 + 1))) else (some false))) = some r := by rw [← hbq6] at H; exact H
         have Nbq6 := Aside0.mk hbq6
         clear hbq6
         by_cases c7 : (bq6 = true)
         · subst c7
           rw [if_pos rfl] at H
           have H' := Aside0.mk H
           clear H
           have p322 : 0 ≤ (x3_1 : Int) := oda_
           have q322 : x3_1 < (l0.length : Int) := oda_
           obtain ⟨ad322, e322, hx322_0, hx322_1⟩ := at_T66 HR0.out x3_1 p322 q322
           (try rw [← Nbq6.out] at hx322_0)
           cases e322
           replace p322 := eq_true p322
           replace q322 := eq_true q322
           go_wp2_with (first | ((with_reducible refine gate_callee (f := 71) rfl ?_); refine goesL_ (some 16) rfl rfl Try.func71 (by kernel_rfl) rfl #[.int .i64 ((rd_T66 l0 x3_1).f1)] rfl mp_ ?_; (with_reducible refine (handshakerref01_Right.calls ((rd_T66 l0 x3_1).f1) true _ A4.out).mono ?_); rintro e w' ⟨rfl, ⟨nd, rfl⟩⟩; refine ⟨_, rfl, ?_⟩; have p324 : 0 ≤ (x3_1 : Int) := oda_; have q324 : x3_1 < (l0.length : Int) := oda_; obtain ⟨ad324, e324, hx324_0, hx324_1⟩ := at_T66 HR0.out x3_1 p324 q324; (try rw [← Nbq6.out] at hx324_0); obtain rfl : ad322 = ad324 := (by injection e324); replace p324 := eq_true p324; replace q324 := eq_true q324))
           go_roundg k1
           case measure => have := HK1.out; omega
           case rel => exact ⟨(wrap64 (x3_1 + 1)), (by first | rfl | (simp; done) | (simp [*]; done)), H', ⟨by have := HK1.out; omega⟩, by repeat (first | exact Drawn0.refl _ | apply Drawn0.step)⟩
         · replace c7 := Bool.eq_false_iff.mpr c7
           subst c7
           rw [if_neg (show ¬ (false = true) by decide)] at H
           by_cases c8 : ((rd_T66 l0 x3_1).f1) = 0
           · rw [if_pos c8] at H
             have c8b0 : (((rd_T66 l0 x3_1).f1) == 0) = true := beq_iff_eq.mpr c8
             have c8b1 : (((rd_T66 l0 x3_1).f1) != 0) = false := bne_eq_false_iff_eq.mpr c8
             clear c8
             have H' := Aside0.mk H
             clear H
             have p322 : 0 ≤ (x3_1 : Int) := oda_
             have q322 : x3_1 < (l0.length : Int) := oda_
             obtain ⟨ad322, e322, hx322_0, hx322_1⟩ := at_T66 HR0.out x3_1 p322 q322
             (try rw [← Nbq6.out] at hx322_0)
             cases e322
             replace p322 := eq_true p322
             replace q322 := eq_true q322
             go_wp2_with (first | ((with_reducible refine gate_callee (f := 71) rfl ?_); refine goesL_ (some 16) rfl rfl Try.func71 (by kernel_rfl) rfl #[.int .i64 ((rd_T66 l0 x3_1).f1)] rfl mp_ ?_; (with_reducible refine (handshakerref01_Right.calls ((rd_T66 l0 x3_1).f1) true _ A4.out).mono ?_); rintro e w' ⟨rfl, ⟨nd, rfl⟩⟩; refine ⟨_, rfl, ?_⟩; have p324 : 0 ≤ (x3_1 : Int) := oda_; have q324 : x3_1 < (l0.length : Int) := oda_; obtain ⟨ad324, e324, hx324_0, hx324_1⟩ := at_T66 HR0.out x3_1 p324 q324; (try rw [← Nbq6.out] at hx324_0); obtain rfl : ad322 = ad324 := (by injection e324); replace p324 := eq_true p324; replace q324 := eq_true q324; have p325 : 0 ≤ (x3_1 : Int) := oda_; have q325 : x3_1 < (l0.length : Int) := oda_; obtain ⟨ad325, e325, hx325_0, hx325_1⟩ := at_T66 HR0.out x3_1 p325 q325; (try rw [← Nbq6.out] at hx325_0); obtain rfl : ad322 = ad325 := (by injection e325); replace p325 := eq_true p325; replace q325 := eq_true q325))
             go_roundg k1
             case measure => have := HK1.out; omega
             case rel => exact ⟨(wrap64 (x3_1 + 1)), (by first | rfl | (simp; done) | (simp [*]; done)), H', ⟨by have := HK1.out; omega⟩, by repeat (first | exact Drawn0.refl _ | apply Drawn0.step)⟩
           · rw [if_neg c8] at H
             have c8b0 : (((rd_T66 l0 x3_1).f1) == 0) = false := beq_eq_false_iff_ne.mpr c8
             have c8b1 : (((rd_T66 l0 x3_1).f1) != 0) = true := bne_iff_ne.mpr c8
             obtain rfl := Option.some.inj H
             have p322 : 0 ≤ (x3_1 : Int) := oda_
             have q322 : x3_1 < (l0.length : Int) := oda_
             obtain ⟨ad322, e322, hx322_0, hx322_1⟩ := at_T66 HR0.out x3_1 p322 q322
             (try rw [← Nbq6.out] at hx322_0)
             cases e322
             replace p322 := eq_true p322
             replace q322 := eq_true q322
             go_wp2_with (first | ((with_reducible refine gate_callee (f := 71) rfl ?_); refine goesL_ (some 16) rfl rfl Try.func71 (by kernel_rfl) rfl #[.int .i64 ((rd_T66 l0 x3_1).f1)] rfl mp_ ?_; (with_reducible refine (handshakerref01_Right.calls ((rd_T66 l0 x3_1).f1) true _ A4.out).mono ?_); rintro e w' ⟨rfl, ⟨nd, rfl⟩⟩; refine ⟨_, rfl, ?_⟩; have p324 : 0 ≤ (x3_1 : Int) := oda_; have q324 : x3_1 < (l0.length : Int) := oda_; obtain ⟨ad324, e324, hx324_0, hx324_1⟩ := at_T66 HR0.out x3_1 p324 q324; (try rw [← Nbq6.out] at hx324_0); obtain rfl : ad322 = ad324 := (by injection e324); replace p324 := eq_true p324; replace q324 := eq_true q324; have p325 : 0 ≤ (x3_1 : Int) := oda_; have q325 : x3_1 < (l0.length : Int) := oda_; obtain ⟨ad325, e325, hx325_0, hx325_1⟩ := at_T66 HR0.out x3_1 p325 q325; (try rw [← Nbq6.out] at hx325_0); obtain rfl : ad322 = ad325 := (by injection e325); replace p325 := eq_true p325; replace q325 := eq_true q325))
             go_ret
             exact ⟨by first | rfl | (simp; done) | (simp [*]; done), by repeat (first | exact Drawn0.refl _ | apply Drawn0.step)⟩
       · replace c5 := Bool.eq_false_iff.mpr c5
         subst c5
         rw [if_neg (show ¬ (false = true) by decide)] at H
         obtain rfl := Option.some.inj H
         have p322 : 0 ≤ (x3_1 : Int) := oda_
         have q322 : x3_1 < (l0.length : Int) := oda_
         obtain ⟨ad322, e322, hx322_0, hx322_1⟩ := at_T66 HR0.out x3_1 p322 q322
         cases e322
         replace p322 := eq_true p322
         replace q322 := eq_true q322
         go_wp2_with (first | ((with_reducible refine gate_callee (f := 71) rfl ?_); refine goesL_ (some 16) rfl rfl Try.func71 (by kernel_rfl) rfl #[.int .i64 ((rd_T66 l0 x3_1).f1)] rfl mp_ ?_; (with_reducible refine (handshakerref01_Right.calls ((rd_T66 l0 x3_1).f1) false _ A4.out).mono ?_); rintro e w' ⟨rfl, ⟨nd, rfl⟩⟩; refine ⟨_, rfl, ?_⟩))
         go_ret
         exact ⟨by first | rfl | (simp; done) | (simp [*]; done), by repeat (first | exact Drawn0.refl _ | apply Drawn0.step)⟩
     · rw [if_neg c3] at H
       exact absurd H (by simp)
   · rw [if_neg c2] at H
     have c2b0 : decide (x3_1 < (l0.length : Int)) = false := decide_eq_false c2
     clear c2
     by_cases c9 : (l0.length : Int) > 0
     · rw [if_pos c9] at H
       have c9b0 : decide (0 < (l0.length : Int)) = true := decide_eq_true c9
       have c9b1 : decide (0 < l0.length) = true := decide_eq_true (by omega)
       clear c9
       obtain rfl := Option.some.inj H
       go_wp2
       go_ret
       exact ⟨by first | rfl | (simp; done) | (simp [*]; done), by repeat (first | exact Drawn0.refl _ | apply Drawn0.step)⟩
     · rw [if_neg c9] at H
       have c9b0 : decide (0 < (l0.length : Int)) = false := decide_eq_false c9
       have c9b1 : decide (0 < l0.length) = false := decide_eq_false (by omega)
       clear c9
       obtain rfl := Option.some.inj H
       go_wp2
       go_ret
       exact ⟨by first | rfl | (simp; done) | (simp [*]; done), by repeat (first | exact Drawn0.refl _ | apply Drawn0.step)⟩

/-! ### handshakerref02_Live: function 49 -/
def handshakerref02_Live.l0 : Nat → List (S66) → Int → Int → Option (Bool)
 | 0, _, _, _ => none
 | k + 1, x0, x1, x5 => if x5 < (x0.length : Int) then (if x5 = x1 then (if 0 ≤ x5 then (some ((rd_T66 x0 x5).f0)) else (none)) else (handshakerref02_Live.l0 k x0 x1 (wrap64 (x5 + 1)))) else (some false)
def handshakerref02_Live.f (k : Nat) (l0 : List (S66)) (a1 : Int) : Option (Bool) := handshakerref02_Live.l0 k l0 a1 0
theorem handshakerref02_Live.mono_l : ∀ k, (∀ y0 y1 y2, LeO (handshakerref02_Live.l0 k y0 y1 y2) (handshakerref02_Live.l0 (k + 1) y0 y1 y2))
 | 0 => fun _ _ _ r h => by simp [handshakerref02_Live.l0] at h
 | k + 1 => by
  have ih0 := handshakerref02_Live.mono_l k
  · intro y0 y1 y2
    unfold handshakerref02_Live.l0
    repeat' first
    | (with_reducible exact ih0 _ _ _)
    | (with_reducible exact LeO.refl _)
    | (with_reducible exact LeO.none _)
    | (with_reducible refine LeO.ite ?_ ?_)
    | (with_reducible refine LeO.bind ?_ (fun _ => ?_))
    | exact ih0 _ _ _
    | exact LeO.none _
    | refine LeO.ite ?_ ?_
    | refine LeO.bind ?_ (fun _ => ?_)
theorem handshakerref02_Live.mono : ∀ a0 a1 k, LeO (handshakerref02_Live.f k a0 a1) (handshakerref02_Live.f (k + 1) a0 a1) := by
 intro a0 a1 k
 have ih0 := handshakerref02_Live.mono_l k
 unfold handshakerref02_Live.f
 repeat' first
  | (with_reducible exact ih0 _ _ _)
  | (with_reducible exact LeO.refl _)
  | (with_reducible exact LeO.none _)
  | (with_reducible refine LeO.ite ?_ ?_)
  | (with_reducible refine LeO.bind ?_ (fun _ => ?_))
  | exact ih0 _ _ _
  | exact LeO.none _
  | refine LeO.ite ?_ ?_
  | refine LeO.bind ?_ (fun _ => ?_)
set_option maxHeartbeats 8000000 in
set_option maxRecDepth 100000 in
theorem handshakerref02_Live.calls (k : Nat) (A0 : Option Addr) (c0 : Nat) (l0 : List (S66)) (a1 : Int) (r : Bool) (w : World) (hr0 : Kd.C k66 w A0 l0.length l0) (hc0 : l0.length ≤ c0) (h : handshakerref02_Live.f k l0 a1 = some r) :
 Calls Try.prog 49 #[.slice A0 l0.length c0, .int .i64 a1] w fun e w' => e = .returned (.bool r) ∧ Drawn0 w w' := by
 have HR0 := Aside0.mk hr0
 have HC0 := Aside0.mk hc0
 clear hr0 hc0
 have H : (handshakerref02_Live.l0 k l0 a1 0) = some r := h
 clear h
 have H' := Aside0.mk H
 clear H
 go_enter Try.func49, Try.ntmps49
 go_wp2
 go_loopg [5] k (fun kq v5 w' => ∃ (x5_1 : Int), v5 = .int .i64 x5_1 ∧ Aside0 (handshakerref02_Live.l0 kq l0 a1 x5_1 = some r) ∧ Aside0 (kq ≤ k) ∧ Drawn0 w w')
 case atStart => exact ⟨(0), (by first | rfl | (simp; done) | (simp [*]; done)), H', ⟨Nat.le_refl _⟩, by repeat (first | exact Drawn0.refl _ | apply Drawn0.step)⟩
 case round =>
  clear H'
  try clear p2
  obtain ⟨x5_1, rfl, HA, HK1, ⟨m1, rfl⟩⟩ := hrel
  cases gk with
  | zero => exact absurd HA.out (by simp [handshakerref02_Live.l0])
  | succ k1 =>
   have H := HA.out
   clear HA
   simp only [handshakerref02_Live.l0] at H
   by_cases c3 : x5_1 < (l0.length : Int)
   · rw [if_pos c3] at H
     have c3b0 : decide (x5_1 < (l0.length : Int)) = true := decide_eq_true c3
     clear c3
     by_cases c4 : x5_1 = a1
     · rw [if_pos c4] at H
       have c4b0 : (x5_1 == a1) = true := beq_iff_eq.mpr c4
       have c4b1 : (x5_1 != a1) = false := bne_eq_false_iff_eq.mpr c4
       clear c4
       by_cases c5 : 0 ≤ x5_1
       · rw [if_pos c5] at H
         have c5b0 : decide (0 ≤ x5_1) = true := decide_eq_true c5
         clear c5
         obtain rfl := Option.some.inj H
         have p326 : 0 ≤ (x5_1 : Int) := oda_
         have q326 : x5_1 < (l0.length : Int) := oda_
         obtain ⟨ad326, e326, hx326_0, hx326_1⟩ := at_T66 HR0.out x5_1 p326 q326
         cases e326
         replace p326 := eq_true p326
         replace q326 := eq_true q326
         go_wp2
         go_ret
         exact ⟨by first | rfl | (simp; done) | (simp [*]; done), by repeat (first | exact Drawn0.refl _ | apply Drawn0.step)⟩
       · rw [if_neg c5] at H
         exact absurd H (by simp)
     · rw [if_neg c4] at H
       have c4b0 : (x5_1 == a1) = false := beq_eq_false_iff_ne.mpr c4
       have c4b1 : (x5_1 != a1) = true := bne_iff_ne.mpr c4
       have H' := Aside0.mk H
       clear H
       go_wp2
       go_roundg k1
       case measure => have := HK1.out; omega
       case rel => exact ⟨(wrap64 (x5_1 + 1)), (by first | rfl | (simp; done) | (simp [*]; done)), H', ⟨by have := HK1.out; omega⟩, by repeat (first | exact Drawn0.refl _ | apply Drawn0.step)⟩
   · rw [if_neg c3] at H
     have c3b0 : decide (x5_1 < (l0.length : Int)) = false := decide_eq_false c3
     clear c3
     obtain rfl := Option.some.inj H
     go_wp2
     go_ret
     exact ⟨by first | rfl | (simp; done) | (simp [*]; done), by repeat (first | exact Drawn0.refl _ | apply Drawn0.step)⟩

/-! ### handshakerref01_Wrap: function 50 -/
def handshakerref01_Wrap.f (a0 : Int) : Option (Int) := if (Int.tmod a0 4294967296) < (-2147483648) then (if (wrap64 ((Int.tmod a0 4294967296) + 4294967296)) > 2147483647 then (some (wrap64 ((wrap64 ((Int.tmod a0 4294967296) + 4294967296)) - 4294967296))) else (some (wrap64 ((Int.tmod a0 4294967296) + 4294967296)))) else (if (Int.tmod a0 4294967296) > 2147483647 then (some (wrap64 ((Int.tmod a0 4294967296) - 4294967296))) else (some (Int.tmod a0 4294967296)))
set_option maxHeartbeats 8000000 in
set_option maxRecDepth 100000 in
theorem handshakerref01_Wrap.calls (a0 : Int) (r : Int) (w : World) (h : handshakerref01_Wrap.f a0 = some r) :
 Calls Try.prog 50 #[.int .i64 a0] w fun e w' => e = .returned (.int .i64 r) ∧ Drawn0 w w' := by
 have H : (if (Int.tmod a0 4294967296) < (-2147483648) then (if (wrap64 ((Int.tmod a0 4294967296) + 4294967296)) > 2147483647 then (some (wrap64 ((wrap64 ((Int.tmod a0 4294967296) + 4294967296)) - 4294967296))) else (some (wrap64 ((Int.tmod a0 4294967296) + 4294967296)))) else (if (Int.tmod a0 4294967296) > 2147483647 then (some (wrap64 ((Int.tmod a0 4294967296) - 4294967296))) else (some (Int.tmod a0 4294967296)))) = some r := h
 clear h
 by_cases c2 : (Int.tmod a0 4294967296) < (-2147483648)
 · rw [if_pos c2] at H
   have c2b0 : decide ((Int.tmod a0 4294967296) < (-2147483648)) = true := decide_eq_true c2
   clear c2
   by_cases c3 : (wrap64 ((Int.tmod a0 4294967296) + 4294967296)) > 2147483647
   · rw [if_pos c3] at H
     have c3b0 : decide (2147483647 < (wrap64 ((Int.tmod a0 4294967296) + 4294967296))) = true := decide_eq_true c3
     clear c3
     obtain rfl := Option.some.inj H
     go_enter Try.func50, Try.ntmps50
     go_wp2
     go_ret
     exact ⟨by first | rfl | (simp; done) | (simp [*]; done), by repeat (first | exact Drawn0.refl _ | apply Drawn0.step)⟩
   · rw [if_neg c3] at H
     have c3b0 : decide (2147483647 < (wrap64 ((Int.tmod a0 4294967296) + 4294967296))) = false := decide_eq_false c3
     clear c3
     obtain rfl := Option.some.inj H
     go_enter Try.func50, Try.ntmps50
     go_wp2
     go_ret
     exact ⟨by first | rfl | (simp; done) | (simp [*]; done), by repeat (first | exact Drawn0.refl _ | apply Drawn0.step)⟩
 · rw [if_neg c2] at H
   have c2b0 : decide ((Int.tmod a0 4294967296) < (-2147483648)) = false := decide_eq_false c2
   clear c2
   by_cases c4 : (Int.tmod a0 4294967296) > 2147483647
   · rw [if_pos c4] at H
     have c4b0 : decide (2147483647 < (Int.tmod a0 4294967296)) = true := decide_eq_true c4
     clear c4
     obtain rfl := Option.some.inj H
     go_enter Try.func50, Try.ntmps50
     go_wp2
     go_ret
     exact ⟨by first | rfl | (simp; done) | (simp [*]; done), by repeat (first | exact Drawn0.refl _ | apply Drawn0.step)⟩
   · rw [if_neg c4] at H
     have c4b0 : decide (2147483647 < (Int.tmod a0 4294967296)) = false := decide_eq_false c4
     clear c4
     obtain rfl := Option.some.inj H
     go_enter Try.func50, Try.ntmps50
     go_wp2
     go_ret
     exact ⟨by first | rfl | (simp; done) | (simp [*]; done), by repeat (first | exact Drawn0.refl _ | apply Drawn0.step)⟩

/-! ### handshakerref02_set: function 74 -/
def handshakerref02_set.l0 : Nat → List (S66) → Int → List (S66) → Int → Bool → Int → Option ((List (S66)))
 | 0, _, _, _, _, _, _ => none
 | k + 1, x0, x1, x7, x8, x328000, x328001 => if x8 < (x0.length : Int) then (if x8 = x1 then (if x7.length < 8796093022208 then (handshakerref02_set.l0 k x0 x1 (x7 ++ [(⟨x328000, x328001⟩ : S66)]) (wrap64 (x8 + 1)) x328000 x328001) else (none)) else (if 0 ≤ x8 then (if x7.length < 8796093022208 then (handshakerref02_set.l0 k x0 x1 (x7 ++ [(⟨(rd_T66 x0 x8).f0, (rd_T66 x0 x8).f1⟩ : S66)]) (wrap64 (x8 + 1)) x328000 x328001) else (none)) else (none))) else (some x7)
def handshakerref02_set.f (k : Nat) (l0 : List (S66)) (a1 : Int) (a2_0 : Bool) (a2_1 : Int) : Option ((List (S66))) := handshakerref02_set.l0 k l0 a1 ([] : List (S66)) 0 a2_0 a2_1
theorem handshakerref02_set.mono_l : ∀ k, (∀ y0 y1 y2 y3 y4 y5, LeO (handshakerref02_set.l0 k y0 y1 y2 y3 y4 y5) (handshakerref02_set.l0 (k + 1) y0 y1 y2 y3 y4 y5))
 | 0 => fun _ _ _ _ _ _ r h => by simp [handshakerref02_set.l0] at h
 | k + 1 => by
  have ih0 := handshakerref02_set.mono_l k
  · intro y0 y1 y2 y3 y4 y5
    unfold handshakerref02_set.l0
    repeat' first
    | (with_reducible exact ih0 _ _ _ _ _ _)
    | (with_reducible exact LeO.refl _)
    | (with_reducible exact LeO.none _)
    | (with_reducible refine LeO.ite ?_ ?_)
    | (with_reducible refine LeO.bind ?_ (fun _ => ?_))
    | exact ih0 _ _ _ _ _ _
    | exact LeO.none _
    | refine LeO.ite ?_ ?_
    | refine LeO.bind ?_ (fun _ => ?_)
theorem handshakerref02_set.mono : ∀ a0 a1 a2 a3 k, LeO (handshakerref02_set.f k a0 a1 a2 a3) (handshakerref02_set.f (k + 1) a0 a1 a2 a3) := by
 intro a0 a1 a2 a3 k
 have ih0 := handshakerref02_set.mono_l k
 unfold handshakerref02_set.f
 repeat' first
  | (with_reducible exact ih0 _ _ _ _ _ _)
  | (with_reducible exact LeO.refl _)
  | (with_reducible exact LeO.none _)
  | (with_reducible refine LeO.ite ?_ ?_)
  | (with_reducible refine LeO.bind ?_ (fun _ => ?_))
  | exact ih0 _ _ _ _ _ _
  | exact LeO.none _
  | refine LeO.ite ?_ ?_
  | refine LeO.bind ?_ (fun _ => ?_)
set_option maxHeartbeats 8000000 in
set_option maxRecDepth 100000 in
theorem handshakerref02_set.calls (k : Nat) (A0 : Option Addr) (c0 : Nat) (l0 : List (S66)) (a1 : Int) (a2_0 : Bool) (a2_1 : Int) (r : List (S66)) (w : World) (hr0 : Kd.C k66 w A0 l0.length l0) (hc0 : l0.length ≤ c0) (h : handshakerref02_set.f k l0 a1 a2_0 a2_1 = some r) :
 Calls Try.prog 74 #[.slice A0 l0.length c0, .int .i64 a1, .agg #[.bool a2_0, .int .i64 a2_1]] w fun e w' => ∃ v0_ : Value, e = .returned (v0_) ∧ Kd.R k66 66 w' w.heap.size (fun _ => True) v0_ r ∧ Below w.heap.size w w' := by
 have hu66 := Try.underlying66
 have HR0 := Aside0.mk hr0
 have HC0 := Aside0.mk hc0
 clear hr0 hc0
 have HB := Aside0.mk (Below.refl w.heap.size w)
 have H : (handshakerref02_set.l0 k l0 a1 ([] : List (S66)) 0 a2_0 a2_1) = some r := h
 clear h
 have H' := Aside0.mk H
 clear H
 go_enter Try.func74, Try.ntmps74
 go_wp2_with (first | ((with_reducible refine gate_dst (N := 5) rfl ?_); refine box_event ?hg (N := 5) ?hd (cs := #[.bool a2_0, .int .i64 a2_1]) (t := 66) ?hr ?_; (case hd => rfl); (case hg => rfl); (case hr => first | (go_simp; done) | (go_simp; rfl)); intro gb327 hg w4 hbox hb; replace BK327 := Aside0.mk (hbox); replace GW327 := Aside0.mk ((by rw [hg]; exact bsz_ : w.heap.size ≤ gb327)); replace HB := Aside0.mk (bst_ hb); replace GE327 := GW327; clear hb hbox hg))
 go_loopg [7, 8] k (fun kq v7 v8 w' => ∃ (x7_1 : List (S66)) (x8_1 : Int), v8 = .int .i64 x8_1 ∧ Aside0 (handshakerref02_set.l0 kq l0 a1 x7_1 x8_1 a2_0 a2_1 = some r) ∧ Aside0 (kq ≤ k) ∧ Aside0 (Kd.R k66 66 w' w.heap.size (fun k_ => k_ ≠ gb327) v7 x7_1) ∧ Aside0 (w'.heap[gb327]? = some (.cells #[.bool a2_0, .int .i64 a2_1] 66 (0, 0))) ∧ Aside0 (Below w.heap.size w w'))
 case atStart => exact ⟨(([] : List (S66))), (0), (by first | rfl | (simp; done) | (simp [*]; done)), H', ⟨Nat.le_refl _⟩, ⟨by first | exact Kd.R_nil _ _ _ _ _ | exact Kd.N_nil _ _ _ _ _ | exact Kd.V_nil _ _ _ _ _ | exact Kd.Q_nil _ _ _ _ _ | exact Kd.S_nil _ _ _ _ _⟩, ⟨bq_ BK327⟩, ⟨bsw_⟩⟩
 case round =>
  clear H'
  try clear p2
  obtain ⟨x7_1, x8_1, rfl, HA, HK1, HO_7, BK327, HB⟩ := hrel
  cases gk with
  | zero => exact absurd HA.out (by simp [handshakerref02_set.l0])
  | succ k1 =>
   have H := HA.out
   clear HA
   simp only [handshakerref02_set.l0] at H
   by_cases c5 : x8_1 < (l0.length : Int)
   · rw [if_pos c5] at H
     have c5b0 : decide (x8_1 < (l0.length : Int)) = true := decide_eq_true c5
     clear c5
     by_cases c6 : x8_1 = a1
     · rw [if_pos c6] at H
       have c6b0 : (x8_1 == a1) = true := beq_iff_eq.mpr c6
       have c6b1 : (x8_1 != a1) = false := bne_eq_false_iff_eq.mpr c6
       clear c6
       by_cases c7 : x7_1.length < 8796093022208
       · rw [if_pos c7] at H
         have LMc7 := Aside0.mk c7
         clear c7
         obtain ⟨y328, hy328⟩ : ∃ y_ : List (S66), y_ = (x7_1 ++ [(⟨a2_0, a2_1⟩ : S66)]) := ⟨_, rfl⟩
         replace H : (handshakerref02_set.l0 k1 l0 a1 y328 (wrap64 (x8_1 + 1)) a2_0 a2_1) = some r := by first | (rw [hy328]; with_reducible exact H) | (have H2_ := (Option.bind_some _ _).symm.trans H; rw [hy328]; with_reducible exact H2_) | (have H2_ := (Option.bind_some _ _).symm.trans H; with_reducible exact H2_) | with_reducible exact H | (rw [hy328]; exact H) | exact H
         have Ny328 := Aside0.mk hy328
         clear hy328
         have H' := Aside0.mk H
         clear H
         have hcz8_0 : wr.cell? ⟨gb327, 0, none⟩ = some (.bool a2_0) := (blk_cell BK327.out 0).trans rfl
         have hcz8_1 : wr.cell? ⟨gb327, 1, none⟩ = some (.int .i64 a2_1) := (blk_cell BK327.out 1).trans rfl
         have hfz8_0 := blk_frozen BK327.out 0
         have hfz8_1 := blk_frozen BK327.out 1
         go_wp2_with (first | ((with_reducible refine gate_builtin (b := .append) (xs := #[.tmp 18, .tmp 20]) rfl ?_); at_builtin; refine Kd.R_append k66 (w0 := w) w.heap.size rfl (.tmp 18) (.tmp 20) 26 66 (.agg #[(.bool false), (.int .i64 0)]) 16 rfl Try.underlying26 info66 rfl (by decide) (by omega) u7 x7_1 (⟨a2_0, a2_1⟩ : S66) [.bool a2_0, .int .i64 a2_1] (fun k_ => k_ ≠ gb327) (fun _ => False) rfl rfl ?aP (fun _ hk => hk.elim) ?aF ?aO ?aB ?aS ?aL ?_; (case aP => exact k66_mkM _ _ _ (⟨a2_0, a2_1⟩ : S66)); (case aB => exact bsw_); (case aF => exact (fun k_ hk => Kd.freshB (g := gb327) (o := .cells #[.bool a2_0, .int .i64 a2_1] 66 (0, 0)) (bq_ BK327) k_ hk)); (case aO => exact (rq_ HO_7)); (case aS => exact (below_size bsw_)); (case aL => have := LMc7.out; omega); intro v329 w9 ho hb hg hat; rw [← Ny328.out] at ho; replace BK327 := Aside0.mk (blk_grown (g := gb327) (o := .cells #[.bool a2_0, .int .i64 a2_1] 66 (0, 0)) (bq_ BK327) hg (Kd.R_away HO_7.out (fun _ hk => hk))); replace HB := Aside0.mk (hb); replace HO330 := Aside0.mk (ho); clear HO_7; clear ho hb hg hat))
         go_roundg k1
         case measure => have := HK1.out; omega
         case rel => exact ⟨(y328), (wrap64 (x8_1 + 1)), (by first | rfl | (simp; done) | (simp [*]; done)), H', ⟨by have := HK1.out; omega⟩, ⟨rq_ HO330⟩, ⟨bq_ BK327⟩, ⟨bsw_⟩⟩
       · rw [if_neg c7] at H
         exact absurd H (by simp)
     · rw [if_neg c6] at H
       have c6b0 : (x8_1 == a1) = false := beq_eq_false_iff_ne.mpr c6
       have c6b1 : (x8_1 != a1) = true := bne_iff_ne.mpr c6
       by_cases c10 : 0 ≤ x8_1
       · rw [if_pos c10] at H
         have c10b0 : decide (0 ≤ x8_1) = true := decide_eq_true c10
         clear c10
         by_cases c11 : x7_1.length < 8796093022208
         · rw [if_pos c11] at H
           have LMc11 := Aside0.mk c11
           clear c11
           obtain ⟨y332, hy332⟩ : ∃ y_ : List (S66), y_ = (x7_1 ++ [(⟨(rd_T66 l0 x8_1).f0, (rd_T66 l0 x8_1).f1⟩ : S66)]) := ⟨_, rfl⟩
           replace H : (handshakerref02_set.l0 k1 l0 a1 y332 (wrap64 (x8_1 + 1)) a2_0 a2_1) = some r := by first | (rw [hy332]; with_reducible exact H) | (have H2_ := (Option.bind_some _ _).symm.trans H; rw [hy332]; with_reducible exact H2_) | (have H2_ := (Option.bind_some _ _).symm.trans H; with_reducible exact H2_) | with_reducible exact H | (rw [hy332]; exact H) | exact H
           have Ny332 := Aside0.mk hy332
           clear hy332
           have H' := Aside0.mk H
           clear H
           have p331 : 0 ≤ (x8_1 : Int) := oda_
           have q331 : x8_1 < (l0.length : Int) := oda_
           obtain ⟨ad331, e331, hx331_0, hx331_1⟩ := at_T66 HR0.out x8_1 p331 q331
           cases e331
           replace hx331_0 := (HB.out.cell (World.block_lt_of_cell? w _ hx331_0)).trans hx331_0
           replace hx331_1 := (HB.out.cell (World.block_lt_of_cell? w _ hx331_1)).trans hx331_1
           replace p331 := eq_true p331
           replace q331 := eq_true q331
           go_wp2_with (first | ((with_reducible refine gate_builtin (b := .append) (xs := #[.tmp 22, .tmp 27]) rfl ?_); at_builtin; refine Kd.R_append k66 (w0 := w) w.heap.size rfl (.tmp 22) (.tmp 27) 26 66 (.agg #[(.bool false), (.int .i64 0)]) 16 rfl Try.underlying26 info66 rfl (by decide) (by omega) u7 x7_1 (⟨(rd_T66 l0 x8_1).f0, (rd_T66 l0 x8_1).f1⟩ : S66) [.bool ((rd_T66 l0 x8_1).f0), .int .i64 ((rd_T66 l0 x8_1).f1)] (fun k_ => k_ ≠ gb327) (fun _ => False) rfl rfl ?aP (fun _ hk => hk.elim) ?aF ?aO ?aB ?aS ?aL ?_; (case aP => exact k66_mkM _ _ _ (⟨(rd_T66 l0 x8_1).f0, (rd_T66 l0 x8_1).f1⟩ : S66)); (case aB => exact bsw_); (case aF => exact (fun k_ hk => Kd.freshB (g := gb327) (o := .cells #[.bool a2_0, .int .i64 a2_1] 66 (0, 0)) (bq_ BK327) k_ hk)); (case aO => exact (rq_ HO_7)); (case aS => exact (below_size bsw_)); (case aL => have := LMc11.out; omega); intro v333 w12 ho hb hg hat; rw [← Ny332.out] at ho; replace BK327 := Aside0.mk (blk_grown (g := gb327) (o := .cells #[.bool a2_0, .int .i64 a2_1] 66 (0, 0)) (bq_ BK327) hg (Kd.R_away HO_7.out (fun _ hk => hk))); replace HB := Aside0.mk (hb); replace HO334 := Aside0.mk (ho); clear HO_7; clear ho hb hg hat))
           go_roundg k1
           case measure => have := HK1.out; omega
           case rel => exact ⟨(y332), (wrap64 (x8_1 + 1)), (by first | rfl | (simp; done) | (simp [*]; done)), H', ⟨by have := HK1.out; omega⟩, ⟨rq_ HO334⟩, ⟨bq_ BK327⟩, ⟨bsw_⟩⟩
         · rw [if_neg c11] at H
           exact absurd H (by simp)
       · rw [if_neg c10] at H
         exact absurd H (by simp)
   · rw [if_neg c5] at H
     have c5b0 : decide (x8_1 < (l0.length : Int)) = false := decide_eq_false c5
     clear c5
     obtain rfl := Option.some.inj H
     go_wp2
     go_ret
     exact ⟨_, by first | rfl | (simp [errW_none, errW_some] <;> rfl) | (simp [*, errW_none, errW_some] <;> rfl), Kd.R_mono (rq_ HO_7) (fun _ hk => trivial), bsw_⟩

end Go.Proofs.Ytihcnbhcemkncaa.B
