-- PRINTED by print.py (a twelfth state) out of the translation. Not trusted: Lean checks it.
import Derived.Test.YtihcnbhcemkncaaBx0
import Derived.Test.YtihcnbhcemkncaaBx8
import Derived.Test.YtihcnbhcemkncaaBx11
namespace Go.Proofs.Ytihcnbhcemkncaa.B
open Go.Proofs.Ytihcnbhcemkncaa.Ho
open Go.RowKit Go.Proofs.YtihcnbhcemkncaaW.PrintWords Go.Proofs.YtihcnbhcemkncaaW.PrintLast Go.Proofs.YtihcnbhcemkncaaW.PrintMore
attribute [local go_sem] max2_int min2_int max_two min_two max_three min_three max_four min_four   -- for this text's walks alone
set_option linter.unusedVariables false
set_option linter.unusedSimpArgs false

/-! ### handshakerref02_Put: function 51 -/
mutual
def handshakerref02_Put.l0 : Nat → List (S66) → List (S77) → Bool → Int → Option ((List (S66)) × Int)
 | 0, _, _, _, _ => none
 | k + 1, x0, x1, x6, x7 => if x7 < (x1.length : Int) then (if 0 ≤ x7 then ((handshakerref01_Right.f ((rd_T77 x1 x7).f1)).bind fun t337 => (if x6 = true then (handshakerref02_Put.l0 k x0 x1 t337 (wrap64 (x7 + 1))) else (handshakerref02_Put.l0 k x0 x1 false (wrap64 (x7 + 1))))) else (none)) else (if x6 = true then (handshakerref02_Put.l1 k x0 x1 x0 0) else (some (x0, 1)))
def handshakerref02_Put.l1 : Nat → List (S66) → List (S77) → List (S66) → Int → Option ((List (S66)) × Int)
 | 0, _, _, _, _ => none
 | k + 1, x0, x1, x9, x10 => if x10 < (x1.length : Int) then (if 0 ≤ x10 then ((handshakerref02_Live.f k x0 ((rd_T77 x1 x10).f0)).bind fun t339 => (if t339 = true then ((handshakerref02_set.f k x9 ((rd_T77 x1 x10).f0) true ((rd_T77 x1 x10).f1)).bind fun t342 => (handshakerref02_Put.l1 k x0 x1 t342 (wrap64 (x10 + 1)))) else (some (x0, 3)))) else (none)) else (some (x9, 0))
end
def handshakerref02_Put.f (k : Nat) (l0 : List (S66)) (l1 : List (S77)) : Option ((List (S66)) × Int) := (handshakerref02_Right.f k l0).bind fun t335 => (handshakerref02_Put.l0 k l0 l1 t335 0)
theorem handshakerref02_Put.mono_l : ∀ k, (∀ y0 y1 y2 y3, LeO (handshakerref02_Put.l0 k y0 y1 y2 y3) (handshakerref02_Put.l0 (k + 1) y0 y1 y2 y3)) ∧ (∀ y0 y1 y2 y3, LeO (handshakerref02_Put.l1 k y0 y1 y2 y3) (handshakerref02_Put.l1 (k + 1) y0 y1 y2 y3))
 | 0 => ⟨fun _ _ _ _ r h => by simp [handshakerref02_Put.l0] at h, fun _ _ _ _ r h => by simp [handshakerref02_Put.l1] at h⟩
 | k + 1 => by
  obtain ⟨ih0, ih1⟩ := handshakerref02_Put.mono_l k
  refine ⟨?_, ?_⟩
  · intro y0 y1 y2 y3
    unfold handshakerref02_Put.l0
    repeat' first
    | (with_reducible exact ih0 _ _ _ _)
    | (with_reducible exact ih1 _ _ _ _)
    | (with_reducible exact handshakerref02_Live.mono _ _ _)
    | (with_reducible exact handshakerref02_Right.mono _ _)
    | (with_reducible exact handshakerref02_set.mono _ _ _ _ _)
    | (with_reducible exact LeO.refl _)
    | (with_reducible exact LeO.none _)
    | (with_reducible refine LeO.ite ?_ ?_)
    | (with_reducible refine LeO.bind ?_ (fun _ => ?_))
    | exact ih0 _ _ _ _
    | exact ih1 _ _ _ _
    | exact handshakerref02_Live.mono _ _ _
    | exact handshakerref02_Right.mono _ _
    | exact handshakerref02_set.mono _ _ _ _ _
    | exact LeO.none _
    | refine LeO.ite ?_ ?_
    | refine LeO.bind ?_ (fun _ => ?_)
  · intro y0 y1 y2 y3
    unfold handshakerref02_Put.l1
    repeat' first
    | (with_reducible exact ih0 _ _ _ _)
    | (with_reducible exact ih1 _ _ _ _)
    | (with_reducible exact handshakerref02_Live.mono _ _ _)
    | (with_reducible exact handshakerref02_Right.mono _ _)
    | (with_reducible exact handshakerref02_set.mono _ _ _ _ _)
    | (with_reducible exact LeO.refl _)
    | (with_reducible exact LeO.none _)
    | (with_reducible refine LeO.ite ?_ ?_)
    | (with_reducible refine LeO.bind ?_ (fun _ => ?_))
    | exact ih0 _ _ _ _
    | exact ih1 _ _ _ _
    | exact handshakerref02_Live.mono _ _ _
    | exact handshakerref02_Right.mono _ _
    | exact handshakerref02_set.mono _ _ _ _ _
    | exact LeO.none _
    | refine LeO.ite ?_ ?_
    | refine LeO.bind ?_ (fun _ => ?_)
theorem handshakerref02_Put.mono : ∀ a0 a1 k, LeO (handshakerref02_Put.f k a0 a1) (handshakerref02_Put.f (k + 1) a0 a1) := by
 intro a0 a1 k
 obtain ⟨ih0, ih1⟩ := handshakerref02_Put.mono_l k
 unfold handshakerref02_Put.f
 repeat' first
  | (with_reducible exact ih0 _ _ _ _)
  | (with_reducible exact ih1 _ _ _ _)
  | (with_reducible exact handshakerref02_Live.mono _ _ _)
  | (with_reducible exact handshakerref02_Right.mono _ _)
  | (with_reducible exact handshakerref02_set.mono _ _ _ _ _)
  | (with_reducible exact LeO.refl _)
  | (with_reducible exact LeO.none _)
  | (with_reducible refine LeO.ite ?_ ?_)
  | (with_reducible refine LeO.bind ?_ (fun _ => ?_))
  | exact ih0 _ _ _ _
  | exact ih1 _ _ _ _
  | exact handshakerref02_Live.mono _ _ _
  | exact handshakerref02_Right.mono _ _
  | exact handshakerref02_set.mono _ _ _ _ _
  | exact LeO.none _
  | refine LeO.ite ?_ ?_
  | refine LeO.bind ?_ (fun _ => ?_)
def handshakerref02_Put.T16 : Bool × List (List Nat × List Nat) := (true, [([], []), ([], []), ([], []), ([1, 2], [1, 2]), ([3], [3]), ([4], [4]), ([], []), ([], []), ([6, 7], [6, 7]), ([8], [8]), ([9], [9]), ([10], [10]), ([0, 5, 11], [0, 5, 11]), ([12, 12, 0, 1, 2, 3, 4, 5, 6, 7, 8, 9, 10, 11, 12], [0, 12])])
def handshakerref02_Put.B16 : List Nat := [0, 0, 0, 6, 14, 30, 0, 0, 192, 448, 960, 1984, 4095, 8191]
theorem handshakerref02_Put.tab16 : rtab .any (opsOf Try.f51 16) = handshakerref02_Put.T16 := by kernel_rfl
theorem handshakerref02_Put.bits16 : waitsOk handshakerref02_Put.T16.2 handshakerref02_Put.B16 = true := by kernel_rfl
set_option maxHeartbeats 8000000 in
set_option maxRecDepth 100000 in
theorem handshakerref02_Put.calls (k : Nat) (P0_ : Nat → Prop) (A0 : Option Addr) (c0 : Nat) (l0 : List (S66)) (A1 : Option Addr) (c1 : Nat) (l1 : List (S77)) (r1 : List (S66)) (r2 : Int) (w : World) (hs0 : Kd.V k66 66 w w.heap.size (fun k_ => P0_ k_) (.slice A0 l0.length c0) l0) (hr1 : Kd.C k77 w A1 l1.length l1) (hc1 : l1.length ≤ c1) (h : handshakerref02_Put.f k l0 l1 = some (r1, r2)) :
 Calls Try.prog 51 #[.slice A0 l0.length c0, .slice A1 l1.length c1] w fun e w' => ∃ v0_ : Value, e = .returned (.tuple #[v0_, .int .i64 r2]) ∧ Kd.V k66 66 w' w.heap.size (fun k_ => (P0_ k_ ∨ w.heap.size ≤ k_)) v0_ r1 ∧ Below w.heap.size w w' := by
 have hu66 := Try.underlying66
 have HO0 := Aside0.mk (show Kd.V k66 66 w w.heap.size (fun k_ => (P0_ k_ ∨ w.heap.size ≤ k_)) (.slice A0 l0.length c0) l0 from Kd.V_mono hs0 (fun k_ hk => .inl hk))
 have HR1 := Aside0.mk hr1
 have HC1 := Aside0.mk hc1
 clear hr1 hc1
 have HB := Aside0.mk (Below.refl w.heap.size w)
 have H : ((handshakerref02_Right.f k l0).bind fun t335 => (handshakerref02_Put.l0 k l0 l1 t335 0)) = some (r1, r2) := h
 clear h
 replace H := Option.bind_eq_some_iff.mp H
 obtain ⟨t335, A30, H⟩ := H
 have A3 := Aside0.mk A30
 clear A30
 have H' := Aside0.mk H
 clear H
 go_enter Try.func51, Try.ntmps51
 go_wp2_with (first | ((with_reducible refine gate_callee (f := 48) rfl ?_); refine goesL_ (some 13) rfl rfl Try.func48 (by kernel_rfl) rfl #[.slice A0 l0.length c0] rfl mp_ ?_; (with_reducible refine (handshakerref02_Right.calls k _ _ l0 t335 _ ?side1 ?side2 A3.out).mono ?_); (case side1 => repeat (first | exact (Kd.V_reads' HO0.out).2.2 | with_reducible first | refine Kd.C_alloc ?_ _ | refine Kd.C_drewN ?_ _ | refine Kd.C_drew ?_)); (case side2 => exact (Kd.V_reads' HO0.out).2.1); rintro e w' ⟨rfl, ⟨nd, rfl⟩⟩; refine ⟨_, rfl, ?_⟩))
 go_loopg [6, 7] k (fun kq v6 v7 w' => ∃ (x6_1 : Bool) (x7_1 : Int), v6 = .bool x6_1 ∧ v7 = .int .i64 x7_1 ∧ Aside0 (handshakerref02_Put.l0 kq l0 l1 x6_1 x7_1 = some (r1, r2)) ∧ Aside0 (kq ≤ k) ∧ Aside0 (Kd.V k66 66 w' w.heap.size (fun k_ => (P0_ k_ ∨ w.heap.size ≤ k_)) (.slice A0 l0.length c0) l0) ∧ Aside0 (Below w.heap.size w w'))
 case atStart => exact ⟨(t335), (0), (by first | rfl | (simp; done) | (simp [*]; done)), (by first | rfl | (simp; done) | (simp [*]; done)), H', ⟨Nat.le_refl _⟩, ⟨vq_ HO0⟩, ⟨bsv_⟩⟩
 case round =>
  clear H'
  try clear c1
  try clear p2
  obtain ⟨x6_1, x7_1, rfl, rfl, HA, HK1, HO_0, HB⟩ := hrel
  cases gk with
  | zero => exact absurd HA.out (by simp [handshakerref02_Put.l0])
  | succ k1 =>
   have H := HA.out
   clear HA
   simp only [handshakerref02_Put.l0] at H
   by_cases c4 : x7_1 < (l1.length : Int)
   · rw [if_pos c4] at H
     have c4b0 : decide (x7_1 < (l1.length : Int)) = true := decide_eq_true c4
     clear c4
     by_cases c5 : 0 ≤ x7_1
     · rw [if_pos c5] at H
       have c5b0 : decide (0 ≤ x7_1) = true := decide_eq_true c5
       clear c5
       replace H := Option.bind_eq_some_iff.mp H
       obtain ⟨t337, A60, H⟩ := H
       have A6 := Aside0.mk A60
       clear A60
       by_cases c7 : x6_1 = true
       · subst c7
         rw [if_pos rfl] at H
         have H' := Aside0.mk H
         clear H
         have p336 : 0 ≤ (x7_1 : Int) := oda_
         have q336 : x7_1 < (l1.length : Int) := oda_
         obtain ⟨ad336, e336, hx336_0, hx336_1⟩ := at_T77 HR1.out x7_1 p336 q336
         cases e336
         replace hx336_0 := (HB.out.cell (World.block_lt_of_cell? w _ hx336_0)).trans hx336_0
         replace hx336_1 := (HB.out.cell (World.block_lt_of_cell? w _ hx336_1)).trans hx336_1
         replace p336 := eq_true p336
         replace q336 := eq_true q336
         go_wp2_with (first | ((with_reducible refine gate_callee (f := 71) rfl ?_); refine goesL_ (some 25) rfl rfl Try.func71 (by kernel_rfl) rfl #[.int .i64 ((rd_T77 l1 x7_1).f1)] rfl mp_ ?_; (with_reducible refine (handshakerref01_Right.calls ((rd_T77 l1 x7_1).f1) t337 _ A6.out).mono ?_); rintro e w' ⟨rfl, ⟨nd, rfl⟩⟩; refine ⟨_, rfl, ?_⟩))
         go_roundg k1
         case measure => have := HK1.out; omega
         case rel => exact ⟨(t337), (wrap64 (x7_1 + 1)), (by first | rfl | (simp; done) | (simp [*]; done)), (by first | rfl | (simp; done) | (simp [*]; done)), H', ⟨by have := HK1.out; omega⟩, ⟨vq_ HO_0⟩, ⟨bsv_⟩⟩
       · replace c7 := Bool.eq_false_iff.mpr c7
         subst c7
         rw [if_neg (show ¬ (false = true) by decide)] at H
         have H' := Aside0.mk H
         clear H
         have p336 : 0 ≤ (x7_1 : Int) := oda_
         have q336 : x7_1 < (l1.length : Int) := oda_
         obtain ⟨ad336, e336, hx336_0, hx336_1⟩ := at_T77 HR1.out x7_1 p336 q336
         cases e336
         replace hx336_0 := (HB.out.cell (World.block_lt_of_cell? w _ hx336_0)).trans hx336_0
         replace hx336_1 := (HB.out.cell (World.block_lt_of_cell? w _ hx336_1)).trans hx336_1
         replace p336 := eq_true p336
         replace q336 := eq_true q336
         go_wp2_with (first | ((with_reducible refine gate_callee (f := 71) rfl ?_); refine goesL_ (some 25) rfl rfl Try.func71 (by kernel_rfl) rfl #[.int .i64 ((rd_T77 l1 x7_1).f1)] rfl mp_ ?_; (with_reducible refine (handshakerref01_Right.calls ((rd_T77 l1 x7_1).f1) t337 _ A6.out).mono ?_); rintro e w' ⟨rfl, ⟨nd, rfl⟩⟩; refine ⟨_, rfl, ?_⟩))
         go_roundg k1
         case measure => have := HK1.out; omega
         case rel => exact ⟨(false), (wrap64 (x7_1 + 1)), (by first | rfl | (simp; done) | (simp [*]; done)), (by first | rfl | (simp; done) | (simp [*]; done)), H', ⟨by have := HK1.out; omega⟩, ⟨vq_ HO_0⟩, ⟨bsv_⟩⟩
     · rw [if_neg c5] at H
       exact absurd H (by simp)
   · rw [if_neg c4] at H
     have c4b0 : decide (x7_1 < (l1.length : Int)) = false := decide_eq_false c4
     clear c4
     by_cases c8 : x6_1 = true
     · subst c8
       rw [if_pos rfl] at H
       have H' := Aside0.mk H
       clear H
       go_wp2
       go_loopg [9, 10] k1 (fun kq v9 v10 w' => ∃ (x9_2 : List (S66)) (x10_2 : Int), v10 = .int .i64 x10_2 ∧ Aside0 (handshakerref02_Put.l1 kq l0 l1 x9_2 x10_2 = some (r1, r2)) ∧ Aside0 (kq ≤ k1) ∧ Aside0 (Kd.V k66 66 w' w.heap.size (fun k_ => (P0_ k_ ∨ w.heap.size ≤ k_)) (.slice A0 l0.length c0) l0) ∧ Aside0 (Kd.V k66 66 w' w.heap.size (fun k_ => (P0_ k_ ∨ w.heap.size ≤ k_)) v9 x9_2) ∧ Aside0 (Below w.heap.size w w'))
       case atStart => exact ⟨(l0), (0), (by first | rfl | (simp; done) | (simp [*]; done)), H', ⟨Nat.le_refl _⟩, ⟨vq_ HO_0⟩, ⟨vq_ HO_0⟩, ⟨bsv_⟩⟩
       case round =>
        clear H'
        try clear c1
        try clear p2
        try clear p3
        try clear q3
        try clear hx3
        try clear c4
        try clear c4b0
        try clear c5
        try clear c5b0
        try clear p6
        try clear c7
        try clear c8
        try clear hx336_0
        try clear hx336_1
        try clear p2
        try clear p336
        try clear q336
        obtain ⟨x9_2, x10_2, rfl, HA, HK2, HO_0, HO_9, HB⟩ := hrel
        cases gk with
        | zero => exact absurd HA.out (by simp [handshakerref02_Put.l1])
        | succ k2 =>
         have H := HA.out
         clear HA
         simp only [handshakerref02_Put.l1] at H
         by_cases c9 : x10_2 < (l1.length : Int)
         · rw [if_pos c9] at H
           have c9b0 : decide (x10_2 < (l1.length : Int)) = true := decide_eq_true c9
           clear c9
           by_cases c10 : 0 ≤ x10_2
           · rw [if_pos c10] at H
             have c10b0 : decide (0 ≤ x10_2) = true := decide_eq_true c10
             clear c10
             replace H := Option.bind_eq_some_iff.mp H
             obtain ⟨t339, A110, H⟩ := H
             have A11 := Aside0.mk A110
             clear A110
             by_cases c12 : t339 = true
             · subst c12
               rw [if_pos rfl] at H
               replace H := Option.bind_eq_some_iff.mp H
               obtain ⟨t342, A130, H⟩ := H
               have A13 := Aside0.mk A130
               clear A130
               have H' := Aside0.mk H
               clear H
               have p338 : 0 ≤ (x10_2 : Int) := oda_
               have q338 : x10_2 < (l1.length : Int) := oda_
               obtain ⟨ad338, e338, hx338_0, hx338_1⟩ := at_T77 HR1.out x10_2 p338 q338
               cases e338
               replace hx338_0 := (HB.out.cell (World.block_lt_of_cell? w _ hx338_0)).trans hx338_0
               replace hx338_1 := (HB.out.cell (World.block_lt_of_cell? w _ hx338_1)).trans hx338_1
               replace p338 := eq_true p338
               replace q338 := eq_true q338
               try go_wp2_with (first | ((with_reducible refine gate_callee (f := 49) rfl ?_); refine goesL_ (some 46) rfl rfl Try.func49 (by kernel_rfl) rfl #[.slice A0 l0.length c0, .int .i64 ((rd_T77 l1 x10_2).f0)] rfl mp_ ?_; (with_reducible refine (handshakerref02_Live.calls k2 _ _ l0 ((rd_T77 l1 x10_2).f0) true _ ?side1 ?side2 A11.out).mono ?_); (case side1 => repeat (first | exact (Kd.V_reads' HO_0.out).2.2 | with_reducible first | refine Kd.C_alloc ?_ _ | refine Kd.C_drewN ?_ _ | refine Kd.C_drew ?_)); (case side2 => exact (Kd.V_reads' HO_0.out).2.1); rintro e w' ⟨rfl, ⟨nd, rfl⟩⟩; refine ⟨_, rfl, ?_⟩))
               (try (rw [drewN_self wr]; generalize hq_ : World.drewN wr _ = wr; have n0_ : Aside0 (Kd.V k66 66 wr w.heap.size (fun k_ => (P0_ k_ ∨ w.heap.size ≤ k_)) (.slice A0 l0.length c0) l0) := ⟨by rw [← hq_]; exact (vq_ HO_0)⟩; have n1_ : Aside0 (Kd.V k66 66 wr w.heap.size (fun k_ => (P0_ k_ ∨ w.heap.size ≤ k_)) u9 x9_2) := ⟨by rw [← hq_]; exact (vq_ HO_9)⟩; have n2_ : Aside0 (Below w.heap.size w wr) := ⟨by rw [← hq_]; exact bsv_⟩; clear HO_0 HO_9 HB hq_; have HO_0 := n0_; have HO_9 := n1_; have HB := n2_; clear n0_ n1_ n2_))
               have n0_ := Aside0.mk (Kd.V_drew HO_0.out)
               have n1_ := Aside0.mk (Kd.V_drew HO_9.out)
               have n2_ := Aside0.mk (below_drew1 HB.out)
               clear HO_0
               clear HO_9
               clear HB
               have HO_0 := n0_
               have HO_9 := n1_
               have HB := n2_
               clear n0_ n1_ n2_
               have p340 : 0 ≤ (x10_2 : Int) := oda_
               have q340 : x10_2 < (l1.length : Int) := oda_
               obtain ⟨ad340, e340, hx340_0, hx340_1⟩ := at_T77 HR1.out x10_2 p340 q340
               have hw340_1 := hx340_1
               have hw340_0 := hx340_0
               obtain rfl : ad338 = ad340 := (by injection e340)
               replace hx340_0 := (HB.out.cell (World.block_lt_of_cell? w _ hx340_0)).trans hx340_0
               replace hx340_1 := (HB.out.cell (World.block_lt_of_cell? w _ hx340_1)).trans hx340_1
               replace p340 := eq_true p340
               replace q340 := eq_true q340
               have p341 : 0 ≤ (x10_2 : Int) := oda_
               have q341 : x10_2 < (l1.length : Int) := oda_
               obtain ⟨ad341, e341, hx341_0, hx341_1⟩ := at_T77 HR1.out x10_2 p341 q341
               have hw341_1 := hx341_1
               have hw341_0 := hx341_0
               obtain rfl : ad338 = ad341 := (by injection e341)
               replace hx341_0 := (HB.out.cell (World.block_lt_of_cell? w _ hx341_0)).trans hx341_0
               replace hx341_1 := (HB.out.cell (World.block_lt_of_cell? w _ hx341_1)).trans hx341_1
               replace p341 := eq_true p341
               replace q341 := eq_true q341
               obtain ⟨Ao15, co15, eo15⟩ := Kd.V_slice HO_9.out
               (first | subst eo15 | (injection eo15 with f1_ f2_ f3_; have f4_ := f1_.symm; have f5_ := f3_.symm; clear f1_ f2_ f3_; subst f4_; subst f5_))
               refine start_ (n := 14) (S := fun w' => w'.cell? (ad338.add ((x10_2).toNat * 2)) = some (.int .i64 ((rd_T77 l1 x10_2).f0)) ∧ w'.cell? ⟨(ad338.add ((x10_2).toNat * 2)).block, (ad338.add ((x10_2).toNat * 2)).off + 1, none⟩ = some (.int .i64 ((rd_T77 l1 x10_2).f1)) ∧ w'.cell? (ad338.add ((x10_2).toNat * 2)) = some (.int .i64 ((rd_T77 l1 x10_2).f0)) ∧ w'.cell? ⟨(ad338.add ((x10_2).toNat * 2)).block, (ad338.add ((x10_2).toNat * 2)).off + 1, none⟩ = some (.int .i64 ((rd_T77 l1 x10_2).f1))) (ds := []) #[false, false, false, false, false, false, false, false, false, false, false, false, false, false] (by kernel_rfl) rfl rfl ⟨((HB.out.cell (World.block_lt_of_cell? w _ hw340_0)).trans hw340_0), ((HB.out.cell (World.block_lt_of_cell? w _ hw340_1)).trans hw340_1), ((HB.out.cell (World.block_lt_of_cell? w _ hw341_0)).trans hw341_0), ((HB.out.cell (World.block_lt_of_cell? w _ hw341_1)).trans hw341_1)⟩ (fun hHeld => ?_); refine with_tabW handshakerref02_Put.tab16 handshakerref02_Put.bits16 (fun HT_ HW_ => ?_)
               generalize wr.drew = w14 at HO_0 HO_9 HB hx340_0 hx340_1 hx341_0 hx341_1 hHeld ⊢
               refine pure_ (i := 0) (N := some 50) (v := ?_) (a' := ?_) #[true, false, false, false, false, false, false, false, false, false, false, false, false, false] rfl rfl (any_of HT_.out (by kernel_rfl)) (fun _ _ _ h => h) (Or.inl ⟨by rfl, ?_⟩) ?_ ?_
               rotate_left
               · intro w'
                 go_simp
                 with_reducible rfl
               rotate_left
               · simp only [Act.put, List.setIfInBounds_toArray, List.set_cons_zero, List.set_cons_succ, i64_w, i32_w]
                 rfl
               refine pure_ (i := 1) (N := some 51) (v := ?_) (a' := ?_) #[true, true, false, false, false, false, false, false, false, false, false, false, false, false] rfl rfl (any_of HT_.out (by kernel_rfl)) (fun _ _ _ h => h) (Or.inl ⟨by rfl, ?_⟩) ?_ ?_
               rotate_left
               · intro w'
                 go_simp
                 with_reducible rfl
               rotate_left
               · simp only [Act.put, List.setIfInBounds_toArray, List.set_cons_zero, List.set_cons_succ, i64_w, i32_w]
                 rfl
               refine pure_ (i := 2) (N := some 52) (v := ?_) (a' := ?_) #[true, true, true, false, false, false, false, false, false, false, false, false, false, false] rfl rfl (any_of HT_.out (by kernel_rfl)) (fun _ _ _ h => h) (Or.inl ⟨by rfl, ?_⟩) ?_ ?_
               rotate_left
               · intro w'
                 go_simp
                 with_reducible rfl
               rotate_left
               · simp only [Act.put, List.setIfInBounds_toArray, List.set_cons_zero, List.set_cons_succ, i64_w, i32_w]
                 rfl
               refine pure_ (i := 3) (N := some 53) (v := ?_) (a' := ?_) #[true, true, true, true, false, false, false, false, false, false, false, false, false, false] rfl rfl (any_of HT_.out (by kernel_rfl)) (fun _ _ _ h => h) (Or.inl ⟨by rfl, ?_⟩) ?_ ?_
               rotate_left
               · intro w'
                 go_simp
                 with_reducible rfl
               rotate_left
               · simp only [Act.put, List.setIfInBounds_toArray, List.set_cons_zero, List.set_cons_succ, i64_w, i32_w]
                 rfl
               refine pure_ (i := 4) (N := some 54) (v := ?_) (a' := ?_) #[true, true, true, true, true, false, false, false, false, false, false, false, false, false] rfl rfl (any_of HT_.out (by kernel_rfl)) (fun _ _ _ h => h) (Or.inl ⟨by rfl, ?_⟩) ?_ ?_
               rotate_left
               · intro w'
                 go_simp
                 with_reducible rfl
               rotate_left
               · simp only [Act.put, List.setIfInBounds_toArray, List.set_cons_zero, List.set_cons_succ, i64_w, i32_w]
                 rfl
               refine pure_ (i := 6) (N := some 56) (v := ?_) (a' := ?_) #[true, true, true, true, true, false, true, false, false, false, false, false, false, false] rfl rfl (any_of HT_.out (by kernel_rfl)) (fun _ _ _ h => h) (Or.inl ⟨by rfl, ?_⟩) ?_ ?_
               rotate_left
               · intro w'
                 go_simp
                 with_reducible rfl
               rotate_left
               · simp only [Act.put, List.setIfInBounds_toArray, List.set_cons_zero, List.set_cons_succ, i64_w, i32_w]
                 rfl
               refine pure_ (i := 7) (N := some 57) (v := ?_) (a' := ?_) #[true, true, true, true, true, false, true, true, false, false, false, false, false, false] rfl rfl (any_of HT_.out (by kernel_rfl)) (fun _ _ _ h => h) (Or.inl ⟨by rfl, ?_⟩) ?_ ?_
               rotate_left
               · intro w'
                 go_simp
                 with_reducible rfl
               rotate_left
               · simp only [Act.put, List.setIfInBounds_toArray, List.set_cons_zero, List.set_cons_succ, i64_w, i32_w]
                 rfl
               refine pure_ (i := 8) (N := some 58) (v := ?_) (a' := ?_) #[true, true, true, true, true, false, true, true, true, false, false, false, false, false] rfl rfl (any_of HT_.out (by kernel_rfl)) (fun _ _ _ h => h) (Or.inl ⟨by rfl, ?_⟩) ?_ ?_
               rotate_left
               · intro w'
                 go_simp
                 with_reducible rfl
               rotate_left
               · simp only [Act.put, List.setIfInBounds_toArray, List.set_cons_zero, List.set_cons_succ, i64_w, i32_w]
                 rfl
               refine pure_ (i := 9) (N := some 59) (v := ?_) (a' := ?_) #[true, true, true, true, true, false, true, true, true, true, false, false, false, false] rfl rfl (any_of HT_.out (by kernel_rfl)) (fun _ _ _ h => h) (Or.inl ⟨by rfl, ?_⟩) ?_ ?_
               rotate_left
               · intro w'
                 go_simp
                 with_reducible rfl
               rotate_left
               · simp only [Act.put, List.setIfInBounds_toArray, List.set_cons_zero, List.set_cons_succ, i64_w, i32_w]
                 rfl
               refine take_ (i := 5) (N := some 55) (v := ?_) (a' := ?_) #[true, true, true, true, true, true, true, true, true, true, false, false, false, false] rfl rfl (take_ofW HT_.out HW_.out (by kernel_rfl)) (fun _ _ _ h => h) (Or.inl ⟨by rfl, ?_⟩) hHeld ?_ ?_
               rotate_left
               · rintro w' ⟨s0, s1, s2, s3⟩
                 go_simp
                 with_reducible rfl
               rotate_left
               · simp only [Act.put, List.setIfInBounds_toArray, List.set_cons_zero, List.set_cons_succ, i64_w, i32_w]
                 rfl
               refine take_ (i := 10) (N := some 60) (v := ?_) (a' := ?_) #[true, true, true, true, true, true, true, true, true, true, true, false, false, false] rfl rfl (take_ofW HT_.out HW_.out (by kernel_rfl)) (fun _ _ _ h => h) (Or.inl ⟨by rfl, ?_⟩) hHeld ?_ ?_
               rotate_left
               · rintro w' ⟨s0, s1, s2, s3⟩
                 go_simp
                 with_reducible rfl
               rotate_left
               · simp only [Act.put, List.setIfInBounds_toArray, List.set_cons_zero, List.set_cons_succ, i64_w, i32_w]
                 rfl
               refine pure_ (i := 11) (N := some 61) (v := ?_) (a' := ?_) #[true, true, true, true, true, true, true, true, true, true, true, true, false, false] rfl rfl (any_of HT_.out (by kernel_rfl)) (fun _ _ _ h => h) (Or.inl ⟨by rfl, ?_⟩) ?_ ?_
               rotate_left
               · intro w'
                 go_simp
                 with_reducible rfl
               rotate_left
               · simp only [Act.put, List.setIfInBounds_toArray, List.set_cons_zero, List.set_cons_succ, i64_w, i32_w]
                 rfl
               refine one_ (i := 12) (N := some 62) #[true, true, true, true, true, true, true, true, true, true, true, true, true, false] rfl rfl (one_of HT_.out (by kernel_rfl)) (by decide) (fun K hK => ?_)
               refine goes_ Try.func74 (by kernel_rfl) rfl #[.slice Ao15 x9_2.length co15, .int .i64 ((rd_T77 l1 x10_2).f0), .agg #[.bool true, .int .i64 ((rd_T77 l1 x10_2).f1)]] (by rfl) rfl rfl (by (try simp only [List.map_toArray, List.map_cons, List.map_nil]); first | done | rfl | (simp only [List.length_drop, List.length_take]; rfl)) ?_
               with_reducible refine (handshakerref02_set.calls k2 _ _ x9_2 ((rd_T77 l1 x10_2).f0) true ((rd_T77 l1 x10_2).f1) t342 _ ?side1 ?side2 A13.out).mono ?_
               (case side1 => repeat (first | exact (Kd.V_reads' HO_9.out).2.2 | with_reducible first | refine Kd.C_alloc ?_ _ | refine Kd.C_drewN ?_ _ | refine Kd.C_drew ?_))
               (case side2 => exact (Kd.V_reads' HO_9.out).2.1)
               rintro e w16 ⟨v343, rfl, ho0, hb⟩
               refine ⟨_, rfl, ?_⟩
               have n0_ := Aside0.mk (Kd.V_elder' (vq_ HO_0) (Kd.R_base ho0) hb)
               have n1_ := Aside0.mk (Kd.V_elder' (vq_ HO_9) (Kd.R_base ho0) hb)
               have n2_ := Aside0.mk (Kd.R_lower (Kd.R_newM (M := fun k_ => (w.heap.size ≤ k_)) ho0 bsz_ (fun k_ h_ => h_)) bsz_)
               have n3_ := Aside0.mk (bst_ hb)
               clear HO_0
               clear HO_9
               clear HB
               have HO_0 := n0_
               have HO_9 := n1_
               have HO344 := n2_
               have HB := n3_
               clear n0_ n1_ n2_ n3_
               (try clear hb)
               (try clear hb2)
               (try clear hk)
               (try clear hi)
               (try clear ho0)
               refine hK.out _ _ ⟨((HB.out.cell (World.block_lt_of_cell? w _ hw340_0)).trans hw340_0), ((HB.out.cell (World.block_lt_of_cell? w _ hw340_1)).trans hw340_1), ((HB.out.cell (World.block_lt_of_cell? w _ hw341_0)).trans hw341_0), ((HB.out.cell (World.block_lt_of_cell? w _ hw341_1)).trans hw341_1)⟩ (fun hHeld => ?_)
               clear hK K
               refine norm_ (a' := ?_) ?_ ?_
               rotate_left
               · show Act.put _ (some 62) _ = _
                 simp only [Act.put, List.setIfInBounds_toArray, List.set_cons_zero, List.set_cons_succ, i64_w, i32_w]
                 rfl
               refine pure_ (i := 13) (N := some 9) (v := ?_) (a' := ?_) #[true, true, true, true, true, true, true, true, true, true, true, true, true, true] rfl rfl (any_of HT_.out (by kernel_rfl)) (fun _ _ _ h => h) (Or.inl ⟨by rfl, ?_⟩) ?_ ?_
               rotate_left
               · intro w'
                 go_simp
                 with_reducible rfl
               rotate_left
               · simp only [Act.put, List.setIfInBounds_toArray, List.set_cons_zero, List.set_cons_succ, i64_w, i32_w]
                 rfl
               refine done_ (done_of HT_.out (by kernel_rfl)) ?_
               try go_wp2
               go_roundg k2
               case measure => have := HK1.out; have := HK2.out; omega
               case rel => exact ⟨(t342), (wrap64 (x10_2 + 1)), (by first | rfl | (simp; done) | (simp [*]; done)), H', ⟨by have := HK1.out; have := HK2.out; omega⟩, ⟨Kd.V_mono (vq_ HO_0) (fun _ hk => hk.1)⟩, ⟨Kd.V_mono (Kd.R_V (Kd.R_mono (rq_ HO344) (fun _ hk => hk.1))) (fun k_ hk => by first | exact ⟨(.inr (hk.1)), hk.2⟩ | exact (.inr (hk)))⟩, ⟨bsv_⟩⟩
             · replace c12 := Bool.eq_false_iff.mpr c12
               subst c12
               rw [if_neg (show ¬ (false = true) by decide)] at H
               simp only [Option.some.injEq, Prod.mk.injEq] at H
               obtain ⟨rfl, rfl⟩ := H
               have p338 : 0 ≤ (x10_2 : Int) := oda_
               have q338 : x10_2 < (l1.length : Int) := oda_
               obtain ⟨ad338, e338, hx338_0, hx338_1⟩ := at_T77 HR1.out x10_2 p338 q338
               cases e338
               replace hx338_0 := (HB.out.cell (World.block_lt_of_cell? w _ hx338_0)).trans hx338_0
               replace hx338_1 := (HB.out.cell (World.block_lt_of_cell? w _ hx338_1)).trans hx338_1
               replace p338 := eq_true p338
               replace q338 := eq_true q338
               go_wp2_with (first | ((with_reducible refine gate_callee (f := 49) rfl ?_); refine goesL_ (some 46) rfl rfl Try.func49 (by kernel_rfl) rfl #[.slice A0 l0.length c0, .int .i64 ((rd_T77 l1 x10_2).f0)] rfl mp_ ?_; (with_reducible refine (handshakerref02_Live.calls k2 _ _ l0 ((rd_T77 l1 x10_2).f0) false _ ?side1 ?side2 A11.out).mono ?_); (case side1 => repeat (first | exact (Kd.V_reads' HO_0.out).2.2 | with_reducible first | refine Kd.C_alloc ?_ _ | refine Kd.C_drewN ?_ _ | refine Kd.C_drew ?_)); (case side2 => exact (Kd.V_reads' HO_0.out).2.1); rintro e w' ⟨rfl, ⟨nd, rfl⟩⟩; refine ⟨_, rfl, ?_⟩))
               go_ret2
               exact ⟨_, by first | rfl | (simp [errW_none, errW_some] <;> rfl) | (simp [*, errW_none, errW_some] <;> rfl), vq_ HO_0, bsv_⟩
           · rw [if_neg c10] at H
             exact absurd H (by simp)
         · rw [if_neg c9] at H
           have c9b0 : decide (x10_2 < (l1.length : Int)) = false := decide_eq_false c9
           clear c9
           simp only [Option.some.injEq, Prod.mk.injEq] at H
           obtain ⟨rfl, rfl⟩ := H
           go_wp2
           go_ret2
           exact ⟨_, by first | rfl | (simp [errW_none, errW_some] <;> rfl) | (simp [*, errW_none, errW_some] <;> rfl), vq_ HO_9, bsv_⟩
     · replace c8 := Bool.eq_false_iff.mpr c8
       subst c8
       rw [if_neg (show ¬ (false = true) by decide)] at H
       simp only [Option.some.injEq, Prod.mk.injEq] at H
       obtain ⟨rfl, rfl⟩ := H
       go_wp2
       go_ret2
       exact ⟨_, by first | rfl | (simp [errW_none, errW_some] <;> rfl) | (simp [*, errW_none, errW_some] <;> rfl), vq_ HO_0, bsv_⟩

end Go.Proofs.Ytihcnbhcemkncaa.B
