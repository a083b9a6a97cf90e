-- PRINTED by print.py (a twelfth state) out of the translation. Not trusted: Lean checks it.
import Derived.Test.YtihcnbhcemkncaaBx0
import Derived.Test.YtihcnbhcemkncaaBx9
import Derived.Test.YtihcnbhcemkncaaBx10
import Derived.Test.YtihcnbhcemkncaaBx11
import Derived.Test.YtihcnbhcemkncaaBx13
namespace Go.Proofs.Ytihcnbhcemkncaa.B
open Go.Proofs.Ytihcnbhcemkncaa.Ho
open Go.RowKit Go.Proofs.YtihcnbhcemkncaaW.PrintWords Go.Proofs.YtihcnbhcemkncaaW.PrintLast Go.Proofs.YtihcnbhcemkncaaW.PrintMore
attribute [local go_sem] max2_int min2_int max_two min_two max_three min_three max_four min_four   -- for this text's walks alone
set_option linter.unusedVariables false
set_option linter.unusedSimpArgs false

/-! ### handshakerref22_All: function 19 -/
mutual
def handshakerref22_All.j0 : Nat → List (S39) → List (S66) → List Int → Bool → Option ((List (S39)) × (List (S66)) × Int)
 | 0, _, _, _, _ => none
 | k + 1, x0, x1, x2, x26 => if x26 = true then (some (x0, x1, 1)) else (handshakerref22_All.l0 k x0 x1 x2 x0 x1 0)
def handshakerref22_All.l0 : Nat → List (S39) → List (S66) → List Int → List (S39) → List (S66) → Int → Option ((List (S39)) × (List (S66)) × Int)
 | 0, _, _, _, _, _, _ => none
 | k + 1, x0, x1, x2, x11, x12, x13 => if x13 < (x2.length : Int) then (if 0 ≤ x13 then ((handshakerref22_Do.f k x11 (rd x2 x13) x12).bind fun bt388 => (if bt388.2.2 = 0 then (handshakerref22_All.l0 k x0 x1 x2 bt388.1 bt388.2.1 (wrap64 (x13 + 1))) else (some (x0, x1, bt388.2.2)))) else (none)) else (if (x11.length : Int) = 0 then (some (x11, x12, 0)) else (some (x0, x1, 3)))
end
def handshakerref22_All.f (k : Nat) (l0 : List (S39)) (l1 : List (S66)) (l2 : List Int) : Option ((List (S39)) × (List (S66)) × Int) := (handshakerref22_Right.f k l0).bind fun t385 => ((handshakerref02_Right.f k l1).bind fun t386 => (if t385 = true then (handshakerref22_All.j0 k l0 l1 l2 (!t386)) else (handshakerref22_All.j0 k l0 l1 l2 true)))
theorem handshakerref22_All.mono_l : ∀ k, (∀ y0 y1 y2 y3, LeO (handshakerref22_All.j0 k y0 y1 y2 y3) (handshakerref22_All.j0 (k + 1) y0 y1 y2 y3)) ∧ (∀ y0 y1 y2 y3 y4 y5, LeO (handshakerref22_All.l0 k y0 y1 y2 y3 y4 y5) (handshakerref22_All.l0 (k + 1) y0 y1 y2 y3 y4 y5))
 | 0 => ⟨fun _ _ _ _ r h => by simp [handshakerref22_All.j0] at h, fun _ _ _ _ _ _ r h => by simp [handshakerref22_All.l0] at h⟩
 | k + 1 => by
  obtain ⟨ih0, ih1⟩ := handshakerref22_All.mono_l k
  refine ⟨?_, ?_⟩
  · intro y0 y1 y2 y3
    unfold handshakerref22_All.j0
    repeat' first
    | (with_reducible exact ih0 _ _ _ _)
    | (with_reducible exact ih1 _ _ _ _ _ _)
    | (with_reducible exact handshakerref02_Right.mono _ _)
    | (with_reducible exact handshakerref22_Do.mono _ _ _ _)
    | (with_reducible exact handshakerref22_Right.mono _ _)
    | (with_reducible exact LeO.refl _)
    | (with_reducible exact LeO.none _)
    | (with_reducible refine LeO.ite ?_ ?_)
    | (with_reducible refine LeO.bind ?_ (fun _ => ?_))
    | exact ih0 _ _ _ _
    | exact ih1 _ _ _ _ _ _
    | exact handshakerref02_Right.mono _ _
    | exact handshakerref22_Do.mono _ _ _ _
    | exact handshakerref22_Right.mono _ _
    | exact LeO.none _
    | refine LeO.ite ?_ ?_
    | refine LeO.bind ?_ (fun _ => ?_)
  · intro y0 y1 y2 y3 y4 y5
    unfold handshakerref22_All.l0
    repeat' first
    | (with_reducible exact ih0 _ _ _ _)
    | (with_reducible exact ih1 _ _ _ _ _ _)
    | (with_reducible exact handshakerref02_Right.mono _ _)
    | (with_reducible exact handshakerref22_Do.mono _ _ _ _)
    | (with_reducible exact handshakerref22_Right.mono _ _)
    | (with_reducible exact LeO.refl _)
    | (with_reducible exact LeO.none _)
    | (with_reducible refine LeO.ite ?_ ?_)
    | (with_reducible refine LeO.bind ?_ (fun _ => ?_))
    | exact ih0 _ _ _ _
    | exact ih1 _ _ _ _ _ _
    | exact handshakerref02_Right.mono _ _
    | exact handshakerref22_Do.mono _ _ _ _
    | exact handshakerref22_Right.mono _ _
    | exact LeO.none _
    | refine LeO.ite ?_ ?_
    | refine LeO.bind ?_ (fun _ => ?_)
theorem handshakerref22_All.mono : ∀ a0 a1 a2 k, LeO (handshakerref22_All.f k a0 a1 a2) (handshakerref22_All.f (k + 1) a0 a1 a2) := by
 intro a0 a1 a2 k
 obtain ⟨ih0, ih1⟩ := handshakerref22_All.mono_l k
 unfold handshakerref22_All.f
 repeat' first
  | (with_reducible exact ih0 _ _ _ _)
  | (with_reducible exact ih1 _ _ _ _ _ _)
  | (with_reducible exact handshakerref02_Right.mono _ _)
  | (with_reducible exact handshakerref22_Do.mono _ _ _ _)
  | (with_reducible exact handshakerref22_Right.mono _ _)
  | (with_reducible exact LeO.refl _)
  | (with_reducible exact LeO.none _)
  | (with_reducible refine LeO.ite ?_ ?_)
  | (with_reducible refine LeO.bind ?_ (fun _ => ?_))
  | exact ih0 _ _ _ _
  | exact ih1 _ _ _ _ _ _
  | exact handshakerref02_Right.mono _ _
  | exact handshakerref22_Do.mono _ _ _ _
  | exact handshakerref22_Right.mono _ _
  | exact LeO.none _
  | refine LeO.ite ?_ ?_
  | refine LeO.bind ?_ (fun _ => ?_)
set_option maxHeartbeats 8000000 in
set_option maxRecDepth 100000 in
theorem handshakerref22_All.calls (k : Nat) (P0_ : Nat → Prop) (A0 : Option Addr) (c0 : Nat) (l0 : List (S39)) (P1_ : Nat → Prop) (A1 : Option Addr) (c1 : Nat) (l1 : List (S66)) (A2 : Option Addr) (c2 : Nat) (l2 : List Int) (r1 : List (S39)) (r2 : List (S66)) (r3 : Int) (w : World) (hs0 : Kd.V k39 39 w w.heap.size (fun k_ => P0_ k_) (.slice A0 l0.length c0) l0) (hs1 : Kd.V k66 66 w w.heap.size (fun k_ => P1_ k_) (.slice A1 l1.length c1) l1) (hr2 : Kd.C (Kd.int .i64) w A2 l2.length l2) (hc2 : l2.length ≤ c2) (h : handshakerref22_All.f k l0 l1 l2 = some (r1, r2, r3)) :
 Calls Try.prog 19 #[.slice A0 l0.length c0, .slice A1 l1.length c1, .slice A2 l2.length c2] w fun e w' => ∃ v0_ v1_ : Value, e = .returned (.tuple #[v0_, v1_, .int .i64 r3]) ∧ Kd.V k39 39 w' w.heap.size (fun k_ => ((P0_ k_ ∨ P1_ k_) ∨ w.heap.size ≤ k_)) v0_ r1 ∧ Kd.V k66 66 w' w.heap.size (fun k_ => ((P0_ k_ ∨ P1_ k_) ∨ w.heap.size ≤ k_)) v1_ r2 ∧ Below w.heap.size w w' := by
 have HO0 := Aside0.mk (show Kd.V k39 39 w w.heap.size (fun k_ => ((P0_ k_ ∨ P1_ k_) ∨ w.heap.size ≤ k_)) (.slice A0 l0.length c0) l0 from Kd.V_mono hs0 (fun k_ hk => .inl (.inl hk)))
 have HO1 := Aside0.mk (show Kd.V k66 66 w w.heap.size (fun k_ => ((P0_ k_ ∨ P1_ k_) ∨ w.heap.size ≤ k_)) (.slice A1 l1.length c1) l1 from Kd.V_mono hs1 (fun k_ hk => .inl (.inr hk)))
 have HR2 := Aside0.mk hr2
 have HC2 := Aside0.mk hc2
 clear hr2 hc2
 have HB := Aside0.mk (Below.refl w.heap.size w)
 have H : ((handshakerref22_Right.f k l0).bind fun t385 => ((handshakerref02_Right.f k l1).bind fun t386 => (if t385 = true then (handshakerref22_All.j0 k l0 l1 l2 (!t386)) else (handshakerref22_All.j0 k l0 l1 l2 true)))) = some (r1, r2, r3) := h
 clear h
 replace H := Option.bind_eq_some_iff.mp H
 obtain ⟨t385, A40, H⟩ := H
 have A4 := Aside0.mk A40
 clear A40
 replace H := Option.bind_eq_some_iff.mp H
 obtain ⟨t386, A50, H⟩ := H
 have A5 := Aside0.mk A50
 clear A50
 have HC6 := Aside0.mk H
 clear H
 go_enter Try.func19, Try.ntmps19
 go_upto_region 2 with (first | ((with_reducible refine gate_callee (f := 23) rfl ?_); refine goesL_ (some 18) rfl rfl Try.func23 (by kernel_rfl) rfl #[.slice A0 l0.length c0] rfl mp_ ?_; (with_reducible refine (handshakerref22_Right.calls k _ _ l0 t385 _ ?side1 ?side2 A4.out).mono ?_); (case side1 => repeat (first | exact (Kd.V_reads' HO0.out).2.2 | with_reducible first | refine Kd.C_alloc ?_ _ | refine Kd.C_drewN ?_ _ | refine Kd.C_drew ?_)); (case side2 => exact (Kd.V_reads' HO0.out).2.1); rintro e w7 ⟨rfl, hb⟩; refine ⟨_, rfl, ?_⟩; replace HO0 := vb_ HO0 hb; replace HO1 := vb_ HO1 hb; replace HB := Aside0.mk (bst_ hb); (try clear hb); (try clear hb2); (try clear hk); (try clear hi)) | ((with_reducible refine gate_callee (f := 48) rfl ?_); refine goesL_ (some 20) rfl rfl Try.func48 (by kernel_rfl) rfl #[.slice A1 l1.length c1] rfl mp_ ?_; (with_reducible refine (handshakerref02_Right.calls k _ _ l1 t386 _ ?side1 ?side2 A5.out).mono ?_); (case side1 => repeat (first | exact (Kd.V_reads' HO1.out).2.2 | with_reducible first | refine Kd.C_alloc ?_ _ | refine Kd.C_drewN ?_ _ | refine Kd.C_drew ?_)); (case side2 => exact (Kd.V_reads' HO1.out).2.1); rintro e w' ⟨rfl, ⟨nd, rfl⟩⟩; refine ⟨_, rfl, ?_⟩))
 (try simp only [Act.put, List.setIfInBounds_toArray, List.set_cons_zero, List.set_cons_succ])
 go_cut [26] (fun v26 wc => ∃ (kq : Nat) (x26_5 : Bool), v26 = .bool x26_5 ∧ Aside0 (handshakerref22_All.j0 kq l0 l1 l2 x26_5 = some (r1, r2, r3)) ∧ Aside0 (kq ≤ k) ∧ Aside0 (Kd.V k39 39 wc w.heap.size (fun k_ => ((P0_ k_ ∨ P1_ k_) ∨ w.heap.size ≤ k_)) (.slice A0 l0.length c0) l0) ∧ Aside0 (Kd.V k66 66 wc w.heap.size (fun k_ => ((P0_ k_ ∨ P1_ k_) ∨ w.heap.size ≤ k_)) (.slice A1 l1.length c1) l1) ∧ Aside0 (Below w.heap.size w wc))
 case first =>
  have H := HC6.out
  clear HC6
  by_cases c8 : t385 = true
  · subst c8
    rw [if_pos rfl] at H
    have H' := Aside0.mk H
    clear H
    go_wp2
    go_meet
    case rel => exact ⟨_, (!t386), (by first | rfl | (simp; done) | (simp [*]; done)), H', ⟨by first | omega | exact Nat.le_refl _⟩, ⟨vq_ HO0⟩, ⟨vq_ HO1⟩, ⟨bsv_⟩⟩
  · replace c8 := Bool.eq_false_iff.mpr c8
    subst c8
    rw [if_neg (show ¬ (false = true) by decide)] at H
    have H' := Aside0.mk H
    clear H
    go_wp2
    go_meet
    case rel => exact ⟨_, (true), (by first | rfl | (simp; done) | (simp [*]; done)), H', ⟨by first | omega | exact Nat.le_refl _⟩, ⟨vq_ HO0⟩, ⟨vq_ HO1⟩, ⟨bsv_⟩⟩
 case rest =>
  clear HC6
  try clear c1
  try clear c2
  try clear p2
  try clear c4
  try clear c8
  obtain ⟨kq, x26_5, rfl, HA, HJ5, HO_0, HO_1, HB⟩ := hcut
  cases kq with
  | zero => exact absurd HA.out (by simp [handshakerref22_All.j0])
  | succ kj5 =>
   have H := HA.out
   clear HA
   simp only [handshakerref22_All.j0] at H
   by_cases c9 : x26_5 = true
   · subst c9
     rw [if_pos rfl] at H
     simp only [Option.some.injEq, Prod.mk.injEq] at H
     obtain ⟨rfl, rfl, rfl⟩ := H
     go_wp2
     go_ret3
     exact ⟨_, _, by first | rfl | (simp [errW_none, errW_some] <;> rfl) | (simp [*, errW_none, errW_some] <;> rfl), vq_ HO_0, vq_ HO_1, bsv_⟩
   · replace c9 := Bool.eq_false_iff.mpr c9
     subst c9
     rw [if_neg (show ¬ (false = true) by decide)] at H
     have H' := Aside0.mk H
     clear H
     go_wp2
     go_loopg [11, 12, 13] kj5 (fun kq v11 v12 v13 w' => ∃ (x11_2 : List (S39)) (x12_2 : List (S66)) (x13_2 : Int), v13 = .int .i64 x13_2 ∧ Aside0 (handshakerref22_All.l0 kq l0 l1 l2 x11_2 x12_2 x13_2 = some (r1, r2, r3)) ∧ Aside0 (kq ≤ kj5) ∧ Aside0 (Kd.V k39 39 w' w.heap.size (fun k_ => ((P0_ k_ ∨ P1_ k_) ∨ w.heap.size ≤ k_)) (.slice A0 l0.length c0) l0) ∧ Aside0 (Kd.V k66 66 w' w.heap.size (fun k_ => ((P0_ k_ ∨ P1_ k_) ∨ w.heap.size ≤ k_)) (.slice A1 l1.length c1) l1) ∧ Aside0 (Kd.V k39 39 w' w.heap.size (fun k_ => ((P0_ k_ ∨ P1_ k_) ∨ w.heap.size ≤ k_)) v11 x11_2) ∧ Aside0 (Kd.V k66 66 w' w.heap.size (fun k_ => ((P0_ k_ ∨ P1_ k_) ∨ w.heap.size ≤ k_)) v12 x12_2) ∧ Aside0 (Below w.heap.size w w'))
     case atStart => exact ⟨(l0), (l1), (0), (by first | rfl | (simp; done) | (simp [*]; done)), H', ⟨Nat.le_refl _⟩, ⟨vq_ HO_0⟩, ⟨vq_ HO_1⟩, ⟨vq_ HO_0⟩, ⟨vq_ HO_1⟩, ⟨bsv_⟩⟩
     case round =>
      clear H'
      try clear c1
      try clear c2
      try clear p2
      try clear c4
      try clear c8
      try clear c9
      try clear p2
      obtain ⟨x11_2, x12_2, x13_2, rfl, HA, HK2, HO_0, HO_1, HO_11, HO_12, HB⟩ := hrel
      cases gk with
      | zero => exact absurd HA.out (by simp [handshakerref22_All.l0])
      | succ k2 =>
       have H := HA.out
       clear HA
       simp only [handshakerref22_All.l0] at H
       by_cases c10 : x13_2 < (l2.length : Int)
       · rw [if_pos c10] at H
         have c10b0 : decide (x13_2 < (l2.length : Int)) = true := decide_eq_true c10
         clear c10
         by_cases c11 : 0 ≤ x13_2
         · rw [if_pos c11] at H
           have c11b0 : decide (0 ≤ x13_2) = true := decide_eq_true c11
           clear c11
           replace H := Option.bind_eq_some_iff.mp H
           obtain ⟨⟨t388, t391, t394⟩, A120, H⟩ := H
           have A12 := Aside0.mk A120
           clear A120
           by_cases c13 : t394 = 0
           · rw [if_pos c13] at H
             have c13b0 : (t394 == 0) = true := beq_iff_eq.mpr c13
             have c13b1 : (t394 != 0) = false := bne_eq_false_iff_eq.mpr c13
             clear c13
             have H' := Aside0.mk H
             clear H
             have p387 : 0 ≤ (x13_2 : Int) := oda_
             have q387 : x13_2 < (l2.length : Int) := oda_
             obtain ⟨ad387, e387, hx387_0⟩ := Kd.at_int HR2.out x13_2 p387 q387
             cases e387
             replace hx387_0 := (HB.out.cell (World.block_lt_of_cell? w _ hx387_0)).trans hx387_0
             replace p387 := eq_true p387
             replace q387 := eq_true q387
             obtain ⟨Ao14, co14, eo14⟩ := Kd.V_slice HO_11.out
             subst eo14
             obtain ⟨Ao15, co15, eo15⟩ := Kd.V_slice HO_12.out
             subst eo15
             go_wp2_with (first | ((with_reducible refine gate_callee (f := 17) rfl ?_); refine goesL_ (some 44) rfl rfl Try.func17 (by kernel_rfl) rfl #[.slice Ao14 x11_2.length co14, .int .i64 (rd l2 x13_2), .slice Ao15 x12_2.length co15] rfl mp_ ?_; (with_reducible refine (handshakerref22_Do.calls k2 (fun k_ => ((P0_ k_ ∨ P1_ k_) ∨ w.heap.size ≤ k_)) _ _ x11_2 (rd l2 x13_2) (fun k_ => ((P0_ k_ ∨ P1_ k_) ∨ w.heap.size ≤ k_)) _ _ x12_2 t388 t391 t394 _ ?side1 ?side2 A12.out).mono ?_); (case side1 => exact HO_11.out); (case side2 => exact HO_12.out); rintro e w16 ⟨v389, v392, rfl, ho0, ho1, hb⟩; refine ⟨_, rfl, ?_⟩; replace HO_0 := vb_ HO_0 hb; replace HO_1 := vb_ HO_1 hb; replace HO_11 := vb_ HO_11 hb; replace HO_12 := vb_ HO_12 hb; replace HO390 := Aside0.mk (Kd.V_lower (Kd.V_mono (ok' := fun k_ => ((P0_ k_ ∨ P1_ k_) ∨ w.heap.size ≤ k_)) ho0 (fun k_ hk_ => Or.elim hk_ (fun hs_ => Or.elim hs_ (fun hs_ => hs_) (fun hs_ => hs_)) (fun hn_ => (.inr (Nat.le_trans bsz_ hn_))))) bsz_); replace HO393 := Aside0.mk (Kd.V_lower (Kd.V_mono (ok' := fun k_ => ((P0_ k_ ∨ P1_ k_) ∨ w.heap.size ≤ k_)) ho1 (fun k_ hk_ => Or.elim hk_ (fun hs_ => Or.elim hs_ (fun hs_ => hs_) (fun hs_ => hs_)) (fun hn_ => (.inr (Nat.le_trans bsz_ hn_))))) bsz_); replace HB := Aside0.mk (bst_ hb); (try clear hb); (try clear hb2); (try clear hk); (try clear hi); (try clear ho0); (try clear ho1)))
             go_roundg k2
             case measure => have := HJ5.out; have := HK2.out; omega
             case rel => exact ⟨(t388), (t391), (wrap64 (x13_2 + 1)), (by first | rfl | (simp; done) | (simp [*]; done)), H', ⟨by have := HJ5.out; have := HK2.out; omega⟩, ⟨vq_ HO_0⟩, ⟨vq_ HO_1⟩, ⟨vq_ HO390⟩, ⟨vq_ HO393⟩, ⟨bsv_⟩⟩
           · rw [if_neg c13] at H
             have c13b0 : (t394 == 0) = false := beq_eq_false_iff_ne.mpr c13
             have c13b1 : (t394 != 0) = true := bne_iff_ne.mpr c13
             simp only [Option.some.injEq, Prod.mk.injEq] at H
             obtain ⟨rfl, rfl, rfl⟩ := H
             have p387 : 0 ≤ (x13_2 : Int) := oda_
             have q387 : x13_2 < (l2.length : Int) := oda_
             obtain ⟨ad387, e387, hx387_0⟩ := Kd.at_int HR2.out x13_2 p387 q387
             cases e387
             replace hx387_0 := (HB.out.cell (World.block_lt_of_cell? w _ hx387_0)).trans hx387_0
             replace p387 := eq_true p387
             replace q387 := eq_true q387
             obtain ⟨Ao17, co17, eo17⟩ := Kd.V_slice HO_11.out
             subst eo17
             obtain ⟨Ao18, co18, eo18⟩ := Kd.V_slice HO_12.out
             subst eo18
             go_wp2_with (first | ((with_reducible refine gate_callee (f := 17) rfl ?_); refine goesL_ (some 44) rfl rfl Try.func17 (by kernel_rfl) rfl #[.slice Ao17 x11_2.length co17, .int .i64 (rd l2 x13_2), .slice Ao18 x12_2.length co18] rfl mp_ ?_; (with_reducible refine (handshakerref22_Do.calls k2 (fun k_ => ((P0_ k_ ∨ P1_ k_) ∨ w.heap.size ≤ k_)) _ _ x11_2 (rd l2 x13_2) (fun k_ => ((P0_ k_ ∨ P1_ k_) ∨ w.heap.size ≤ k_)) _ _ x12_2 t388 t391 t394 _ ?side1 ?side2 A12.out).mono ?_); (case side1 => exact HO_11.out); (case side2 => exact HO_12.out); rintro e w19 ⟨v389, v392, rfl, ho0, ho1, hb⟩; refine ⟨_, rfl, ?_⟩; replace HO_0 := vb_ HO_0 hb; replace HO_1 := vb_ HO_1 hb; replace HO_11 := vb_ HO_11 hb; replace HO_12 := vb_ HO_12 hb; replace HO390 := Aside0.mk (Kd.V_lower (Kd.V_mono (ok' := fun k_ => ((P0_ k_ ∨ P1_ k_) ∨ w.heap.size ≤ k_)) ho0 (fun k_ hk_ => Or.elim hk_ (fun hs_ => Or.elim hs_ (fun hs_ => hs_) (fun hs_ => hs_)) (fun hn_ => (.inr (Nat.le_trans bsz_ hn_))))) bsz_); replace HO393 := Aside0.mk (Kd.V_lower (Kd.V_mono (ok' := fun k_ => ((P0_ k_ ∨ P1_ k_) ∨ w.heap.size ≤ k_)) ho1 (fun k_ hk_ => Or.elim hk_ (fun hs_ => Or.elim hs_ (fun hs_ => hs_) (fun hs_ => hs_)) (fun hn_ => (.inr (Nat.le_trans bsz_ hn_))))) bsz_); replace HB := Aside0.mk (bst_ hb); (try clear hb); (try clear hb2); (try clear hk); (try clear hi); (try clear ho0); (try clear ho1)))
             go_ret3
             exact ⟨_, _, by first | rfl | (simp [errW_none, errW_some] <;> rfl) | (simp [*, errW_none, errW_some] <;> rfl), vq_ HO_0, vq_ HO_1, bsv_⟩
         · rw [if_neg c11] at H
           exact absurd H (by simp)
       · rw [if_neg c10] at H
         have c10b0 : decide (x13_2 < (l2.length : Int)) = false := decide_eq_false c10
         clear c10
         by_cases c20 : (x11_2.length : Int) = 0
         · rw [if_pos c20] at H
           have c20b0 : ((x11_2.length : Int) == 0) = true := beq_iff_eq.mpr c20
           have c20b1 : ((x11_2.length : Int) != 0) = false := bne_eq_false_iff_eq.mpr c20
           clear c20
           simp only [Option.some.injEq, Prod.mk.injEq] at H
           obtain ⟨rfl, rfl, rfl⟩ := H
           obtain ⟨Ao21, co21, eo21⟩ := Kd.V_slice HO_11.out
           subst eo21
           go_wp2
           go_ret3
           exact ⟨_, _, by first | rfl | (simp [errW_none, errW_some] <;> rfl) | (simp [*, errW_none, errW_some] <;> rfl), vq_ HO_11, vq_ HO_12, bsv_⟩
         · rw [if_neg c20] at H
           have c20b0 : ((x11_2.length : Int) == 0) = false := beq_eq_false_iff_ne.mpr c20
           have c20b1 : ((x11_2.length : Int) != 0) = true := bne_iff_ne.mpr c20
           have c20b2 : ¬ (x11_2 = []) := fun h_ => c20 (by rw [h_]; rfl)
           simp only [Option.some.injEq, Prod.mk.injEq] at H
           obtain ⟨rfl, rfl, rfl⟩ := H
           obtain ⟨Ao22, co22, eo22⟩ := Kd.V_slice HO_11.out
           subst eo22
           go_wp2
           go_ret3
           exact ⟨_, _, by first | rfl | (simp [errW_none, errW_some] <;> rfl) | (simp [*, errW_none, errW_some] <;> rfl), vq_ HO_0, vq_ HO_1, bsv_⟩

/-! ### handshakerref02_Get: function 53 -/
def handshakerref02_Get.f (k : Nat) (l0 : List (S66)) (a1 : Int) : Option (Int × Int) := (handshakerref02_Right.f k l0).bind fun t395 => ((handshakerref02_Live.f k l0 a1).bind fun t396 => (if t395 = true then (if t396 = true then (if 0 ≤ a1 then (if a1 < (l0.length : Int) then (some ((rd_T66 l0 a1).f1, 0)) else (none)) else (none)) else (some (0, 3))) else (some (0, 1))))
theorem handshakerref02_Get.mono : ∀ a0 a1 k, LeO (handshakerref02_Get.f k a0 a1) (handshakerref02_Get.f (k + 1) a0 a1) := by
 intro a0 a1 k
 unfold handshakerref02_Get.f
 repeat' first
  | (with_reducible exact handshakerref02_Live.mono _ _ _)
  | (with_reducible exact handshakerref02_Right.mono _ _)
  | (with_reducible exact LeO.refl _)
  | (with_reducible exact LeO.none _)
  | (with_reducible refine LeO.ite ?_ ?_)
  | (with_reducible refine LeO.bind ?_ (fun _ => ?_))
  | exact handshakerref02_Live.mono _ _ _
  | exact handshakerref02_Right.mono _ _
  | exact LeO.none _
  | refine LeO.ite ?_ ?_
  | refine LeO.bind ?_ (fun _ => ?_)
set_option maxHeartbeats 8000000 in
set_option maxRecDepth 100000 in
theorem handshakerref02_Get.calls (k : Nat) (A0 : Option Addr) (c0 : Nat) (l0 : List (S66)) (a1 : Int) (r1 : Int) (r2 : Int) (w : World) (hr0 : Kd.C k66 w A0 l0.length l0) (hc0 : l0.length ≤ c0) (h : handshakerref02_Get.f k l0 a1 = some (r1, r2)) :
 Calls Try.prog 53 #[.slice A0 l0.length c0, .int .i64 a1] w fun e w' => e = .returned (.tuple #[.int .i64 r1, .int .i64 r2]) ∧ Drawn0 w w' := by
 have HR0 := Aside0.mk hr0
 have HC0 := Aside0.mk hc0
 clear hr0 hc0
 have H : ((handshakerref02_Right.f k l0).bind fun t395 => ((handshakerref02_Live.f k l0 a1).bind fun t396 => (if t395 = true then (if t396 = true then (if 0 ≤ a1 then (if a1 < (l0.length : Int) then (some ((rd_T66 l0 a1).f1, 0)) else (none)) else (none)) else (some (0, 3))) else (some (0, 1))))) = some (r1, r2) := h
 clear h
 replace H := Option.bind_eq_some_iff.mp H
 obtain ⟨t395, A30, H⟩ := H
 have A3 := Aside0.mk A30
 clear A30
 replace H := Option.bind_eq_some_iff.mp H
 obtain ⟨t396, A40, H⟩ := H
 have A4 := Aside0.mk A40
 clear A40
 by_cases c5 : t395 = true
 · subst c5
   rw [if_pos rfl] at H
   by_cases c6 : t396 = true
   · subst c6
     rw [if_pos rfl] at H
     by_cases c7 : 0 ≤ a1
     · rw [if_pos c7] at H
       have c7b0 : decide (0 ≤ a1) = true := decide_eq_true c7
       clear c7
       by_cases c8 : a1 < (l0.length : Int)
       · rw [if_pos c8] at H
         have c8b0 : decide (a1 < (l0.length : Int)) = true := decide_eq_true c8
         clear c8
         simp only [Option.some.injEq, Prod.mk.injEq] at H
         obtain ⟨rfl, rfl⟩ := H
         go_enter Try.func53, Try.ntmps53
         go_wp2_with (first | ((with_reducible refine gate_callee (f := 48) rfl ?_); refine goesL_ (some 9) rfl rfl Try.func48 (by kernel_rfl) rfl #[.slice A0 l0.length c0] rfl mp_ ?_; (with_reducible refine (handshakerref02_Right.calls k _ _ l0 true _ ?side1 ?side2 A3.out).mono ?_); (case side1 => repeat (first | exact HR0.out | with_reducible first | refine Kd.C_alloc ?_ _ | refine Kd.C_drewN ?_ _ | refine Kd.C_drew ?_)); (case side2 => exact HC0.out); rintro e w' ⟨rfl, ⟨nd, rfl⟩⟩; refine ⟨_, rfl, ?_⟩) | ((with_reducible refine gate_callee (f := 49) rfl ?_); refine goesL_ (some 12) rfl rfl Try.func49 (by kernel_rfl) rfl #[.slice A0 l0.length c0, .int .i64 a1] rfl mp_ ?_; (with_reducible refine (handshakerref02_Live.calls k _ _ l0 a1 true _ ?side1 ?side2 A4.out).mono ?_); (case side1 => repeat (first | exact HR0.out | with_reducible first | refine Kd.C_alloc ?_ _ | refine Kd.C_drewN ?_ _ | refine Kd.C_drew ?_)); (case side2 => exact HC0.out); rintro e w' ⟨rfl, ⟨nd, rfl⟩⟩; refine ⟨_, rfl, ?_⟩; have p397 : 0 ≤ (a1 : Int) := oda_; have q397 : a1 < (l0.length : Int) := oda_; obtain ⟨ad397, e397, hx397_0, hx397_1⟩ := at_T66 HR0.out a1 p397 q397; cases e397; replace p397 := eq_true p397; replace q397 := eq_true q397))
         go_ret2
         exact ⟨by first | rfl | (simp; done) | (simp [*]; done), by repeat (first | exact Drawn0.refl _ | apply Drawn0.step)⟩
       · rw [if_neg c8] at H
         exact absurd H (by simp)
     · rw [if_neg c7] at H
       exact absurd H (by simp)
   · replace c6 := Bool.eq_false_iff.mpr c6
     subst c6
     rw [if_neg (show ¬ (false = true) by decide)] at H
     simp only [Option.some.injEq, Prod.mk.injEq] at H
     obtain ⟨rfl, rfl⟩ := H
     go_enter Try.func53, Try.ntmps53
     go_wp2_with (first | ((with_reducible refine gate_callee (f := 48) rfl ?_); refine goesL_ (some 9) rfl rfl Try.func48 (by kernel_rfl) rfl #[.slice A0 l0.length c0] rfl mp_ ?_; (with_reducible refine (handshakerref02_Right.calls k _ _ l0 true _ ?side1 ?side2 A3.out).mono ?_); (case side1 => repeat (first | exact HR0.out | with_reducible first | refine Kd.C_alloc ?_ _ | refine Kd.C_drewN ?_ _ | refine Kd.C_drew ?_)); (case side2 => exact HC0.out); rintro e w' ⟨rfl, ⟨nd, rfl⟩⟩; refine ⟨_, rfl, ?_⟩) | ((with_reducible refine gate_callee (f := 49) rfl ?_); refine goesL_ (some 12) rfl rfl Try.func49 (by kernel_rfl) rfl #[.slice A0 l0.length c0, .int .i64 a1] rfl mp_ ?_; (with_reducible refine (handshakerref02_Live.calls k _ _ l0 a1 false _ ?side1 ?side2 A4.out).mono ?_); (case side1 => repeat (first | exact HR0.out | with_reducible first | refine Kd.C_alloc ?_ _ | refine Kd.C_drewN ?_ _ | refine Kd.C_drew ?_)); (case side2 => exact HC0.out); rintro e w' ⟨rfl, ⟨nd, rfl⟩⟩; refine ⟨_, rfl, ?_⟩))
     go_ret2
     exact ⟨by first | rfl | (simp; done) | (simp [*]; done), by repeat (first | exact Drawn0.refl _ | apply Drawn0.step)⟩
 · replace c5 := Bool.eq_false_iff.mpr c5
   subst c5
   rw [if_neg (show ¬ (false = true) by decide)] at H
   simp only [Option.some.injEq, Prod.mk.injEq] at H
   obtain ⟨rfl, rfl⟩ := H
   go_enter Try.func53, Try.ntmps53
   go_wp2_with (first | ((with_reducible refine gate_callee (f := 48) rfl ?_); refine goesL_ (some 9) rfl rfl Try.func48 (by kernel_rfl) rfl #[.slice A0 l0.length c0] rfl mp_ ?_; (with_reducible refine (handshakerref02_Right.calls k _ _ l0 false _ ?side1 ?side2 A3.out).mono ?_); (case side1 => repeat (first | exact HR0.out | with_reducible first | refine Kd.C_alloc ?_ _ | refine Kd.C_drewN ?_ _ | refine Kd.C_drew ?_)); (case side2 => exact HC0.out); rintro e w' ⟨rfl, ⟨nd, rfl⟩⟩; refine ⟨_, rfl, ?_⟩) | ((with_reducible refine gate_callee (f := 49) rfl ?_); refine goesL_ (some 12) rfl rfl Try.func49 (by kernel_rfl) rfl #[.slice A0 l0.length c0, .int .i64 a1] rfl mp_ ?_; (with_reducible refine (handshakerref02_Live.calls k _ _ l0 a1 t396 _ ?side1 ?side2 A4.out).mono ?_); (case side1 => repeat (first | exact HR0.out | with_reducible first | refine Kd.C_alloc ?_ _ | refine Kd.C_drewN ?_ _ | refine Kd.C_drew ?_)); (case side2 => exact HC0.out); rintro e w' ⟨rfl, ⟨nd, rfl⟩⟩; refine ⟨_, rfl, ?_⟩))
   go_ret2
   exact ⟨by first | rfl | (simp; done) | (simp [*]; done), by repeat (first | exact Drawn0.refl _ | apply Drawn0.step)⟩

/-! ### handshakerref22_See: function 21 -/
def handshakerref22_See.j0 : Nat → List (S39) → Int → List (S66) → Int → Bool → Option (Int × Int)
 | 0, _, _, _, _, _ => none
 | k + 1, x0, x1, x2, x3, x22 => if x22 = true then (some (0, 1)) else ((handshakerref22_holder.f k x0 x3).bind fun t400 => (if t400 > 0 then (if t400 = x1 then ((handshakerref02_Get.f k x2 x3).bind fun bt401 => (some (bt401.1, bt401.2))) else (some (0, 7))) else ((handshakerref02_Get.f k x2 x3).bind fun bt403 => (some (bt403.1, bt403.2)))))
def handshakerref22_See.f (k : Nat) (l0 : List (S39)) (a1 : Int) (l2 : List (S66)) (a3 : Int) : Option (Int × Int) := (handshakerref22_Right.f k l0).bind fun t398 => ((handshakerref02_Right.f k l2).bind fun t399 => (if t398 = true then (handshakerref22_See.j0 k l0 a1 l2 a3 (!t399)) else (handshakerref22_See.j0 k l0 a1 l2 a3 true)))
theorem handshakerref22_See.mono_l : ∀ k, (∀ y0 y1 y2 y3 y4, LeO (handshakerref22_See.j0 k y0 y1 y2 y3 y4) (handshakerref22_See.j0 (k + 1) y0 y1 y2 y3 y4))
 | 0 => fun _ _ _ _ _ r h => by simp [handshakerref22_See.j0] at h
 | k + 1 => by
  have ih0 := handshakerref22_See.mono_l k
  · intro y0 y1 y2 y3 y4
    unfold handshakerref22_See.j0
    repeat' first
    | (with_reducible exact ih0 _ _ _ _ _)
    | (with_reducible exact handshakerref02_Get.mono _ _ _)
    | (with_reducible exact handshakerref02_Right.mono _ _)
    | (with_reducible exact handshakerref22_Right.mono _ _)
    | (with_reducible exact handshakerref22_holder.mono _ _ _)
    | (with_reducible exact LeO.refl _)
    | (with_reducible exact LeO.none _)
    | (with_reducible refine LeO.ite ?_ ?_)
    | (with_reducible refine LeO.bind ?_ (fun _ => ?_))
    | exact ih0 _ _ _ _ _
    | exact handshakerref02_Get.mono _ _ _
    | exact handshakerref02_Right.mono _ _
    | exact handshakerref22_Right.mono _ _
    | exact handshakerref22_holder.mono _ _ _
    | exact LeO.none _
    | refine LeO.ite ?_ ?_
    | refine LeO.bind ?_ (fun _ => ?_)
theorem handshakerref22_See.mono : ∀ a0 a1 a2 a3 k, LeO (handshakerref22_See.f k a0 a1 a2 a3) (handshakerref22_See.f (k + 1) a0 a1 a2 a3) := by
 intro a0 a1 a2 a3 k
 have ih0 := handshakerref22_See.mono_l k
 unfold handshakerref22_See.f
 repeat' first
  | (with_reducible exact ih0 _ _ _ _ _)
  | (with_reducible exact handshakerref02_Get.mono _ _ _)
  | (with_reducible exact handshakerref02_Right.mono _ _)
  | (with_reducible exact handshakerref22_Right.mono _ _)
  | (with_reducible exact handshakerref22_holder.mono _ _ _)
  | (with_reducible exact LeO.refl _)
  | (with_reducible exact LeO.none _)
  | (with_reducible refine LeO.ite ?_ ?_)
  | (with_reducible refine LeO.bind ?_ (fun _ => ?_))
  | exact ih0 _ _ _ _ _
  | exact handshakerref02_Get.mono _ _ _
  | exact handshakerref02_Right.mono _ _
  | exact handshakerref22_Right.mono _ _
  | exact handshakerref22_holder.mono _ _ _
  | exact LeO.none _
  | refine LeO.ite ?_ ?_
  | refine LeO.bind ?_ (fun _ => ?_)
set_option maxHeartbeats 8000000 in
set_option maxRecDepth 100000 in
theorem handshakerref22_See.calls (k : Nat) (A0 : Option Addr) (c0 : Nat) (l0 : List (S39)) (a1 : Int) (A2 : Option Addr) (c2 : Nat) (l2 : List (S66)) (a3 : Int) (r1 : Int) (r2 : Int) (w : World) (hr0 : Kd.C k39 w A0 l0.length l0) (hc0 : l0.length ≤ c0) (hr2 : Kd.C k66 w A2 l2.length l2) (hc2 : l2.length ≤ c2) (h : handshakerref22_See.f k l0 a1 l2 a3 = some (r1, r2)) :
 Calls Try.prog 21 #[.slice A0 l0.length c0, .int .i64 a1, .slice A2 l2.length c2, .int .i64 a3] w fun e w' => e = .returned (.tuple #[.int .i64 r1, .int .i64 r2]) ∧ Below w.heap.size w w' := by
 have HR0 := Aside0.mk hr0
 have HC0 := Aside0.mk hc0
 clear hr0 hc0
 have HR2 := Aside0.mk hr2
 have HC2 := Aside0.mk hc2
 clear hr2 hc2
 have HB := Aside0.mk (Below.refl w.heap.size w)
 have H : ((handshakerref22_Right.f k l0).bind fun t398 => ((handshakerref02_Right.f k l2).bind fun t399 => (if t398 = true then (handshakerref22_See.j0 k l0 a1 l2 a3 (!t399)) else (handshakerref22_See.j0 k l0 a1 l2 a3 true)))) = some (r1, r2) := h
 clear h
 replace H := Option.bind_eq_some_iff.mp H
 obtain ⟨t398, A50, H⟩ := H
 have A5 := Aside0.mk A50
 clear A50
 replace H := Option.bind_eq_some_iff.mp H
 obtain ⟨t399, A60, H⟩ := H
 have A6 := Aside0.mk A60
 clear A60
 have HC7 := Aside0.mk H
 clear H
 go_enter Try.func21, Try.ntmps21
 go_upto_region 2 with (first | ((with_reducible refine gate_callee (f := 23) rfl ?_); refine goesL_ (some 14) rfl rfl Try.func23 (by kernel_rfl) rfl #[.slice A0 l0.length c0] rfl mp_ ?_; (with_reducible refine (handshakerref22_Right.calls k _ _ l0 t398 _ ?side1 ?side2 A5.out).mono ?_); (case side1 => repeat (first | exact HR0.out | with_reducible first | refine Kd.C_alloc ?_ _ | refine Kd.C_drewN ?_ _ | refine Kd.C_drew ?_)); (case side2 => exact HC0.out); rintro e w8 ⟨rfl, hb⟩; refine ⟨_, rfl, ?_⟩; replace HB := Aside0.mk (bst_ hb); (try clear hb); (try clear hb2); (try clear hk); (try clear hi)) | ((with_reducible refine gate_callee (f := 48) rfl ?_); refine goesL_ (some 16) rfl rfl Try.func48 (by kernel_rfl) rfl #[.slice A2 l2.length c2] rfl mp_ ?_; (with_reducible refine (handshakerref02_Right.calls k _ _ l2 t399 _ ?side1 ?side2 A6.out).mono ?_); (case side1 => repeat (first | exact (Kd.C_below HR2.out HB.out) | with_reducible first | refine Kd.C_alloc ?_ _ | refine Kd.C_drewN ?_ _ | refine Kd.C_drew ?_)); (case side2 => exact HC2.out); rintro e w' ⟨rfl, ⟨nd, rfl⟩⟩; refine ⟨_, rfl, ?_⟩))
 (try simp only [Act.put, List.setIfInBounds_toArray, List.set_cons_zero, List.set_cons_succ])
 go_cut [22] (fun v22 wc => ∃ (kq : Nat) (x22_6 : Bool), v22 = .bool x22_6 ∧ Aside0 (handshakerref22_See.j0 kq l0 a1 l2 a3 x22_6 = some (r1, r2)) ∧ Aside0 (kq ≤ k) ∧ Aside0 (Below w.heap.size w wc))
 case first =>
  have H := HC7.out
  clear HC7
  by_cases c9 : t398 = true
  · subst c9
    rw [if_pos rfl] at H
    have H' := Aside0.mk H
    clear H
    go_wp2
    go_meet
    case rel => exact ⟨_, (!t399), (by first | rfl | (simp; done) | (simp [*]; done)), H', ⟨by first | omega | exact Nat.le_refl _⟩, ⟨bsv_⟩⟩
  · replace c9 := Bool.eq_false_iff.mpr c9
    subst c9
    rw [if_neg (show ¬ (false = true) by decide)] at H
    have H' := Aside0.mk H
    clear H
    go_wp2
    go_meet
    case rel => exact ⟨_, (true), (by first | rfl | (simp; done) | (simp [*]; done)), H', ⟨by first | omega | exact Nat.le_refl _⟩, ⟨bsv_⟩⟩
 case rest =>
  clear HC7
  try clear c2
  try clear p2
  try clear c4
  try clear c9
  obtain ⟨kq, x22_6, rfl, HA, HJ6, HB⟩ := hcut
  cases kq with
  | zero => exact absurd HA.out (by simp [handshakerref22_See.j0])
  | succ kj6 =>
   have H := HA.out
   clear HA
   simp only [handshakerref22_See.j0] at H
   by_cases c10 : x22_6 = true
   · subst c10
     rw [if_pos rfl] at H
     simp only [Option.some.injEq, Prod.mk.injEq] at H
     obtain ⟨rfl, rfl⟩ := H
     go_wp2
     go_ret2
     exact ⟨by first | rfl | (simp [errW_none, errW_some] <;> rfl) | (simp [*, errW_none, errW_some] <;> rfl), bsv_⟩
   · replace c10 := Bool.eq_false_iff.mpr c10
     subst c10
     rw [if_neg (show ¬ (false = true) by decide)] at H
     replace H := Option.bind_eq_some_iff.mp H
     obtain ⟨t400, A110, H⟩ := H
     have A11 := Aside0.mk A110
     clear A110
     by_cases c12 : t400 > 0
     · rw [if_pos c12] at H
       have c12b0 : decide (0 < t400) = true := decide_eq_true c12
       clear c12
       by_cases c13 : t400 = a1
       · rw [if_pos c13] at H
         have c13b0 : (t400 == a1) = true := beq_iff_eq.mpr c13
         have c13b1 : (t400 != a1) = false := bne_eq_false_iff_eq.mpr c13
         clear c13
         replace H := Option.bind_eq_some_iff.mp H
         obtain ⟨⟨t401, t402⟩, A140, H⟩ := H
         have A14 := Aside0.mk A140
         clear A140
         simp only [Option.some.injEq, Prod.mk.injEq] at H
         obtain ⟨rfl, rfl⟩ := H
         go_wp2_with (first | ((with_reducible refine gate_callee (f := 52) rfl ?_); refine goesL_ (some 25) rfl rfl Try.func52 (by kernel_rfl) rfl #[.slice A0 l0.length c0, .int .i64 a3] rfl mp_ ?_; (with_reducible refine (handshakerref22_holder.calls kj6 _ _ l0 a3 t400 _ ?side1 ?side2 A11.out).mono ?_); (case side1 => repeat (first | exact (Kd.C_below HR0.out HB.out) | with_reducible first | refine Kd.C_alloc ?_ _ | refine Kd.C_drewN ?_ _ | refine Kd.C_drew ?_)); (case side2 => exact HC0.out); rintro e w' ⟨rfl, ⟨nd, rfl⟩⟩; refine ⟨_, rfl, ?_⟩) | ((with_reducible refine gate_callee (f := 53) rfl ?_); refine goesL_ (some 35) rfl rfl Try.func53 (by kernel_rfl) rfl #[.slice A2 l2.length c2, .int .i64 a3] rfl mp_ ?_; (with_reducible refine (handshakerref02_Get.calls kj6 _ _ l2 a3 t401 t402 _ ?side1 ?side2 A14.out).mono ?_); (case side1 => repeat (first | exact (Kd.C_below HR2.out bsv_) | with_reducible first | refine Kd.C_alloc ?_ _ | refine Kd.C_drewN ?_ _ | refine Kd.C_drew ?_)); (case side2 => exact HC2.out); rintro e w' ⟨rfl, ⟨nd, rfl⟩⟩; refine ⟨_, rfl, ?_⟩))
         go_ret2
         exact ⟨by first | rfl | (simp [errW_none, errW_some] <;> rfl) | (simp [*, errW_none, errW_some] <;> rfl), bsv_⟩
       · rw [if_neg c13] at H
         have c13b0 : (t400 == a1) = false := beq_eq_false_iff_ne.mpr c13
         have c13b1 : (t400 != a1) = true := bne_iff_ne.mpr c13
         simp only [Option.some.injEq, Prod.mk.injEq] at H
         obtain ⟨rfl, rfl⟩ := H
         go_wp2_with (first | ((with_reducible refine gate_callee (f := 52) rfl ?_); refine goesL_ (some 25) rfl rfl Try.func52 (by kernel_rfl) rfl #[.slice A0 l0.length c0, .int .i64 a3] rfl mp_ ?_; (with_reducible refine (handshakerref22_holder.calls kj6 _ _ l0 a3 t400 _ ?side1 ?side2 A11.out).mono ?_); (case side1 => repeat (first | exact (Kd.C_below HR0.out HB.out) | with_reducible first | refine Kd.C_alloc ?_ _ | refine Kd.C_drewN ?_ _ | refine Kd.C_drew ?_)); (case side2 => exact HC0.out); rintro e w' ⟨rfl, ⟨nd, rfl⟩⟩; refine ⟨_, rfl, ?_⟩))
         go_ret2
         exact ⟨by first | rfl | (simp [errW_none, errW_some] <;> rfl) | (simp [*, errW_none, errW_some] <;> rfl), bsv_⟩
     · rw [if_neg c12] at H
       have c12b0 : decide (0 < t400) = false := decide_eq_false c12
       clear c12
       replace H := Option.bind_eq_some_iff.mp H
       obtain ⟨⟨t403, t404⟩, A150, H⟩ := H
       have A15 := Aside0.mk A150
       clear A150
       simp only [Option.some.injEq, Prod.mk.injEq] at H
       obtain ⟨rfl, rfl⟩ := H
       go_wp2_with (first | ((with_reducible refine gate_callee (f := 52) rfl ?_); refine goesL_ (some 25) rfl rfl Try.func52 (by kernel_rfl) rfl #[.slice A0 l0.length c0, .int .i64 a3] rfl mp_ ?_; (with_reducible refine (handshakerref22_holder.calls kj6 _ _ l0 a3 t400 _ ?side1 ?side2 A11.out).mono ?_); (case side1 => repeat (first | exact (Kd.C_below HR0.out HB.out) | with_reducible first | refine Kd.C_alloc ?_ _ | refine Kd.C_drewN ?_ _ | refine Kd.C_drew ?_)); (case side2 => exact HC0.out); rintro e w' ⟨rfl, ⟨nd, rfl⟩⟩; refine ⟨_, rfl, ?_⟩) | ((with_reducible refine gate_callee (f := 53) rfl ?_); refine goesL_ (some 35) rfl rfl Try.func53 (by kernel_rfl) rfl #[.slice A2 l2.length c2, .int .i64 a3] rfl mp_ ?_; (with_reducible refine (handshakerref02_Get.calls kj6 _ _ l2 a3 t403 t404 _ ?side1 ?side2 A15.out).mono ?_); (case side1 => repeat (first | exact (Kd.C_below HR2.out bsv_) | with_reducible first | refine Kd.C_alloc ?_ _ | refine Kd.C_drewN ?_ _ | refine Kd.C_drew ?_)); (case side2 => exact HC2.out); rintro e w' ⟨rfl, ⟨nd, rfl⟩⟩; refine ⟨_, rfl, ?_⟩))
       go_ret2
       exact ⟨by first | rfl | (simp [errW_none, errW_some] <;> rfl) | (simp [*, errW_none, errW_some] <;> rfl), bsv_⟩

/-! ### handshakerref22_Holder: function 25 -/
def handshakerref22_Holder.f (k : Nat) (l0 : List (S39)) (a1 : Int) : Option (Int) := (handshakerref22_Right.f k l0).bind fun t405 => (if t405 = true then ((handshakerref22_holder.f k l0 a1).bind fun t406 => (some t406)) else (some 0))
theorem handshakerref22_Holder.mono : ∀ a0 a1 k, LeO (handshakerref22_Holder.f k a0 a1) (handshakerref22_Holder.f (k + 1) a0 a1) := by
 intro a0 a1 k
 unfold handshakerref22_Holder.f
 repeat' first
  | (with_reducible exact handshakerref22_Right.mono _ _)
  | (with_reducible exact handshakerref22_holder.mono _ _ _)
  | (with_reducible exact LeO.refl _)
  | (with_reducible exact LeO.none _)
  | (with_reducible refine LeO.ite ?_ ?_)
  | (with_reducible refine LeO.bind ?_ (fun _ => ?_))
  | exact handshakerref22_Right.mono _ _
  | exact handshakerref22_holder.mono _ _ _
  | exact LeO.none _
  | refine LeO.ite ?_ ?_
  | refine LeO.bind ?_ (fun _ => ?_)
set_option maxHeartbeats 8000000 in
set_option maxRecDepth 100000 in
theorem handshakerref22_Holder.calls (k : Nat) (A0 : Option Addr) (c0 : Nat) (l0 : List (S39)) (a1 : Int) (r : Int) (w : World) (hr0 : Kd.C k39 w A0 l0.length l0) (hc0 : l0.length ≤ c0) (h : handshakerref22_Holder.f k l0 a1 = some r) :
 Calls Try.prog 25 #[.slice A0 l0.length c0, .int .i64 a1] w fun e w' => e = .returned (.int .i64 r) ∧ Below w.heap.size w w' := by
 have HR0 := Aside0.mk hr0
 have HC0 := Aside0.mk hc0
 clear hr0 hc0
 have HB := Aside0.mk (Below.refl w.heap.size w)
 have H : ((handshakerref22_Right.f k l0).bind fun t405 => (if t405 = true then ((handshakerref22_holder.f k l0 a1).bind fun t406 => (some t406)) else (some 0))) = some r := h
 clear h
 replace H := Option.bind_eq_some_iff.mp H
 obtain ⟨t405, A30, H⟩ := H
 have A3 := Aside0.mk A30
 clear A30
 by_cases c4 : t405 = true
 · subst c4
   rw [if_pos rfl] at H
   replace H := Option.bind_eq_some_iff.mp H
   obtain ⟨t406, A50, H⟩ := H
   have A5 := Aside0.mk A50
   clear A50
   obtain rfl := Option.some.inj H
   go_enter Try.func25, Try.ntmps25
   go_wp2_with (first | ((with_reducible refine gate_callee (f := 23) rfl ?_); refine goesL_ (some 7) rfl rfl Try.func23 (by kernel_rfl) rfl #[.slice A0 l0.length c0] rfl mp_ ?_; (with_reducible refine (handshakerref22_Right.calls k _ _ l0 true _ ?side1 ?side2 A3.out).mono ?_); (case side1 => repeat (first | exact HR0.out | with_reducible first | refine Kd.C_alloc ?_ _ | refine Kd.C_drewN ?_ _ | refine Kd.C_drew ?_)); (case side2 => exact HC0.out); rintro e w6 ⟨rfl, hb⟩; refine ⟨_, rfl, ?_⟩; replace HB := Aside0.mk (bst_ hb); (try clear hb); (try clear hb2); (try clear hk); (try clear hi)) | ((with_reducible refine gate_callee (f := 52) rfl ?_); refine goesL_ (some 12) rfl rfl Try.func52 (by kernel_rfl) rfl #[.slice A0 l0.length c0, .int .i64 a1] rfl mp_ ?_; (with_reducible refine (handshakerref22_holder.calls k _ _ l0 a1 t406 _ ?side1 ?side2 A5.out).mono ?_); (case side1 => repeat (first | exact (Kd.C_below HR0.out HB.out) | with_reducible first | refine Kd.C_alloc ?_ _ | refine Kd.C_drewN ?_ _ | refine Kd.C_drew ?_)); (case side2 => exact HC0.out); rintro e w' ⟨rfl, ⟨nd, rfl⟩⟩; refine ⟨_, rfl, ?_⟩))
   go_ret
   exact ⟨by first | rfl | (simp [errW_none, errW_some] <;> rfl) | (simp [*, errW_none, errW_some] <;> rfl), bsv_⟩
 · replace c4 := Bool.eq_false_iff.mpr c4
   subst c4
   rw [if_neg (show ¬ (false = true) by decide)] at H
   obtain rfl := Option.some.inj H
   go_enter Try.func25, Try.ntmps25
   go_wp2_with (first | ((with_reducible refine gate_callee (f := 23) rfl ?_); refine goesL_ (some 7) rfl rfl Try.func23 (by kernel_rfl) rfl #[.slice A0 l0.length c0] rfl mp_ ?_; (with_reducible refine (handshakerref22_Right.calls k _ _ l0 false _ ?side1 ?side2 A3.out).mono ?_); (case side1 => repeat (first | exact HR0.out | with_reducible first | refine Kd.C_alloc ?_ _ | refine Kd.C_drewN ?_ _ | refine Kd.C_drew ?_)); (case side2 => exact HC0.out); rintro e w7 ⟨rfl, hb⟩; refine ⟨_, rfl, ?_⟩; replace HB := Aside0.mk (bst_ hb); (try clear hb); (try clear hb2); (try clear hk); (try clear hi)))
   go_ret
   exact ⟨by first | rfl | (simp [errW_none, errW_some] <;> rfl) | (simp [*, errW_none, errW_some] <;> rfl), bsv_⟩

end Go.Proofs.Ytihcnbhcemkncaa.B
