-- PRINTED by print.py (a twelfth state) out of the translation. Not trusted: Lean checks it.
import Derived.Test.YtihcnbhcemkncaaBx0
import Derived.Test.YtihcnbhcemkncaaBx3
import Derived.Test.YtihcnbhcemkncaaBx4
import Derived.Test.YtihcnbhcemkncaaBx5
import Derived.Test.YtihcnbhcemkncaaBx6
namespace Go.Proofs.Ytihcnbhcemkncaa.B
open Go.Proofs.Ytihcnbhcemkncaa.Ho
open Go.RowKit Go.Proofs.YtihcnbhcemkncaaW.PrintWords Go.Proofs.YtihcnbhcemkncaaW.PrintLast Go.Proofs.YtihcnbhcemkncaaW.PrintMore
attribute [local go_sem] max2_int min2_int max_two min_two max_three min_three max_four min_four   -- for this text's walks alone
set_option linter.unusedVariables false
set_option linter.unusedSimpArgs false

/-! ### after_All: function 18 -/
mutual
def after_All.j0 : Nat → List (S25) → List (S66) → List Int → Bool → Option ((List (S25)) × (List (S66)) × Int)
 | 0, _, _, _, _ => none
 | k + 1, x0, x1, x2, x21 => if x21 = true then (some (x0, x1, 1)) else (after_All.l0 k x0 x1 x0 x1 x2 (x2.length : Int) 0)
def after_All.l0 : Nat → List (S25) → List (S66) → List (S25) → List (S66) → List Int → Int → Int → Option ((List (S25)) × (List (S66)) × Int)
 | 0, _, _, _, _, _, _, _ => none
 | k + 1, x0, x1, x9, x10, x26, x27, x28 => if x28 < x27 then (if 0 ≤ x28 then (if x28 < (x26.length : Int) then ((after_Do.f k x9 (rd x26 x28) x10).bind fun bt210 => (if bt210.2.2 = 0 then (after_All.l0 k x0 x1 bt210.1 bt210.2.1 x26 x27 (wrap64 (x28 + 1))) else (some (x0, x1, bt210.2.2)))) else (none)) else (none)) else (if (x9.length : Int) > 0 then (some (x0, x1, 3)) else (some (x9, x10, 0)))
end
def after_All.f (k : Nat) (l0 : List (S25)) (l1 : List (S66)) (l2 : List Int) : Option ((List (S25)) × (List (S66)) × Int) := (after_Right.f k l0).bind fun t207 => (if t207 = true then ((heap_Right.f l1).bind fun t208 => (after_All.j0 k l0 l1 l2 (!t208))) else (after_All.j0 k l0 l1 l2 true))
theorem after_All.mono_l : ∀ k, (∀ y0 y1 y2 y3, LeO (after_All.j0 k y0 y1 y2 y3) (after_All.j0 (k + 1) y0 y1 y2 y3)) ∧ (∀ y0 y1 y2 y3 y4 y5 y6, LeO (after_All.l0 k y0 y1 y2 y3 y4 y5 y6) (after_All.l0 (k + 1) y0 y1 y2 y3 y4 y5 y6))
 | 0 => ⟨fun _ _ _ _ r h => by simp [after_All.j0] at h, fun _ _ _ _ _ _ _ r h => by simp [after_All.l0] at h⟩
 | k + 1 => by
  obtain ⟨ih0, ih1⟩ := after_All.mono_l k
  refine ⟨?_, ?_⟩
  · intro y0 y1 y2 y3
    unfold after_All.j0
    repeat' first
    | (with_reducible exact ih0 _ _ _ _)
    | (with_reducible exact ih1 _ _ _ _ _ _ _)
    | (with_reducible exact after_Do.mono _ _ _ _)
    | (with_reducible exact after_Right.mono _ _)
    | (with_reducible exact LeO.refl _)
    | (with_reducible exact LeO.none _)
    | (with_reducible refine LeO.ite ?_ ?_)
    | (with_reducible refine LeO.bind ?_ (fun _ => ?_))
    | exact ih0 _ _ _ _
    | exact ih1 _ _ _ _ _ _ _
    | exact after_Do.mono _ _ _ _
    | exact after_Right.mono _ _
    | exact LeO.none _
    | refine LeO.ite ?_ ?_
    | refine LeO.bind ?_ (fun _ => ?_)
  · intro y0 y1 y2 y3 y4 y5 y6
    unfold after_All.l0
    repeat' first
    | (with_reducible exact ih0 _ _ _ _)
    | (with_reducible exact ih1 _ _ _ _ _ _ _)
    | (with_reducible exact after_Do.mono _ _ _ _)
    | (with_reducible exact after_Right.mono _ _)
    | (with_reducible exact LeO.refl _)
    | (with_reducible exact LeO.none _)
    | (with_reducible refine LeO.ite ?_ ?_)
    | (with_reducible refine LeO.bind ?_ (fun _ => ?_))
    | exact ih0 _ _ _ _
    | exact ih1 _ _ _ _ _ _ _
    | exact after_Do.mono _ _ _ _
    | exact after_Right.mono _ _
    | exact LeO.none _
    | refine LeO.ite ?_ ?_
    | refine LeO.bind ?_ (fun _ => ?_)
theorem after_All.mono : ∀ a0 a1 a2 k, LeO (after_All.f k a0 a1 a2) (after_All.f (k + 1) a0 a1 a2) := by
 intro a0 a1 a2 k
 obtain ⟨ih0, ih1⟩ := after_All.mono_l k
 unfold after_All.f
 repeat' first
  | (with_reducible exact ih0 _ _ _ _)
  | (with_reducible exact ih1 _ _ _ _ _ _ _)
  | (with_reducible exact after_Do.mono _ _ _ _)
  | (with_reducible exact after_Right.mono _ _)
  | (with_reducible exact LeO.refl _)
  | (with_reducible exact LeO.none _)
  | (with_reducible refine LeO.ite ?_ ?_)
  | (with_reducible refine LeO.bind ?_ (fun _ => ?_))
  | exact ih0 _ _ _ _
  | exact ih1 _ _ _ _ _ _ _
  | exact after_Do.mono _ _ _ _
  | exact after_Right.mono _ _
  | exact LeO.none _
  | refine LeO.ite ?_ ?_
  | refine LeO.bind ?_ (fun _ => ?_)
set_option maxHeartbeats 8000000 in
set_option maxRecDepth 100000 in
theorem after_All.calls (k : Nat) (P0_ : Nat → Prop) (A0 : Option Addr) (c0 : Nat) (l0 : List (S25)) (P1_ : Nat → Prop) (A1 : Option Addr) (c1 : Nat) (l1 : List (S66)) (A2 : Option Addr) (c2 : Nat) (l2 : List Int) (r1 : List (S25)) (r2 : List (S66)) (r3 : Int) (w : World) (hs0 : Kd.V k25 25 w w.heap.size (fun k_ => P0_ k_) (.slice A0 l0.length c0) l0) (hs1 : Kd.V k66 66 w w.heap.size (fun k_ => P1_ k_) (.slice A1 l1.length c1) l1) (hr2 : Kd.C (Kd.int .i64) w A2 l2.length l2) (hc2 : l2.length ≤ c2) (h : after_All.f k l0 l1 l2 = some (r1, r2, r3)) :
 Calls Try.prog 18 #[.slice A0 l0.length c0, .slice A1 l1.length c1, .slice A2 l2.length c2] w fun e w' => ∃ v0_ v1_ : Value, e = .returned (.tuple #[v0_, v1_, .int .i64 r3]) ∧ Kd.V k25 25 w' w.heap.size (fun k_ => ((P0_ k_ ∨ P1_ k_) ∨ w.heap.size ≤ k_)) v0_ r1 ∧ Kd.V k66 66 w' w.heap.size (fun k_ => ((P0_ k_ ∨ P1_ k_) ∨ w.heap.size ≤ k_)) v1_ r2 ∧ Below w.heap.size w w' := by
 have HO0 := Aside0.mk (show Kd.V k25 25 w w.heap.size (fun k_ => ((P0_ k_ ∨ P1_ k_) ∨ w.heap.size ≤ k_)) (.slice A0 l0.length c0) l0 from Kd.V_mono hs0 (fun k_ hk => .inl (.inl hk)))
 have HO1 := Aside0.mk (show Kd.V k66 66 w w.heap.size (fun k_ => ((P0_ k_ ∨ P1_ k_) ∨ w.heap.size ≤ k_)) (.slice A1 l1.length c1) l1 from Kd.V_mono hs1 (fun k_ hk => .inl (.inr hk)))
 have HR2 := Aside0.mk hr2
 have HC2 := Aside0.mk hc2
 clear hr2 hc2
 have HB := Aside0.mk (Below.refl w.heap.size w)
 have H : ((after_Right.f k l0).bind fun t207 => (if t207 = true then ((heap_Right.f l1).bind fun t208 => (after_All.j0 k l0 l1 l2 (!t208))) else (after_All.j0 k l0 l1 l2 true))) = some (r1, r2, r3) := h
 clear h
 have HC4 := Aside0.mk H
 clear H
 go_enter Try.func18, Try.ntmps18
 go_upto_region 1 with (fail)
 go_cut [21] (fun v21 wc => ∃ (kq : Nat) (x21_3 : Bool), v21 = .bool x21_3 ∧ Aside0 (after_All.j0 kq l0 l1 l2 x21_3 = some (r1, r2, r3)) ∧ Aside0 (kq ≤ k) ∧ Aside0 (Kd.V k25 25 wc w.heap.size (fun k_ => ((P0_ k_ ∨ P1_ k_) ∨ w.heap.size ≤ k_)) (.slice A0 l0.length c0) l0) ∧ Aside0 (Kd.V k66 66 wc w.heap.size (fun k_ => ((P0_ k_ ∨ P1_ k_) ∨ w.heap.size ≤ k_)) (.slice A1 l1.length c1) l1) ∧ Aside0 (Below w.heap.size w wc))
 case first =>
  have H := HC4.out
  clear HC4
  replace H := Option.bind_eq_some_iff.mp H
  obtain ⟨t207, A50, H⟩ := H
  have A5 := Aside0.mk A50
  clear A50
  by_cases c6 : t207 = true
  · subst c6
    rw [if_pos rfl] at H
    replace H := Option.bind_eq_some_iff.mp H
    obtain ⟨t208, A70, H⟩ := H
    have A7 := Aside0.mk A70
    clear A70
    have H' := Aside0.mk H
    clear H
    go_wp2_with (first | ((with_reducible refine gate_callee (f := 22) rfl ?_); refine goesL_ (some 15) rfl rfl Try.func22 (by kernel_rfl) rfl #[.slice A0 l0.length c0] rfl mp_ ?_; (with_reducible refine (after_Right.calls k _ _ l0 true _ ?side1 ?side2 A5.out).mono ?_); (case side1 => repeat (first | exact (Kd.V_reads' HO0.out).2.2 | with_reducible first | refine Kd.C_alloc ?_ _ | refine Kd.C_drewN ?_ _ | refine Kd.C_drew ?_)); (case side2 => exact (Kd.V_reads' HO0.out).2.1); rintro e w8 ⟨rfl, hb⟩; refine ⟨_, rfl, ?_⟩; replace HO0 := vb_ HO0 hb; replace HO1 := vb_ HO1 hb; replace HB := Aside0.mk (bst_ hb); (try clear hb); (try clear hb2); (try clear hk); (try clear hi)) | (go_at_call 45; (with_reducible refine (heap_Right.calls _ _ l1 t208 _ ?side1 ?side2 A7.out).mono ?_); (case side1 => repeat (first | exact (Kd.V_reads' HO1.out).2.2 | with_reducible first | refine Kd.C_alloc ?_ _ | refine Kd.C_drewN ?_ _ | refine Kd.C_drew ?_)); (case side2 => exact (Kd.V_reads' HO1.out).2.1); rintro e w9 ⟨rfl, hb⟩; replace HO0 := vb_ HO0 hb; replace HO1 := vb_ HO1 hb; replace HB := Aside0.mk (bst_ hb); (try clear hb); (try clear hb2); (try clear hk); (try clear hi)))
    go_meet
    case rel => exact ⟨_, (!t208), (by first | rfl | (simp; done) | (simp [*]; done)), H', ⟨by first | omega | exact Nat.le_refl _⟩, ⟨vq_ HO0⟩, ⟨vq_ HO1⟩, ⟨bsv_⟩⟩
  · replace c6 := Bool.eq_false_iff.mpr c6
    subst c6
    rw [if_neg (show ¬ (false = true) by decide)] at H
    have H' := Aside0.mk H
    clear H
    go_wp2_with (first | ((with_reducible refine gate_callee (f := 22) rfl ?_); refine goesL_ (some 15) rfl rfl Try.func22 (by kernel_rfl) rfl #[.slice A0 l0.length c0] rfl mp_ ?_; (with_reducible refine (after_Right.calls k _ _ l0 false _ ?side1 ?side2 A5.out).mono ?_); (case side1 => repeat (first | exact (Kd.V_reads' HO0.out).2.2 | with_reducible first | refine Kd.C_alloc ?_ _ | refine Kd.C_drewN ?_ _ | refine Kd.C_drew ?_)); (case side2 => exact (Kd.V_reads' HO0.out).2.1); rintro e w10 ⟨rfl, hb⟩; refine ⟨_, rfl, ?_⟩; replace HO0 := vb_ HO0 hb; replace HO1 := vb_ HO1 hb; replace HB := Aside0.mk (bst_ hb); (try clear hb); (try clear hb2); (try clear hk); (try clear hi)))
    go_meet
    case rel => exact ⟨_, (true), (by first | rfl | (simp; done) | (simp [*]; done)), H', ⟨by first | omega | exact Nat.le_refl _⟩, ⟨vq_ HO0⟩, ⟨vq_ HO1⟩, ⟨bsv_⟩⟩
 case rest =>
  clear HC4
  try clear c1
  try clear c2
  try clear p2
  try clear c6
  obtain ⟨kq, x21_3, rfl, HA, HJ3, HO_0, HO_1, HB⟩ := hcut
  cases kq with
  | zero => exact absurd HA.out (by simp [after_All.j0])
  | succ kj3 =>
   have H := HA.out
   clear HA
   simp only [after_All.j0] at H
   by_cases c11 : x21_3 = true
   · subst c11
     rw [if_pos rfl] at H
     simp only [Option.some.injEq, Prod.mk.injEq] at H
     obtain ⟨rfl, rfl, rfl⟩ := H
     go_wp2
     go_ret3
     exact ⟨_, _, by first | rfl | (simp [errW_none, errW_some] <;> rfl) | (simp [*, errW_none, errW_some] <;> rfl), vq_ HO_0, vq_ HO_1, bsv_⟩
   · replace c11 := Bool.eq_false_iff.mpr c11
     subst c11
     rw [if_neg (show ¬ (false = true) by decide)] at H
     have H' := Aside0.mk H
     clear H
     go_wp2
     go_loopg [9, 10, 28] kj3 (fun kq v9 v10 v28 w' => ∃ (x9_2 : List (S25)) (x10_2 : List (S66)) (x28_2 : Int), v28 = .int .i64 x28_2 ∧ Aside0 (after_All.l0 kq l0 l1 x9_2 x10_2 l2 (l2.length : Int) x28_2 = some (r1, r2, r3)) ∧ Aside0 (kq ≤ kj3) ∧ Aside0 (Kd.V k25 25 w' w.heap.size (fun k_ => ((P0_ k_ ∨ P1_ k_) ∨ w.heap.size ≤ k_)) (.slice A0 l0.length c0) l0) ∧ Aside0 (Kd.V k66 66 w' w.heap.size (fun k_ => ((P0_ k_ ∨ P1_ k_) ∨ w.heap.size ≤ k_)) (.slice A1 l1.length c1) l1) ∧ Aside0 (Kd.V k25 25 w' w.heap.size (fun k_ => ((P0_ k_ ∨ P1_ k_) ∨ w.heap.size ≤ k_)) v9 x9_2) ∧ Aside0 (Kd.V k66 66 w' w.heap.size (fun k_ => ((P0_ k_ ∨ P1_ k_) ∨ w.heap.size ≤ k_)) v10 x10_2) ∧ Aside0 (Below w.heap.size w w'))
     case atStart => exact ⟨(l0), (l1), (0), (by first | rfl | (simp; done) | (simp [*]; done)), H', ⟨Nat.le_refl _⟩, ⟨vq_ HO_0⟩, ⟨vq_ HO_1⟩, ⟨vq_ HO_0⟩, ⟨vq_ HO_1⟩, ⟨bsv_⟩⟩
     case round =>
      clear H'
      try clear c1
      try clear c2
      try clear p2
      try clear c6
      try clear c11
      try clear p2
      obtain ⟨x9_2, x10_2, x28_2, rfl, HA, HK2, HO_0, HO_1, HO_9, HO_10, HB⟩ := hrel
      cases gk with
      | zero => exact absurd HA.out (by simp [after_All.l0])
      | succ k2 =>
       have H := HA.out
       clear HA
       simp only [after_All.l0] at H
       by_cases c12 : x28_2 < (l2.length : Int)
       · rw [if_pos c12] at H
         have c12b0 : decide (x28_2 < (l2.length : Int)) = true := decide_eq_true c12
         clear c12
         by_cases c13 : 0 ≤ x28_2
         · rw [if_pos c13] at H
           have c13b0 : decide (0 ≤ x28_2) = true := decide_eq_true c13
           clear c13
           by_cases c14 : x28_2 < (l2.length : Int)
           · rw [if_pos c14] at H
             have c14b0 : decide (x28_2 < (l2.length : Int)) = true := decide_eq_true c14
             clear c14
             replace H := Option.bind_eq_some_iff.mp H
             obtain ⟨⟨t210, t213, t216⟩, A150, H⟩ := H
             have A15 := Aside0.mk A150
             clear A150
             by_cases c16 : t216 = 0
             · rw [if_pos c16] at H
               have c16b0 : (t216 == 0) = true := beq_iff_eq.mpr c16
               have c16b1 : (t216 != 0) = false := bne_eq_false_iff_eq.mpr c16
               clear c16
               have H' := Aside0.mk H
               clear H
               have p209 : 0 ≤ (x28_2 : Int) := oda_
               have q209 : x28_2 < (l2.length : Int) := oda_
               obtain ⟨ad209, e209, hx209_0⟩ := Kd.at_int HR2.out x28_2 p209 q209
               cases e209
               replace hx209_0 := (HB.out.cell (World.block_lt_of_cell? w _ hx209_0)).trans hx209_0
               replace p209 := eq_true p209
               replace q209 := eq_true q209
               obtain ⟨Ao17, co17, eo17⟩ := Kd.V_slice HO_9.out
               subst eo17
               obtain ⟨Ao18, co18, eo18⟩ := Kd.V_slice HO_10.out
               subst eo18
               go_wp2_with (first | ((with_reducible refine gate_callee (f := 16) rfl ?_); refine goesL_ (some 36) rfl rfl Try.func16 (by kernel_rfl) rfl #[.slice Ao17 x9_2.length co17, .int .i64 (rd l2 x28_2), .slice Ao18 x10_2.length co18] rfl mp_ ?_; (with_reducible refine (after_Do.calls k2 (fun k_ => ((P0_ k_ ∨ P1_ k_) ∨ w.heap.size ≤ k_)) _ _ x9_2 (rd l2 x28_2) (fun k_ => ((P0_ k_ ∨ P1_ k_) ∨ w.heap.size ≤ k_)) _ _ x10_2 t210 t213 t216 _ ?side1 ?side2 A15.out).mono ?_); (case side1 => exact HO_9.out); (case side2 => exact HO_10.out); rintro e w19 ⟨v211, v214, rfl, ho0, ho1, hb⟩; refine ⟨_, rfl, ?_⟩; replace HO_0 := vb_ HO_0 hb; replace HO_1 := vb_ HO_1 hb; replace HO_9 := vb_ HO_9 hb; replace HO_10 := vb_ HO_10 hb; replace HO212 := Aside0.mk (Kd.V_lower (Kd.V_mono (ok' := fun k_ => ((P0_ k_ ∨ P1_ k_) ∨ w.heap.size ≤ k_)) ho0 (fun k_ hk_ => Or.elim hk_ (fun hs_ => Or.elim hs_ (fun hs_ => hs_) (fun hs_ => hs_)) (fun hn_ => (.inr (Nat.le_trans bsz_ hn_))))) bsz_); replace HO215 := Aside0.mk (Kd.V_lower (Kd.V_mono (ok' := fun k_ => ((P0_ k_ ∨ P1_ k_) ∨ w.heap.size ≤ k_)) ho1 (fun k_ hk_ => Or.elim hk_ (fun hs_ => Or.elim hs_ (fun hs_ => hs_) (fun hs_ => hs_)) (fun hn_ => (.inr (Nat.le_trans bsz_ hn_))))) bsz_); replace HB := Aside0.mk (bst_ hb); (try clear hb); (try clear hb2); (try clear hk); (try clear hi); (try clear ho0); (try clear ho1)))
               go_roundg k2
               case measure => have := HJ3.out; have := HK2.out; omega
               case rel => exact ⟨(t210), (t213), (wrap64 (x28_2 + 1)), (by first | rfl | (simp; done) | (simp [*]; done)), H', ⟨by have := HJ3.out; have := HK2.out; omega⟩, ⟨vq_ HO_0⟩, ⟨vq_ HO_1⟩, ⟨vq_ HO212⟩, ⟨vq_ HO215⟩, ⟨bsv_⟩⟩
             · rw [if_neg c16] at H
               have c16b0 : (t216 == 0) = false := beq_eq_false_iff_ne.mpr c16
               have c16b1 : (t216 != 0) = true := bne_iff_ne.mpr c16
               simp only [Option.some.injEq, Prod.mk.injEq] at H
               obtain ⟨rfl, rfl, rfl⟩ := H
               have p209 : 0 ≤ (x28_2 : Int) := oda_
               have q209 : x28_2 < (l2.length : Int) := oda_
               obtain ⟨ad209, e209, hx209_0⟩ := Kd.at_int HR2.out x28_2 p209 q209
               cases e209
               replace hx209_0 := (HB.out.cell (World.block_lt_of_cell? w _ hx209_0)).trans hx209_0
               replace p209 := eq_true p209
               replace q209 := eq_true q209
               obtain ⟨Ao20, co20, eo20⟩ := Kd.V_slice HO_9.out
               subst eo20
               obtain ⟨Ao21, co21, eo21⟩ := Kd.V_slice HO_10.out
               subst eo21
               go_wp2_with (first | ((with_reducible refine gate_callee (f := 16) rfl ?_); refine goesL_ (some 36) rfl rfl Try.func16 (by kernel_rfl) rfl #[.slice Ao20 x9_2.length co20, .int .i64 (rd l2 x28_2), .slice Ao21 x10_2.length co21] rfl mp_ ?_; (with_reducible refine (after_Do.calls k2 (fun k_ => ((P0_ k_ ∨ P1_ k_) ∨ w.heap.size ≤ k_)) _ _ x9_2 (rd l2 x28_2) (fun k_ => ((P0_ k_ ∨ P1_ k_) ∨ w.heap.size ≤ k_)) _ _ x10_2 t210 t213 t216 _ ?side1 ?side2 A15.out).mono ?_); (case side1 => exact HO_9.out); (case side2 => exact HO_10.out); rintro e w22 ⟨v211, v214, rfl, ho0, ho1, hb⟩; refine ⟨_, rfl, ?_⟩; replace HO_0 := vb_ HO_0 hb; replace HO_1 := vb_ HO_1 hb; replace HO_9 := vb_ HO_9 hb; replace HO_10 := vb_ HO_10 hb; replace HO212 := Aside0.mk (Kd.V_lower (Kd.V_mono (ok' := fun k_ => ((P0_ k_ ∨ P1_ k_) ∨ w.heap.size ≤ k_)) ho0 (fun k_ hk_ => Or.elim hk_ (fun hs_ => Or.elim hs_ (fun hs_ => hs_) (fun hs_ => hs_)) (fun hn_ => (.inr (Nat.le_trans bsz_ hn_))))) bsz_); replace HO215 := Aside0.mk (Kd.V_lower (Kd.V_mono (ok' := fun k_ => ((P0_ k_ ∨ P1_ k_) ∨ w.heap.size ≤ k_)) ho1 (fun k_ hk_ => Or.elim hk_ (fun hs_ => Or.elim hs_ (fun hs_ => hs_) (fun hs_ => hs_)) (fun hn_ => (.inr (Nat.le_trans bsz_ hn_))))) bsz_); replace HB := Aside0.mk (bst_ hb); (try clear hb); (try clear hb2); (try clear hk); (try clear hi); (try clear ho0); (try clear ho1)))
               go_ret3
               exact ⟨_, _, by first | rfl | (simp [errW_none, errW_some] <;> rfl) | (simp [*, errW_none, errW_some] <;> rfl), vq_ HO_0, vq_ HO_1, bsv_⟩
           · rw [if_neg c14] at H
             exact absurd H (by simp)
         · rw [if_neg c13] at H
           exact absurd H (by simp)
       · rw [if_neg c12] at H
         have c12b0 : decide (x28_2 < (l2.length : Int)) = false := decide_eq_false c12
         clear c12
         by_cases c23 : (x9_2.length : Int) > 0
         · rw [if_pos c23] at H
           have c23b0 : decide (0 < (x9_2.length : Int)) = true := decide_eq_true c23
           have c23b1 : decide (0 < x9_2.length) = true := decide_eq_true (by omega)
           clear c23
           simp only [Option.some.injEq, Prod.mk.injEq] at H
           obtain ⟨rfl, rfl, rfl⟩ := H
           obtain ⟨Ao24, co24, eo24⟩ := Kd.V_slice HO_9.out
           subst eo24
           go_wp2
           go_ret3
           exact ⟨_, _, by first | rfl | (simp [errW_none, errW_some] <;> rfl) | (simp [*, errW_none, errW_some] <;> rfl), vq_ HO_0, vq_ HO_1, bsv_⟩
         · rw [if_neg c23] at H
           have c23b0 : decide (0 < (x9_2.length : Int)) = false := decide_eq_false c23
           have c23b1 : decide (0 < x9_2.length) = false := decide_eq_false (by omega)
           clear c23
           simp only [Option.some.injEq, Prod.mk.injEq] at H
           obtain ⟨rfl, rfl, rfl⟩ := H
           obtain ⟨Ao25, co25, eo25⟩ := Kd.V_slice HO_9.out
           subst eo25
           go_wp2
           go_ret3
           exact ⟨_, _, by first | rfl | (simp [errW_none, errW_some] <;> rfl) | (simp [*, errW_none, errW_some] <;> rfl), vq_ HO_9, vq_ HO_10, bsv_⟩

/-! ### after_Holder_1: function 54 -/
def after_Holder_1.f (a0_0 : Int) (l0_1 : List (S61)) (a1 : Int) : Option (Bool) := (after_Job_holds.f a0_0 l0_1 a1).bind fun t218 => (some t218)
set_option maxHeartbeats 8000000 in
set_option maxRecDepth 100000 in
theorem after_Holder_1.calls (a0_0 : Int) (A0_1 : Option Addr) (c0_1 : Nat) (l0_1 : List (S61)) (g1 : Nat) (a1 : Int) (r : Bool) (w : World) (hr0_1 : Kd.C k61 w A0_1 l0_1.length l0_1) (hc0_1 : l0_1.length ≤ c0_1) (hb1 : w.heap[g1]? = some (.cells #[.int .i64 a1] 3 (0, 0))) (h : after_Holder_1.f a0_0 l0_1 a1 = some r) :
 Calls Try.prog 54 #[.agg #[.int .i64 a0_0, .slice A0_1 l0_1.length c0_1], .pointer (some ⟨g1, 0, none⟩)] w fun e w' => e = .returned (.bool r) ∧ Below w.heap.size w w' := by
 have hu25 := Try.underlying25
 have HR0_1 := Aside0.mk hr0_1
 have HC0_1 := Aside0.mk hc0_1
 clear hr0_1 hc0_1
 have BK1 := Aside0.mk hb1
 clear hb1
 have HB := Aside0.mk (Below.refl w.heap.size w)
 have H : ((after_Job_holds.f a0_0 l0_1 a1).bind fun t218 => (some t218)) = some r := h
 clear h
 replace H := Option.bind_eq_some_iff.mp H
 obtain ⟨t218, A30, H⟩ := H
 have A3 := Aside0.mk A30
 clear A30
 obtain rfl := Option.some.inj H
 go_enter Try.func54, Try.ntmps54
 go_wp2_with (first | ((with_reducible refine gate_dst (N := 2) rfl ?_); refine box_event ?hg (N := 2) ?hd (cs := #[.int .i64 a0_0, .slice A0_1 l0_1.length c0_1]) (t := 25) ?hr ?_; (case hd => rfl); (case hg => rfl); (case hr => first | (go_simp; done) | (go_simp; rfl)); intro gb217 hg w4 hbox hb; replace BK217 := Aside0.mk (hbox); replace GW217 := Aside0.mk ((by rw [hg]; exact (below_size bsw_) : w.heap.size ≤ gb217)); replace HB := Aside0.mk (below_step bsw_ hb); replace GE217 := GW217; replace NB1_217 := Aside0.mk ((by rw [hg]; exact Nat.ne_of_lt (blk_lt (g := g1) (o := .cells #[.int .i64 a1] 3 (0, 0)) (bq_ BK1)) : g1 ≠ gb217)); replace NB217_1 := Aside0.mk ((by rw [hg]; exact Nat.ne_of_gt (blk_lt (g := g1) (o := .cells #[.int .i64 a1] 3 (0, 0)) (bq_ BK1)) : gb217 ≠ g1)); replace BK1 := bb_ BK1 hb; clear hb hbox hg; have hnb5 := NB217_1.out; have hnc5 := NB1_217.out; have hcz6_0 : w4.cell? ⟨gb217, 0, none⟩ = some (.int .i64 a0_0) := (blk_cell BK217.out 0).trans rfl; have hcz6_1 : w4.cell? ⟨gb217, 1, none⟩ = some (.slice A0_1 l0_1.length c0_1) := (blk_cell BK217.out 1).trans rfl; have hfz6_0 := blk_frozen BK217.out 0; have hfz6_1 := blk_frozen BK217.out 1; have hcz7_0 : w4.cell? ⟨g1, 0, none⟩ = some (.int .i64 a1) := (blk_cell BK1.out 0).trans rfl; have hfz7_0 := blk_frozen BK1.out 0) | ((with_reducible refine gate_callee (f := 55) rfl ?_); refine goesL_ (some 6) rfl rfl Try.func55 (by kernel_rfl) rfl #[.agg #[.int .i64 a0_0, .slice A0_1 l0_1.length c0_1], .int .i64 a1] rfl mp_ ?_; (with_reducible refine (after_Job_holds.calls a0_0 _ _ l0_1 a1 t218 _ ?side1 ?side2 A3.out).mono ?_); (case side1 => repeat (first | exact (Kd.C_below HR0_1.out HB.out) | with_reducible first | refine Kd.C_alloc ?_ _ | refine Kd.C_drewN ?_ _ | refine Kd.C_drew ?_)); (case side2 => exact HC0_1.out); rintro e w8 ⟨rfl, hb⟩; refine ⟨_, rfl, ?_⟩; replace BK1 := bb_ BK1 hb; replace BK217 := bb_ BK217 hb; replace HB := Aside0.mk (below_step (by repeat (first | (with_reducible first | exact HB.out | apply below_alloc | apply pw_below_drewN | apply below_drew1 | refine below_set ?_ GE1.out | refine below_set ?_ GE217.out) | exact HB.out)) hb); (try clear hb); (try clear hb2); (try clear hk); (try clear hi)))
 go_ret
 exact ⟨by first | rfl | (simp [errW_none, errW_some] <;> rfl) | (simp [*, errW_none, errW_some] <;> rfl), by repeat (first | (with_reducible first | exact HB.out | apply below_alloc | apply pw_below_drewN | apply below_drew1 | refine below_set ?_ GE1.out | refine below_set ?_ GE217.out) | exact HB.out)⟩

/-! ### idx_at_after_Holder_1: function 43 at the function value 54 -/
def idx_at_after_Holder_1.f (l0 : List (S25)) (a1 : Int) : Option (Int) := idxF (fun x => after_Holder_1.f  x.f0 x.f1 a1) l0 0
theorem idx_at_after_Holder_1.calls (A0 : Option Addr) (c0 : Nat) (l0 : List (S25)) (g1 : Nat) (a1 : Int) (r : Int) (w : World) (hr0 : Kd.C k25 w A0 l0.length l0) (hc0 : l0.length ≤ c0) (hb1 : w.heap[g1]? = some (.cells #[.int .i64 a1] 3 (0, 0))) (h : idx_at_after_Holder_1.f l0 a1 = some r) :
 Calls Try.prog 43 #[.slice A0 l0.length c0, .func (.func 54) #[] #[.pointer (some ⟨g1, 0, none⟩)]] w fun e w' => e = .returned (.int .i64 r) ∧ Below w.heap.size w w' :=
 ho43 (fun x => after_Holder_1.f  x.f0 x.f1 a1) 54 #[] #[.pointer (some ⟨g1, 0, none⟩)] (enters_of Try.func54 (by kernel_rfl) rfl) A0 c0 l0 r w hr0 (fun W x A1 e1 b hW_ hl1 hs1 hx => by
  show Calls Try.prog 54 #[.agg #[.int .i64 x.f0, .slice A1 x.f1.length e1], .pointer (some ⟨g1, 0, none⟩)] W _
  exact (after_Holder_1.calls  x.f0 A1 e1 x.f1 g1 a1 b W hs1 hl1 (hW_.block g1 (by have := (Array.getElem?_eq_some_iff.1 hb1).1; exact this) ▸ hb1) hx).mono (fun e W' ⟨he, hd⟩ => ⟨he, hd⟩)) h

/-! ### after_Holder: function 24 -/
def after_Holder.f (k : Nat) (l0 : List (S25)) (a1 : Int) : Option (Int) := (idx_at_after_Holder_1.f l0 a1).bind fun t220 => (if t220 < 0 then (some 0) else ((after_Right.f k l0).bind fun t221 => (if t221 = true then (if 0 ≤ t220 then (if t220 < (l0.length : Int) then (some ((rd_T25 l0 t220).f0)) else (none)) else (none)) else (some 0))))
theorem after_Holder.mono : ∀ a0 a1 k, LeO (after_Holder.f k a0 a1) (after_Holder.f (k + 1) a0 a1) := by
 intro a0 a1 k
 unfold after_Holder.f
 repeat' first
  | (with_reducible exact after_Right.mono _ _)
  | (with_reducible exact LeO.refl _)
  | (with_reducible exact LeO.none _)
  | (with_reducible refine LeO.ite ?_ ?_)
  | (with_reducible refine LeO.bind ?_ (fun _ => ?_))
  | exact after_Right.mono _ _
  | exact LeO.none _
  | refine LeO.ite ?_ ?_
  | refine LeO.bind ?_ (fun _ => ?_)
set_option maxHeartbeats 8000000 in
set_option maxRecDepth 100000 in
theorem after_Holder.calls (k : Nat) (A0 : Option Addr) (c0 : Nat) (l0 : List (S25)) (a1 : Int) (r : Int) (w : World) (hr0 : Kd.C k25 w A0 l0.length l0) (hc0 : l0.length ≤ c0) (h : after_Holder.f k l0 a1 = some r) :
 Calls Try.prog 24 #[.slice A0 l0.length c0, .int .i64 a1] w fun e w' => e = .returned (.int .i64 r) ∧ Below w.heap.size w w' := by
 have HR0 := Aside0.mk hr0
 have HC0 := Aside0.mk hc0
 clear hr0 hc0
 have HB := Aside0.mk (Below.refl w.heap.size w)
 have H : ((idx_at_after_Holder_1.f l0 a1).bind fun t220 => (if t220 < 0 then (some 0) else ((after_Right.f k l0).bind fun t221 => (if t221 = true then (if 0 ≤ t220 then (if t220 < (l0.length : Int) then (some ((rd_T25 l0 t220).f0)) else (none)) else (none)) else (some 0))))) = some r := h
 clear h
 replace H := Option.bind_eq_some_iff.mp H
 obtain ⟨t220, A30, H⟩ := H
 have A3 := Aside0.mk A30
 clear A30
 by_cases c4 : t220 < 0
 · rw [if_pos c4] at H
   have c4b0 : decide (t220 < 0) = true := decide_eq_true c4
   clear c4
   obtain rfl := Option.some.inj H
   go_enter Try.func24, Try.ntmps24
   go_wp2_with (first | ((with_reducible refine gate_dst (N := 3) rfl ?_); refine box_event ?hg (N := 3) ?hd (cs := #[.int .i64 a1]) (t := 3) ?hr ?_; (case hd => rfl); (case hg => rfl); (case hr => first | (go_simp; done) | (go_simp; rfl)); intro gb219 hg w5 hbox hb; replace BK219 := Aside0.mk (hbox); replace GW219 := Aside0.mk ((by rw [hg]; exact bsz_ : w.heap.size ≤ gb219)); replace HB := Aside0.mk (bst_ hb); replace GE219 := GW219; clear hb hbox hg) | ((with_reducible refine gate_callee (f := 43) rfl ?_); refine goesL_ (some 8) rfl rfl Try.func43 (by kernel_rfl) rfl #[.slice A0 l0.length c0, .func (.func 54) #[] #[.pointer (some ⟨gb219, 0, none⟩)]] rfl mp_ ?_; (with_reducible refine (idx_at_after_Holder_1.calls _ _ l0 gb219 a1 t220 _ ?side1 ?side2 ?side3 A3.out).mono ?_); (case side1 => repeat (first | exact (Kd.C_below HR0.out HB.out) | with_reducible first | refine Kd.C_alloc ?_ _ | refine Kd.C_drewN ?_ _ | refine Kd.C_drew ?_)); (case side2 => exact HC0.out); (case side3 => exact (bq_ BK219)); rintro e w6 ⟨rfl, hb⟩; refine ⟨_, rfl, ?_⟩; replace BK219 := bb_ BK219 hb; replace HB := Aside0.mk (below_step bsw_ hb); (try clear hb); (try clear hb2); (try clear hk); (try clear hi)))
   go_ret
   exact ⟨by first | rfl | (simp [errW_none, errW_some] <;> rfl) | (simp [*, errW_none, errW_some] <;> rfl), bsw_⟩
 · rw [if_neg c4] at H
   have c4b0 : decide (t220 < 0) = false := decide_eq_false c4
   clear c4
   replace H := Option.bind_eq_some_iff.mp H
   obtain ⟨t221, A70, H⟩ := H
   have A7 := Aside0.mk A70
   clear A70
   by_cases c8 : t221 = true
   · subst c8
     rw [if_pos rfl] at H
     by_cases c9 : 0 ≤ t220
     · rw [if_pos c9] at H
       have c9b0 : decide (0 ≤ t220) = true := decide_eq_true c9
       clear c9
       by_cases c10 : t220 < (l0.length : Int)
       · rw [if_pos c10] at H
         have c10b0 : decide (t220 < (l0.length : Int)) = true := decide_eq_true c10
         clear c10
         obtain rfl := Option.some.inj H
         go_enter Try.func24, Try.ntmps24
         go_wp2_with (first | ((with_reducible refine gate_dst (N := 3) rfl ?_); refine box_event ?hg (N := 3) ?hd (cs := #[.int .i64 a1]) (t := 3) ?hr ?_; (case hd => rfl); (case hg => rfl); (case hr => first | (go_simp; done) | (go_simp; rfl)); intro gb219 hg w11 hbox hb; replace BK219 := Aside0.mk (hbox); replace GW219 := Aside0.mk ((by rw [hg]; exact bsz_ : w.heap.size ≤ gb219)); replace HB := Aside0.mk (bst_ hb); replace GE219 := GW219; clear hb hbox hg) | ((with_reducible refine gate_callee (f := 43) rfl ?_); refine goesL_ (some 8) rfl rfl Try.func43 (by kernel_rfl) rfl #[.slice A0 l0.length c0, .func (.func 54) #[] #[.pointer (some ⟨gb219, 0, none⟩)]] rfl mp_ ?_; (with_reducible refine (idx_at_after_Holder_1.calls _ _ l0 gb219 a1 t220 _ ?side1 ?side2 ?side3 A3.out).mono ?_); (case side1 => repeat (first | exact (Kd.C_below HR0.out HB.out) | with_reducible first | refine Kd.C_alloc ?_ _ | refine Kd.C_drewN ?_ _ | refine Kd.C_drew ?_)); (case side2 => exact HC0.out); (case side3 => exact (bq_ BK219)); rintro e w12 ⟨rfl, hb⟩; refine ⟨_, rfl, ?_⟩; replace BK219 := bb_ BK219 hb; replace HB := Aside0.mk (below_step bsw_ hb); (try clear hb); (try clear hb2); (try clear hk); (try clear hi)) | (go_at_call 22; (with_reducible refine (after_Right.calls k _ _ l0 true _ ?side1 ?side2 A7.out).mono ?_); (case side1 => repeat (first | exact (Kd.C_below HR0.out HB.out) | with_reducible first | refine Kd.C_alloc ?_ _ | refine Kd.C_drewN ?_ _ | refine Kd.C_drew ?_)); (case side2 => exact HC0.out); rintro e w13 ⟨rfl, hb⟩; replace BK219 := bb_ BK219 hb; replace HB := Aside0.mk (below_step bsw_ hb); (try clear hb); (try clear hb2); (try clear hk); (try clear hi); have p222 : 0 ≤ (t220 : Int) := oda_; have q222 : t220 < (l0.length : Int) := oda_; obtain ⟨ad222, A222_1, c222_1, e222, hx222_0, hx222_1, hl222_1, hi222_1⟩ := at_T25 HR0.out t220 p222 q222; cases e222; replace hx222_0 := (HB.out.cell (World.block_lt_of_cell? w _ hx222_0)).trans hx222_0; replace hx222_1 := (HB.out.cell (World.block_lt_of_cell? w _ hx222_1)).trans hx222_1; have HR222_1 := Aside0.mk hi222_1; have HC222_1 := Aside0.mk hl222_1; clear hi222_1 hl222_1; replace p222 := eq_true p222; replace q222 := eq_true q222))
         go_ret
         exact ⟨by first | rfl | (simp [errW_none, errW_some] <;> rfl) | (simp [*, errW_none, errW_some] <;> rfl), bsw_⟩
       · rw [if_neg c10] at H
         exact absurd H (by simp)
     · rw [if_neg c9] at H
       exact absurd H (by simp)
   · replace c8 := Bool.eq_false_iff.mpr c8
     subst c8
     rw [if_neg (show ¬ (false = true) by decide)] at H
     obtain rfl := Option.some.inj H
     go_enter Try.func24, Try.ntmps24
     go_wp2_with (first | ((with_reducible refine gate_dst (N := 3) rfl ?_); refine box_event ?hg (N := 3) ?hd (cs := #[.int .i64 a1]) (t := 3) ?hr ?_; (case hd => rfl); (case hg => rfl); (case hr => first | (go_simp; done) | (go_simp; rfl)); intro gb219 hg w14 hbox hb; replace BK219 := Aside0.mk (hbox); replace GW219 := Aside0.mk ((by rw [hg]; exact bsz_ : w.heap.size ≤ gb219)); replace HB := Aside0.mk (bst_ hb); replace GE219 := GW219; clear hb hbox hg) | ((with_reducible refine gate_callee (f := 43) rfl ?_); refine goesL_ (some 8) rfl rfl Try.func43 (by kernel_rfl) rfl #[.slice A0 l0.length c0, .func (.func 54) #[] #[.pointer (some ⟨gb219, 0, none⟩)]] rfl mp_ ?_; (with_reducible refine (idx_at_after_Holder_1.calls _ _ l0 gb219 a1 t220 _ ?side1 ?side2 ?side3 A3.out).mono ?_); (case side1 => repeat (first | exact (Kd.C_below HR0.out HB.out) | with_reducible first | refine Kd.C_alloc ?_ _ | refine Kd.C_drewN ?_ _ | refine Kd.C_drew ?_)); (case side2 => exact HC0.out); (case side3 => exact (bq_ BK219)); rintro e w15 ⟨rfl, hb⟩; refine ⟨_, rfl, ?_⟩; replace BK219 := bb_ BK219 hb; replace HB := Aside0.mk (below_step bsw_ hb); (try clear hb); (try clear hb2); (try clear hk); (try clear hi)) | (go_at_call 22; (with_reducible refine (after_Right.calls k _ _ l0 false _ ?side1 ?side2 A7.out).mono ?_); (case side1 => repeat (first | exact (Kd.C_below HR0.out HB.out) | with_reducible first | refine Kd.C_alloc ?_ _ | refine Kd.C_drewN ?_ _ | refine Kd.C_drew ?_)); (case side2 => exact HC0.out); rintro e w16 ⟨rfl, hb⟩; replace BK219 := bb_ BK219 hb; replace HB := Aside0.mk (below_step bsw_ hb); (try clear hb); (try clear hb2); (try clear hk); (try clear hi)))
     go_ret
     exact ⟨by first | rfl | (simp [errW_none, errW_some] <;> rfl) | (simp [*, errW_none, errW_some] <;> rfl), bsw_⟩

/-! ### after_See: function 20 -/
def after_See.j0 : Nat → Int → List (S66) → Int → Int → Bool → Option (Int × Int)
 | 0, _, _, _, _, _ => none
 | k + 1, x1, x2, x3, x10, x14 => if x14 = true then (some (0, 1)) else (if x10 = 0 then ((heap_Get.f x2 x3).bind fun bt226 => (some (bt226.1, bt226.2))) else (if x10 = x1 then ((heap_Get.f x2 x3).bind fun bt228 => (some (bt228.1, bt228.2))) else (some (0, 7))))
def after_See.f (k : Nat) (l0 : List (S25)) (a1 : Int) (l2 : List (S66)) (a3 : Int) : Option (Int × Int) := (after_Holder.f k l0 a3).bind fun t223 => ((after_Right.f k l0).bind fun t224 => (if t224 = true then ((heap_Right.f l2).bind fun t225 => (after_See.j0 k a1 l2 a3 t223 (!t225))) else (after_See.j0 k a1 l2 a3 t223 true)))
theorem after_See.mono_l : ∀ k, (∀ y0 y1 y2 y3 y4, LeO (after_See.j0 k y0 y1 y2 y3 y4) (after_See.j0 (k + 1) y0 y1 y2 y3 y4))
 | 0 => fun _ _ _ _ _ r h => by simp [after_See.j0] at h
 | k + 1 => by
  have ih0 := after_See.mono_l k
  · intro y0 y1 y2 y3 y4
    unfold after_See.j0
    repeat' first
    | (with_reducible exact ih0 _ _ _ _ _)
    | (with_reducible exact after_Holder.mono _ _ _)
    | (with_reducible exact after_Right.mono _ _)
    | (with_reducible exact LeO.refl _)
    | (with_reducible exact LeO.none _)
    | (with_reducible refine LeO.ite ?_ ?_)
    | (with_reducible refine LeO.bind ?_ (fun _ => ?_))
    | exact ih0 _ _ _ _ _
    | exact after_Holder.mono _ _ _
    | exact after_Right.mono _ _
    | exact LeO.none _
    | refine LeO.ite ?_ ?_
    | refine LeO.bind ?_ (fun _ => ?_)
theorem after_See.mono : ∀ a0 a1 a2 a3 k, LeO (after_See.f k a0 a1 a2 a3) (after_See.f (k + 1) a0 a1 a2 a3) := by
 intro a0 a1 a2 a3 k
 have ih0 := after_See.mono_l k
 unfold after_See.f
 repeat' first
  | (with_reducible exact ih0 _ _ _ _ _)
  | (with_reducible exact after_Holder.mono _ _ _)
  | (with_reducible exact after_Right.mono _ _)
  | (with_reducible exact LeO.refl _)
  | (with_reducible exact LeO.none _)
  | (with_reducible refine LeO.ite ?_ ?_)
  | (with_reducible refine LeO.bind ?_ (fun _ => ?_))
  | exact ih0 _ _ _ _ _
  | exact after_Holder.mono _ _ _
  | exact after_Right.mono _ _
  | exact LeO.none _
  | refine LeO.ite ?_ ?_
  | refine LeO.bind ?_ (fun _ => ?_)
set_option maxHeartbeats 8000000 in
set_option maxRecDepth 100000 in
theorem after_See.calls (k : Nat) (A0 : Option Addr) (c0 : Nat) (l0 : List (S25)) (a1 : Int) (A2 : Option Addr) (c2 : Nat) (l2 : List (S66)) (a3 : Int) (r1 : Int) (r2 : Int) (w : World) (hr0 : Kd.C k25 w A0 l0.length l0) (hc0 : l0.length ≤ c0) (hr2 : Kd.C k66 w A2 l2.length l2) (hc2 : l2.length ≤ c2) (h : after_See.f k l0 a1 l2 a3 = some (r1, r2)) :
 Calls Try.prog 20 #[.slice A0 l0.length c0, .int .i64 a1, .slice A2 l2.length c2, .int .i64 a3] w fun e w' => e = .returned (.tuple #[.int .i64 r1, .int .i64 r2]) ∧ Below w.heap.size w w' := by
 have HR0 := Aside0.mk hr0
 have HC0 := Aside0.mk hc0
 clear hr0 hc0
 have HR2 := Aside0.mk hr2
 have HC2 := Aside0.mk hc2
 clear hr2 hc2
 have HB := Aside0.mk (Below.refl w.heap.size w)
 have H : ((after_Holder.f k l0 a3).bind fun t223 => ((after_Right.f k l0).bind fun t224 => (if t224 = true then ((heap_Right.f l2).bind fun t225 => (after_See.j0 k a1 l2 a3 t223 (!t225))) else (after_See.j0 k a1 l2 a3 t223 true)))) = some (r1, r2) := h
 clear h
 replace H := Option.bind_eq_some_iff.mp H
 obtain ⟨t223, A50, H⟩ := H
 have A5 := Aside0.mk A50
 clear A50
 have HC6 := Aside0.mk H
 clear H
 go_enter Try.func20, Try.ntmps20
 go_upto_region 2 with (first | ((with_reducible refine gate_callee (f := 24) rfl ?_); refine goesL_ (some 13) rfl rfl Try.func24 (by kernel_rfl) rfl #[.slice A0 l0.length c0, .int .i64 a3] rfl mp_ ?_; (with_reducible refine (after_Holder.calls k _ _ l0 a3 t223 _ ?side1 ?side2 A5.out).mono ?_); (case side1 => repeat (first | exact HR0.out | with_reducible first | refine Kd.C_alloc ?_ _ | refine Kd.C_drewN ?_ _ | refine Kd.C_drew ?_)); (case side2 => exact HC0.out); rintro e w7 ⟨rfl, hb⟩; refine ⟨_, rfl, ?_⟩; replace HB := Aside0.mk (bst_ hb); (try clear hb); (try clear hb2); (try clear hk); (try clear hi)))
 (try simp only [Act.put, List.setIfInBounds_toArray, List.set_cons_zero, List.set_cons_succ])
 go_cut [14] (fun v14 wc => ∃ (kq : Nat) (x14_5 : Bool), v14 = .bool x14_5 ∧ Aside0 (after_See.j0 kq a1 l2 a3 t223 x14_5 = some (r1, r2)) ∧ Aside0 (kq ≤ k) ∧ Aside0 (Below w.heap.size w wc))
 case first =>
  have H := HC6.out
  clear HC6
  replace H := Option.bind_eq_some_iff.mp H
  obtain ⟨t224, A80, H⟩ := H
  have A8 := Aside0.mk A80
  clear A80
  by_cases c9 : t224 = true
  · subst c9
    rw [if_pos rfl] at H
    replace H := Option.bind_eq_some_iff.mp H
    obtain ⟨t225, A100, H⟩ := H
    have A10 := Aside0.mk A100
    clear A100
    have H' := Aside0.mk H
    clear H
    go_wp2_with (first | ((with_reducible refine gate_callee (f := 22) rfl ?_); refine goesL_ (some 16) rfl rfl Try.func22 (by kernel_rfl) rfl #[.slice A0 l0.length c0] rfl mp_ ?_; (with_reducible refine (after_Right.calls k _ _ l0 true _ ?side1 ?side2 A8.out).mono ?_); (case side1 => repeat (first | exact (Kd.C_below HR0.out HB.out) | with_reducible first | refine Kd.C_alloc ?_ _ | refine Kd.C_drewN ?_ _ | refine Kd.C_drew ?_)); (case side2 => exact HC0.out); rintro e w11 ⟨rfl, hb⟩; refine ⟨_, rfl, ?_⟩; replace HB := Aside0.mk (bst_ hb); (try clear hb); (try clear hb2); (try clear hk); (try clear hi)) | (go_at_call 45; (with_reducible refine (heap_Right.calls _ _ l2 t225 _ ?side1 ?side2 A10.out).mono ?_); (case side1 => repeat (first | exact (Kd.C_below HR2.out HB.out) | with_reducible first | refine Kd.C_alloc ?_ _ | refine Kd.C_drewN ?_ _ | refine Kd.C_drew ?_)); (case side2 => exact HC2.out); rintro e w12 ⟨rfl, hb⟩; replace HB := Aside0.mk (bst_ hb); (try clear hb); (try clear hb2); (try clear hk); (try clear hi)))
    go_meet
    case rel => exact ⟨_, (!t225), (by first | rfl | (simp; done) | (simp [*]; done)), H', ⟨by first | omega | exact Nat.le_refl _⟩, ⟨bsv_⟩⟩
  · replace c9 := Bool.eq_false_iff.mpr c9
    subst c9
    rw [if_neg (show ¬ (false = true) by decide)] at H
    have H' := Aside0.mk H
    clear H
    go_wp2_with (first | ((with_reducible refine gate_callee (f := 22) rfl ?_); refine goesL_ (some 16) rfl rfl Try.func22 (by kernel_rfl) rfl #[.slice A0 l0.length c0] rfl mp_ ?_; (with_reducible refine (after_Right.calls k _ _ l0 false _ ?side1 ?side2 A8.out).mono ?_); (case side1 => repeat (first | exact (Kd.C_below HR0.out HB.out) | with_reducible first | refine Kd.C_alloc ?_ _ | refine Kd.C_drewN ?_ _ | refine Kd.C_drew ?_)); (case side2 => exact HC0.out); rintro e w13 ⟨rfl, hb⟩; refine ⟨_, rfl, ?_⟩; replace HB := Aside0.mk (bst_ hb); (try clear hb); (try clear hb2); (try clear hk); (try clear hi)))
    go_meet
    case rel => exact ⟨_, (true), (by first | rfl | (simp; done) | (simp [*]; done)), H', ⟨by first | omega | exact Nat.le_refl _⟩, ⟨bsv_⟩⟩
 case rest =>
  clear HC6
  try clear c2
  try clear p2
  try clear c9
  obtain ⟨kq, x14_5, rfl, HA, HJ5, HB⟩ := hcut
  cases kq with
  | zero => exact absurd HA.out (by simp [after_See.j0])
  | succ kj5 =>
   have H := HA.out
   clear HA
   simp only [after_See.j0] at H
   by_cases c14 : x14_5 = true
   · subst c14
     rw [if_pos rfl] at H
     simp only [Option.some.injEq, Prod.mk.injEq] at H
     obtain ⟨rfl, rfl⟩ := H
     go_wp2
     go_ret2
     exact ⟨by first | rfl | (simp [errW_none, errW_some] <;> rfl) | (simp [*, errW_none, errW_some] <;> rfl), bsv_⟩
   · replace c14 := Bool.eq_false_iff.mpr c14
     subst c14
     rw [if_neg (show ¬ (false = true) by decide)] at H
     by_cases c15 : t223 = 0
     · rw [if_pos c15] at H
       have c15b0 : (t223 == 0) = true := beq_iff_eq.mpr c15
       have c15b1 : (t223 != 0) = false := bne_eq_false_iff_eq.mpr c15
       clear c15
       replace H := Option.bind_eq_some_iff.mp H
       obtain ⟨⟨t226, t227⟩, A160, H⟩ := H
       have A16 := Aside0.mk A160
       clear A160
       simp only [Option.some.injEq, Prod.mk.injEq] at H
       obtain ⟨rfl, rfl⟩ := H
       go_wp2_with (first | ((with_reducible refine gate_callee (f := 28) rfl ?_); refine goesL_ (some 33) rfl rfl Try.func28 (by kernel_rfl) rfl #[.slice A2 l2.length c2, .int .i64 a3] rfl mp_ ?_; (with_reducible refine (heap_Get.calls _ _ l2 a3 t226 t227 _ ?side1 ?side2 A16.out).mono ?_); (case side1 => repeat (first | exact (Kd.C_below HR2.out HB.out) | with_reducible first | refine Kd.C_alloc ?_ _ | refine Kd.C_drewN ?_ _ | refine Kd.C_drew ?_)); (case side2 => exact HC2.out); rintro e w17 ⟨rfl, hb⟩; refine ⟨_, rfl, ?_⟩; replace HB := Aside0.mk (bst_ hb); (try clear hb); (try clear hb2); (try clear hk); (try clear hi)))
       go_ret2
       exact ⟨by first | rfl | (simp [errW_none, errW_some] <;> rfl) | (simp [*, errW_none, errW_some] <;> rfl), bsv_⟩
     · rw [if_neg c15] at H
       have c15b0 : (t223 == 0) = false := beq_eq_false_iff_ne.mpr c15
       have c15b1 : (t223 != 0) = true := bne_iff_ne.mpr c15
       by_cases c18 : t223 = a1
       · rw [if_pos c18] at H
         have c18b0 : (t223 == a1) = true := beq_iff_eq.mpr c18
         have c18b1 : (t223 != a1) = false := bne_eq_false_iff_eq.mpr c18
         clear c18
         replace H := Option.bind_eq_some_iff.mp H
         obtain ⟨⟨t228, t229⟩, A190, H⟩ := H
         have A19 := Aside0.mk A190
         clear A190
         simp only [Option.some.injEq, Prod.mk.injEq] at H
         obtain ⟨rfl, rfl⟩ := H
         go_wp2_with (first | ((with_reducible refine gate_callee (f := 28) rfl ?_); refine goesL_ (some 33) rfl rfl Try.func28 (by kernel_rfl) rfl #[.slice A2 l2.length c2, .int .i64 a3] rfl mp_ ?_; (with_reducible refine (heap_Get.calls _ _ l2 a3 t228 t229 _ ?side1 ?side2 A19.out).mono ?_); (case side1 => repeat (first | exact (Kd.C_below HR2.out HB.out) | with_reducible first | refine Kd.C_alloc ?_ _ | refine Kd.C_drewN ?_ _ | refine Kd.C_drew ?_)); (case side2 => exact HC2.out); rintro e w20 ⟨rfl, hb⟩; refine ⟨_, rfl, ?_⟩; replace HB := Aside0.mk (bst_ hb); (try clear hb); (try clear hb2); (try clear hk); (try clear hi)))
         go_ret2
         exact ⟨by first | rfl | (simp [errW_none, errW_some] <;> rfl) | (simp [*, errW_none, errW_some] <;> rfl), bsv_⟩
       · rw [if_neg c18] at H
         have c18b0 : (t223 == a1) = false := beq_eq_false_iff_ne.mpr c18
         have c18b1 : (t223 != a1) = true := bne_iff_ne.mpr c18
         simp only [Option.some.injEq, Prod.mk.injEq] at H
         obtain ⟨rfl, rfl⟩ := H
         go_wp2
         go_ret2
         exact ⟨by first | rfl | (simp [errW_none, errW_some] <;> rfl) | (simp [*, errW_none, errW_some] <;> rfl), bsv_⟩

/-! ### handshakerlaw22_awake: function 12 -/
def handshakerlaw22_awake.f (k : Nat)  : Option (Bool) := (some (([(⟨true, 3⟩ : S66), (⟨true, 0⟩ : S66)] : List (S66)) : List (S66))).bind fun y230 => ((after_Defer.f k ([] : List (S25)) 1 (([(⟨0, 2, 5⟩ : S61), (⟨0, 2, 1⟩ : S61)] : List (S61)))).bind fun bt236 => ((after_Defer.f k bt236.1 2 (([(⟨0, 1, 5⟩ : S61)] : List (S61)))).bind fun bt243 => ((after_See.f k bt236.1 2 y230 0).bind fun bt247 => ((after_See.f k bt236.1 1 y230 0).bind fun bt249 => ((after_Do.f k bt236.1 1 y230).bind fun bt251 => ((after_See.f k bt251.1 2 bt251.2.1 0).bind fun bt258 => ((after_Do.f k bt251.1 1 bt251.2.1).bind fun bt260 => ((after_All.f k bt236.1 y230 (([1] : List Int))).bind fun bt270 => (if bt236.2 = 0 then (if bt243.2 = 7 then (if bt247.2 = 7 then (if bt249.1 = 3 then (if bt249.2 = 0 then (if bt251.2.2 = 0 then (if bt258.1 = 9 then (if bt258.2 = 0 then (if (bt251.1.length : Int) = 0 then (if bt260.2.2 = 3 then (if bt270.2.2 = 0 then (if (bt270.2.1.length : Int) = 2 then (if 0 < (bt270.2.1.length : Int) then (if ((rd_T66 bt270.2.1 0).f1) = 9 then ((after_Holder.f k bt236.1 0).bind fun t278 => (if t278 = 1 then ((after_Holder.f k bt236.1 1).bind fun t279 => (if t279 = 0 then ((after_Right.f k bt236.1).bind fun t280 => (if t280 = true then (some true) else (some false))) else (some false))) else (some false))) else (some false)) else (none)) else (some false)) else (some false)) else (some false)) else (some false)) else (some false)) else (some false)) else (some false)) else (some false)) else (some false)) else (some false)) else (some false)) else (some false))))))))))
theorem handshakerlaw22_awake.mono : ∀ k, LeO (handshakerlaw22_awake.f k ) (handshakerlaw22_awake.f (k + 1) ) := by
 intro  k
 unfold handshakerlaw22_awake.f
 repeat' first
  | (with_reducible exact after_All.mono _ _ _ _)
  | (with_reducible exact after_Defer.mono _ _ _ _)
  | (with_reducible exact after_Do.mono _ _ _ _)
  | (with_reducible exact after_Holder.mono _ _ _)
  | (with_reducible exact after_Right.mono _ _)
  | (with_reducible exact after_See.mono _ _ _ _ _)
  | (with_reducible exact LeO.refl _)
  | (with_reducible exact LeO.none _)
  | (with_reducible refine LeO.ite ?_ ?_)
  | (with_reducible refine LeO.bind ?_ (fun _ => ?_))
  | exact after_All.mono _ _ _ _
  | exact after_Defer.mono _ _ _ _
  | exact after_Do.mono _ _ _ _
  | exact after_Holder.mono _ _ _
  | exact after_Right.mono _ _
  | exact after_See.mono _ _ _ _ _
  | exact LeO.none _
  | refine LeO.ite ?_ ?_
  | refine LeO.bind ?_ (fun _ => ?_)
set_option maxHeartbeats 8000000 in
set_option maxRecDepth 100000 in
theorem handshakerlaw22_awake.callsT (k : Nat)  (r : Bool) (w : World) (HT : Aside0 (r = true)) (h : handshakerlaw22_awake.f k  = some r) :
 Calls Try.prog 12 #[] w fun e w' => e = .returned (.bool r) ∧ Below w.heap.size w w' := by
 have hu66 := Try.underlying66
 have hu61 := Try.underlying61
 have hu25 := Try.underlying25
 have HB := Aside0.mk (Below.refl w.heap.size w)
 have H : ((some (([(⟨true, 3⟩ : S66), (⟨true, 0⟩ : S66)] : List (S66)) : List (S66))).bind fun y230 => ((after_Defer.f k ([] : List (S25)) 1 (([(⟨0, 2, 5⟩ : S61), (⟨0, 2, 1⟩ : S61)] : List (S61)))).bind fun bt236 => ((after_Defer.f k bt236.1 2 (([(⟨0, 1, 5⟩ : S61)] : List (S61)))).bind fun bt243 => ((after_See.f k bt236.1 2 y230 0).bind fun bt247 => ((after_See.f k bt236.1 1 y230 0).bind fun bt249 => ((after_Do.f k bt236.1 1 y230).bind fun bt251 => ((after_See.f k bt251.1 2 bt251.2.1 0).bind fun bt258 => ((after_Do.f k bt251.1 1 bt251.2.1).bind fun bt260 => ((after_All.f k bt236.1 y230 (([1] : List Int))).bind fun bt270 => (if bt236.2 = 0 then (if bt243.2 = 7 then (if bt247.2 = 7 then (if bt249.1 = 3 then (if bt249.2 = 0 then (if bt251.2.2 = 0 then (if bt258.1 = 9 then (if bt258.2 = 0 then (if (bt251.1.length : Int) = 0 then (if bt260.2.2 = 3 then (if bt270.2.2 = 0 then (if (bt270.2.1.length : Int) = 2 then (if 0 < (bt270.2.1.length : Int) then (if ((rd_T66 bt270.2.1 0).f1) = 9 then ((after_Holder.f k bt236.1 0).bind fun t278 => (if t278 = 1 then ((after_Holder.f k bt236.1 1).bind fun t279 => (if t279 = 0 then ((after_Right.f k bt236.1).bind fun t280 => (if t280 = true then (some true) else (some false))) else (some false))) else (some false))) else (some false)) else (none)) else (some false)) else (some false)) else (some false)) else (some false)) else (some false)) else (some false)) else (some false)) else (some false)) else (some false)) else (some false)) else (some false)) else (some false))))))))))) = some r := h
 clear h
 obtain ⟨y230, hy230⟩ : ∃ y_ : List (S66), y_ = (([(⟨true, 3⟩ : S66), (⟨true, 0⟩ : S66)] : List (S66))) := ⟨_, rfl⟩
 replace H : ((after_Defer.f k ([] : List (S25)) 1 (([(⟨0, 2, 5⟩ : S61), (⟨0, 2, 1⟩ : S61)] : List (S61)))).bind fun bt236 => ((after_Defer.f k bt236.1 2 (([(⟨0, 1, 5⟩ : S61)] : List (S61)))).bind fun bt243 => ((after_See.f k bt236.1 2 y230 0).bind fun bt247 => ((after_See.f k bt236.1 1 y230 0).bind fun bt249 => ((after_Do.f k bt236.1 1 y230).bind fun bt251 => ((after_See.f k bt251.1 2 bt251.2.1 0).bind fun bt258 => ((after_Do.f k bt251.1 1 bt251.2.1).bind fun bt260 => ((after_All.f k bt236.1 y230 (([1] : List Int))).bind fun bt270 => (if bt236.2 = 0 then (if bt243.2 = 7 then (if bt247.2 = 7 then (if bt249.1 = 3 then (if bt249.2 = 0 then (if bt251.2.2 = 0 then (if bt258.1 = 9 then (if bt258.2 = 0 then (if (bt251.1.length : Int) = 0 then (if bt260.2.2 = 3 then (if bt270.2.2 = 0 then (if (bt270.2.1.length : Int) = 2 then (if 0 < (bt270.2.1.length : Int) then (if ((rd_T66 bt270.2.1 0).f1) = 9 then ((after_Holder.f k bt236.1 0).bind fun t278 => (if t278 = 1 then ((after_Holder.f k bt236.1 1).bind fun t279 => (if t279 = 0 then ((after_Right.f k bt236.1).bind fun t280 => (if t280 = true then (some true) else (some false))) else (some false))) else (some false))) else (some false)) else (none)) else (some false)) else (some false)) else (some false)) else (some false)) else (some false)) else (some false)) else (some false)) else (some false)) else (some false)) else (some false)) else (some false)) else (some false)))))))))) = some r := by first | (rw [hy230]; with_reducible exact H) | (have H2_ := (Option.bind_some _ _).symm.trans H; rw [hy230]; with_reducible exact H2_) | (have H2_ := (Option.bind_some _ _).symm.trans H; with_reducible exact H2_) | with_reducible exact H | (rw [hy230]; exact H) | exact H
 have Ny230 := Aside0.mk hy230
 clear hy230
 obtain ⟨y233, hy233⟩ : ∃ y_ : List (S61), y_ = (([(⟨0, 2, 5⟩ : S61), (⟨0, 2, 1⟩ : S61)] : List (S61))) := ⟨_, rfl⟩
 replace H : ((after_Defer.f k ([] : List (S25)) 1 y233).bind fun bt236 => ((after_Defer.f k bt236.1 2 (([(⟨0, 1, 5⟩ : S61)] : List (S61)))).bind fun bt243 => ((after_See.f k bt236.1 2 y230 0).bind fun bt247 => ((after_See.f k bt236.1 1 y230 0).bind fun bt249 => ((after_Do.f k bt236.1 1 y230).bind fun bt251 => ((after_See.f k bt251.1 2 bt251.2.1 0).bind fun bt258 => ((after_Do.f k bt251.1 1 bt251.2.1).bind fun bt260 => ((after_All.f k bt236.1 y230 (([1] : List Int))).bind fun bt270 => (if bt236.2 = 0 then (if bt243.2 = 7 then (if bt247.2 = 7 then (if bt249.1 = 3 then (if bt249.2 = 0 then (if bt251.2.2 = 0 then (if bt258.1 = 9 then (if bt258.2 = 0 then (if (bt251.1.length : Int) = 0 then (if bt260.2.2 = 3 then (if bt270.2.2 = 0 then (if (bt270.2.1.length : Int) = 2 then (if 0 < (bt270.2.1.length : Int) then (if ((rd_T66 bt270.2.1 0).f1) = 9 then ((after_Holder.f k bt236.1 0).bind fun t278 => (if t278 = 1 then ((after_Holder.f k bt236.1 1).bind fun t279 => (if t279 = 0 then ((after_Right.f k bt236.1).bind fun t280 => (if t280 = true then (some true) else (some false))) else (some false))) else (some false))) else (some false)) else (none)) else (some false)) else (some false)) else (some false)) else (some false)) else (some false)) else (some false)) else (some false)) else (some false)) else (some false)) else (some false)) else (some false)) else (some false)))))))))) = some r := by first | (rw [hy233]; with_reducible exact H) | (have H2_ := (Option.bind_some _ _).symm.trans H; rw [hy233]; with_reducible exact H2_) | (have H2_ := (Option.bind_some _ _).symm.trans H; with_reducible exact H2_) | with_reducible exact H | (rw [hy233]; exact H) | exact H
 have Ny233 := Aside0.mk hy233
 clear hy233
 replace H := Option.bind_eq_some_iff.mp H
 obtain ⟨⟨t236, t239⟩, A10, H⟩ := H
 have A1 := Aside0.mk A10
 clear A10
 obtain ⟨y240, hy240⟩ : ∃ y_ : List (S61), y_ = (([(⟨0, 1, 5⟩ : S61)] : List (S61))) := ⟨_, rfl⟩
 replace H : ((after_Defer.f k t236 2 y240).bind fun bt243 => ((after_See.f k t236 2 y230 0).bind fun bt247 => ((after_See.f k t236 1 y230 0).bind fun bt249 => ((after_Do.f k t236 1 y230).bind fun bt251 => ((after_See.f k bt251.1 2 bt251.2.1 0).bind fun bt258 => ((after_Do.f k bt251.1 1 bt251.2.1).bind fun bt260 => ((after_All.f k t236 y230 (([1] : List Int))).bind fun bt270 => (if t239 = 0 then (if bt243.2 = 7 then (if bt247.2 = 7 then (if bt249.1 = 3 then (if bt249.2 = 0 then (if bt251.2.2 = 0 then (if bt258.1 = 9 then (if bt258.2 = 0 then (if (bt251.1.length : Int) = 0 then (if bt260.2.2 = 3 then (if bt270.2.2 = 0 then (if (bt270.2.1.length : Int) = 2 then (if 0 < (bt270.2.1.length : Int) then (if ((rd_T66 bt270.2.1 0).f1) = 9 then ((after_Holder.f k t236 0).bind fun t278 => (if t278 = 1 then ((after_Holder.f k t236 1).bind fun t279 => (if t279 = 0 then ((after_Right.f k t236).bind fun t280 => (if t280 = true then (some true) else (some false))) else (some false))) else (some false))) else (some false)) else (none)) else (some false)) else (some false)) else (some false)) else (some false)) else (some false)) else (some false)) else (some false)) else (some false)) else (some false)) else (some false)) else (some false)) else (some false))))))))) = some r := by first | (rw [hy240]; with_reducible exact H) | (have H2_ := (Option.bind_some _ _).symm.trans H; rw [hy240]; with_reducible exact H2_) | (have H2_ := (Option.bind_some _ _).symm.trans H; with_reducible exact H2_) | with_reducible exact H | (rw [hy240]; exact H) | exact H
 have Ny240 := Aside0.mk hy240
 clear hy240
 replace H := Option.bind_eq_some_iff.mp H
 obtain ⟨⟨t243, t246⟩, A20, H⟩ := H
 have A2 := Aside0.mk A20
 clear A20
 replace H := Option.bind_eq_some_iff.mp H
 obtain ⟨⟨t247, t248⟩, A30, H⟩ := H
 have A3 := Aside0.mk A30
 clear A30
 replace H := Option.bind_eq_some_iff.mp H
 obtain ⟨⟨t249, t250⟩, A40, H⟩ := H
 have A4 := Aside0.mk A40
 clear A40
 replace H := Option.bind_eq_some_iff.mp H
 obtain ⟨⟨t251, t254, t257⟩, A50, H⟩ := H
 have A5 := Aside0.mk A50
 clear A50
 replace H := Option.bind_eq_some_iff.mp H
 obtain ⟨⟨t258, t259⟩, A60, H⟩ := H
 have A6 := Aside0.mk A60
 clear A60
 replace H := Option.bind_eq_some_iff.mp H
 obtain ⟨⟨t260, t263, t266⟩, A70, H⟩ := H
 have A7 := Aside0.mk A70
 clear A70
 obtain ⟨y267, hy267⟩ : ∃ y_ : List Int, y_ = (([1] : List Int)) := ⟨_, rfl⟩
 replace H : ((after_All.f k t236 y230 y267).bind fun bt270 => (if t239 = 0 then (if t246 = 7 then (if t248 = 7 then (if t249 = 3 then (if t250 = 0 then (if t257 = 0 then (if t258 = 9 then (if t259 = 0 then (if (t251.length : Int) = 0 then (if t266 = 3 then (if bt270.2.2 = 0 then (if (bt270.2.1.length : Int) = 2 then (if 0 < (bt270.2.1.length : Int) then (if ((rd_T66 bt270.2.1 0).f1) = 9 then ((after_Holder.f k t236 0).bind fun t278 => (if t278 = 1 then ((after_Holder.f k t236 1).bind fun t279 => (if t279 = 0 then ((after_Right.f k t236).bind fun t280 => (if t280 = true then (some true) else (some false))) else (some false))) else (some false))) else (some false)) else (none)) else (some false)) else (some false)) else (some false)) else (some false)) else (some false)) else (some false)) else (some false)) else (some false)) else (some false)) else (some false)) else (some false)) else (some false))) = some r := by first | (rw [hy267]; with_reducible exact H) | (have H2_ := (Option.bind_some _ _).symm.trans H; rw [hy267]; with_reducible exact H2_) | (have H2_ := (Option.bind_some _ _).symm.trans H; with_reducible exact H2_) | with_reducible exact H | (rw [hy267]; exact H) | exact H
 have Ny267 := Aside0.mk hy267
 clear hy267
 replace H := Option.bind_eq_some_iff.mp H
 obtain ⟨⟨t270, t273, t276⟩, A80, H⟩ := H
 have A8 := Aside0.mk A80
 clear A80
 by_cases c9 : t239 = 0
 · rw [if_pos c9] at H
   have c9b0 : (t239 == 0) = true := beq_iff_eq.mpr c9
   have c9b1 : (t239 != 0) = false := bne_eq_false_iff_eq.mpr c9
   clear c9
   by_cases c10 : t246 = 7
   · rw [if_pos c10] at H
     have c10b0 : (t246 == 7) = true := beq_iff_eq.mpr c10
     have c10b1 : (t246 != 7) = false := bne_eq_false_iff_eq.mpr c10
     clear c10
     by_cases c11 : t248 = 7
     · rw [if_pos c11] at H
       have c11b0 : (t248 == 7) = true := beq_iff_eq.mpr c11
       have c11b1 : (t248 != 7) = false := bne_eq_false_iff_eq.mpr c11
       clear c11
       by_cases c12 : t249 = 3
       · rw [if_pos c12] at H
         have c12b0 : (t249 == 3) = true := beq_iff_eq.mpr c12
         have c12b1 : (t249 != 3) = false := bne_eq_false_iff_eq.mpr c12
         clear c12
         by_cases c13 : t250 = 0
         · rw [if_pos c13] at H
           have c13b0 : (t250 == 0) = true := beq_iff_eq.mpr c13
           have c13b1 : (t250 != 0) = false := bne_eq_false_iff_eq.mpr c13
           clear c13
           by_cases c14 : t257 = 0
           · rw [if_pos c14] at H
             have c14b0 : (t257 == 0) = true := beq_iff_eq.mpr c14
             have c14b1 : (t257 != 0) = false := bne_eq_false_iff_eq.mpr c14
             clear c14
             by_cases c15 : t258 = 9
             · rw [if_pos c15] at H
               have c15b0 : (t258 == 9) = true := beq_iff_eq.mpr c15
               have c15b1 : (t258 != 9) = false := bne_eq_false_iff_eq.mpr c15
               clear c15
               by_cases c16 : t259 = 0
               · rw [if_pos c16] at H
                 have c16b0 : (t259 == 0) = true := beq_iff_eq.mpr c16
                 have c16b1 : (t259 != 0) = false := bne_eq_false_iff_eq.mpr c16
                 clear c16
                 by_cases c17 : (t251.length : Int) = 0
                 · rw [if_pos c17] at H
                   have c17b0 : ((t251.length : Int) == 0) = true := beq_iff_eq.mpr c17
                   have c17b1 : ((t251.length : Int) != 0) = false := bne_eq_false_iff_eq.mpr c17
                   clear c17
                   by_cases c18 : t266 = 3
                   · rw [if_pos c18] at H
                     have c18b0 : (t266 == 3) = true := beq_iff_eq.mpr c18
                     have c18b1 : (t266 != 3) = false := bne_eq_false_iff_eq.mpr c18
                     clear c18
                     by_cases c19 : t276 = 0
                     · rw [if_pos c19] at H
                       have c19b0 : (t276 == 0) = true := beq_iff_eq.mpr c19
                       have c19b1 : (t276 != 0) = false := bne_eq_false_iff_eq.mpr c19
                       clear c19
                       by_cases c20 : (t273.length : Int) = 2
                       · rw [if_pos c20] at H
                         have c20b0 : ((t273.length : Int) == 2) = true := beq_iff_eq.mpr c20
                         have c20b1 : ((t273.length : Int) != 2) = false := bne_eq_false_iff_eq.mpr c20
                         clear c20
                         by_cases c21 : 0 < (t273.length : Int)
                         · rw [if_pos c21] at H
                           have c21b0 : decide (0 < (t273.length : Int)) = true := decide_eq_true c21
                           have c21b1 : decide (0 < t273.length) = true := decide_eq_true (by omega)
                           clear c21
                           by_cases c22 : ((rd_T66 t273 0).f1) = 9
                           · rw [if_pos c22] at H
                             have c22b0 : (((rd_T66 t273 0).f1) == 9) = true := beq_iff_eq.mpr c22
                             have c22b1 : (((rd_T66 t273 0).f1) != 9) = false := bne_eq_false_iff_eq.mpr c22
                             clear c22
                             replace H := Option.bind_eq_some_iff.mp H
                             obtain ⟨t278, A230, H⟩ := H
                             have A23 := Aside0.mk A230
                             clear A230
                             by_cases c24 : t278 = 1
                             · rw [if_pos c24] at H
                               have c24b0 : (t278 == 1) = true := beq_iff_eq.mpr c24
                               have c24b1 : (t278 != 1) = false := bne_eq_false_iff_eq.mpr c24
                               clear c24
                               replace H := Option.bind_eq_some_iff.mp H
                               obtain ⟨t279, A250, H⟩ := H
                               have A25 := Aside0.mk A250
                               clear A250
                               by_cases c26 : t279 = 0
                               · rw [if_pos c26] at H
                                 have c26b0 : (t279 == 0) = true := beq_iff_eq.mpr c26
                                 have c26b1 : (t279 != 0) = false := bne_eq_false_iff_eq.mpr c26
                                 clear c26
                                 replace H := Option.bind_eq_some_iff.mp H
                                 obtain ⟨t280, A270, H⟩ := H
                                 have A27 := Aside0.mk A270
                                 clear A270
                                 by_cases c28 : t280 = true
                                 · subst c28
                                   rw [if_pos rfl] at H
                                   obtain rfl := Option.some.inj H
                                   go_enter Try.func12, Try.ntmps12
                                   go_wp2_with (first | ((with_reducible refine gate_dst (N := 23) rfl ?_); (try (refine gate_guard (by rfl) ?_; dsimp only)); refine Kd.R_lit k66 _ 66 ?hg (N := 23) ?hd (xs := ([(⟨true, 3⟩ : S66), (⟨true, 0⟩ : S66)] : List (S66))) (inner := [.bool true, .int .i64 3, .bool true, .int .i64 0]) (ok := fun _ => True) (okp := fun _ => True) ?hr ?hp (fun _ hk => hk) trivial (Below.refl _ _) (Nat.le_refl _) (by simp) ?_; (case hd => rfl); (case hg => rfl); (case hr => first | (go_simp; done) | (go_simp; rfl)); (case hp => exact (Reps.c2 (show Kd.M k66 _ _ _ (⟨true, 3⟩ : S66) [.bool true, .int .i64 3] from (k66_mkM _ _ _ (⟨true, 3⟩ : S66) )) (Reps.c2 (show Kd.M k66 _ _ _ (⟨true, 0⟩ : S66) [.bool true, .int .i64 0] from (k66_mkM _ _ _ (⟨true, 0⟩ : S66) )) (Reps.none _ _)))); intro v231 w29 ho30 hb hg_ hnew_; clear hg_ hnew_; (first | rw [← Ny230.out] at ho30 | (simp only [Int.reduceToNat] at ho30; rw [← Ny230.out] at ho30)); replace HO232 := Aside0.mk (Kd.R_lower ho30 bsz_); replace HB := Aside0.mk (bst_ hb); clear hb ho30) | ((with_reducible refine gate_dst (N := 27) rfl ?_); (try (refine gate_guard (by rfl) ?_; dsimp only)); refine Kd.R_lit k61 _ 61 ?hg (N := 27) ?hd (xs := ([(⟨0, 2, 5⟩ : S61), (⟨0, 2, 1⟩ : S61)] : List (S61))) (inner := [.int .i64 0, .int .i64 2, .int .i64 5, .int .i64 0, .int .i64 2, .int .i64 1]) (ok := fun _ => True) (okp := fun _ => True) ?hr ?hp (fun _ hk => hk) trivial (Below.refl _ _) (Nat.le_refl _) (by simp) ?_; (case hd => rfl); (case hg => rfl); (case hr => first | (go_simp; done) | (go_simp; rfl)); (case hp => exact (Reps.c3 (show Kd.M k61 _ _ _ (⟨0, 2, 5⟩ : S61) [.int .i64 0, .int .i64 2, .int .i64 5] from (k61_mkM _ _ _ (⟨0, 2, 5⟩ : S61) )) (Reps.c3 (show Kd.M k61 _ _ _ (⟨0, 2, 1⟩ : S61) [.int .i64 0, .int .i64 2, .int .i64 1] from (k61_mkM _ _ _ (⟨0, 2, 1⟩ : S61) )) (Reps.none _ _)))); intro v234 w31 ho32 hb hg_ hnew_; clear hg_ hnew_; (first | rw [← Ny233.out] at ho32 | (simp only [Int.reduceToNat] at ho32; rw [← Ny233.out] at ho32)); replace HO232 := rb_ HO232 hb; replace HO235 := Aside0.mk (Kd.R_lower ho32 bsz_); replace HB := Aside0.mk (bst_ hb); clear hb ho32; obtain ⟨Ao33, co33, eo33⟩ := Kd.R_slice HO235.out; subst eo33) | ((with_reducible refine gate_callee (f := 14) rfl ?_); refine goesL_ (some 29) rfl rfl Try.func14 (by kernel_rfl) rfl #[.slice none 0 0, .agg #[.int .i64 1, .slice Ao33 y233.length co33]] rfl mp_ ?_; (refine (after_Defer.calls k (fun k_ => False) _ _ ([] : List (S25)) 1 (fun k_ => some k_ = (.slice Ao33 y233.length co33 : Value).ownBlock) _ _ y233 t236 t239 _ ?side1 ?side2 A1.out).mono ?_); (case side1 => exact Kd.V_nil _ _ _ _ _); (case side2 => exact Kd.R_V (Kd.R_tight rfl (Kd.R_apart' (HO235.out) (Kd.R_typed HO232.out) (by decide)))); rintro e w34 ⟨v237, rfl, ho0, hb⟩; refine ⟨_, rfl, ?_⟩; replace HO238 := Aside0.mk (Kd.V_lower (Kd.V_mono (ok' := fun k_ => some k_ ≠ (v231 : Value).ownBlock) ho0 (fun k_ hk_ => Or.elim hk_ (fun hs_ => Or.elim hs_ (fun hs_ => (hs_).elim) (fun hs_ => ((Kd.R_apart' (HO235.out) (Kd.R_typed HO232.out) (by decide)).1 k_ hs_.symm).2)) (fun hn_ => (Kd.fresh' (Kd.R_lt (rq_ HO232)) k_ hn_)))) bsz_); replace HO232 := rb_ HO232 hb; replace HO235 := rb_ HO235 hb; replace HB := Aside0.mk (bst_ hb); (try clear hb); (try clear hb2); (try clear hk); (try clear hi); (try clear ho0)) | ((with_reducible refine gate_dst (N := 35) rfl ?_); (try (refine gate_guard (by rfl) ?_; dsimp only)); refine Kd.R_lit k61 _ 61 ?hg (N := 35) ?hd (xs := ([(⟨0, 1, 5⟩ : S61)] : List (S61))) (inner := [.int .i64 0, .int .i64 1, .int .i64 5]) (ok := fun _ => True) (okp := fun _ => True) ?hr ?hp (fun _ hk => hk) trivial (Below.refl _ _) (Nat.le_refl _) (by simp) ?_; (case hd => rfl); (case hg => rfl); (case hr => first | (go_simp; done) | (go_simp; rfl)); (case hp => exact (Reps.c3 (show Kd.M k61 _ _ _ (⟨0, 1, 5⟩ : S61) [.int .i64 0, .int .i64 1, .int .i64 5] from (k61_mkM _ _ _ (⟨0, 1, 5⟩ : S61) )) (Reps.none _ _))); intro v241 w35 ho36 hb hg_ hnew_; clear hg_ hnew_; (first | rw [← Ny240.out] at ho36 | (simp only [Int.reduceToNat] at ho36; rw [← Ny240.out] at ho36)); replace HO232 := rb_ HO232 hb; replace HO238 := Aside0.mk (Kd.V_elder' (vq_ HO238) (Kd.R_base ho36) hb); replace HO242 := Aside0.mk (Kd.R_lower (Kd.R_new' ho36 (Kd.R_lt (rq_ HO235))) bsz_); replace HO235 := Aside0.mk (Kd.R_elder' (rq_ HO235) (Kd.R_base ho36) hb); replace HB := Aside0.mk (bst_ hb); clear hb ho36; obtain ⟨Ao37, co37, eo37⟩ := Kd.R_slice HO242.out; subst eo37; obtain ⟨Ao38, co38, eo38⟩ := Kd.V_slice HO238.out; subst eo38) | ((with_reducible refine gate_callee (f := 14) rfl ?_); refine goesL_ (some 37) rfl rfl Try.func14 (by kernel_rfl) rfl #[.slice Ao38 t236.length co38, .agg #[.int .i64 2, .slice Ao37 y240.length co37]] rfl mp_ ?_; (with_reducible refine (after_Defer.calls k (fun k_ => (some k_ ≠ (v231 : Value).ownBlock ∧ some k_ ≠ (.slice Ao37 y240.length co37 : Value).ownBlock)) _ _ t236 2 (fun k_ => some k_ = (.slice Ao37 y240.length co37 : Value).ownBlock) _ _ y240 t243 t246 _ ?side1 ?side2 A2.out).mono ?_); (case side1 => exact HO238.out); (case side2 => exact Kd.R_V (Kd.R_tight rfl (Kd.R_apart' (HO242.out) (Kd.R_typed HO232.out) (by decide)))); rintro e w39 ⟨v244, rfl, ho0, hb⟩; refine ⟨_, rfl, ?_⟩; replace HO235 := rb_ HO235 hb; replace HO238 := vb_ HO238 hb; replace HO245 := Aside0.mk (Kd.V_lower (Kd.V_mono (ok' := fun k_ => some k_ ≠ (v231 : Value).ownBlock) ho0 (fun k_ hk_ => Or.elim hk_ (fun hs_ => Or.elim hs_ (fun hs_ => hs_.1) (fun hs_ => ((Kd.R_apart' (HO242.out) (Kd.R_typed HO232.out) (by decide)).1 k_ hs_.symm).2)) (fun hn_ => (Kd.fresh' (Kd.R_lt (rq_ HO232)) k_ hn_)))) bsz_); replace HO232 := rb_ HO232 hb; replace HO242 := rb_ HO242 hb; replace HB := Aside0.mk (bst_ hb); (try clear hb); (try clear hb2); (try clear hk); (try clear hi); (try clear ho0); obtain ⟨Ao40, co40, eo40⟩ := Kd.R_slice HO232.out; subst eo40) | ((with_reducible refine gate_callee (f := 20) rfl ?_); refine goesL_ (some 43) rfl rfl Try.func20 (by kernel_rfl) rfl #[.slice Ao38 t236.length co38, .int .i64 2, .slice Ao40 y230.length co40, .int .i64 0] rfl mp_ ?_; (with_reducible refine (after_See.calls k _ _ t236 2 _ _ y230 0 t247 t248 _ ?side1 ?side2 ?side3 ?side4 A3.out).mono ?_); (case side1 => repeat (first | exact (Kd.V_reads' HO238.out).2.2 | with_reducible first | refine Kd.C_alloc ?_ _ | refine Kd.C_drewN ?_ _ | refine Kd.C_drew ?_)); (case side2 => exact (Kd.V_reads' HO238.out).2.1); (case side3 => repeat (first | exact (Kd.R_reads' HO232.out).2.2 | with_reducible first | refine Kd.C_alloc ?_ _ | refine Kd.C_drewN ?_ _ | refine Kd.C_drew ?_)); (case side4 => exact (Kd.R_reads' HO232.out).2.1); rintro e w41 ⟨rfl, hb⟩; refine ⟨_, rfl, ?_⟩; replace HO232 := rb_ HO232 hb; replace HO235 := rb_ HO235 hb; replace HO238 := vb_ HO238 hb; replace HO242 := rb_ HO242 hb; replace HO245 := vb_ HO245 hb; replace HB := Aside0.mk (bst_ hb); (try clear hb); (try clear hb2); (try clear hk); (try clear hi)) | ((with_reducible refine gate_callee (f := 20) rfl ?_); refine goesL_ (some 49) rfl rfl Try.func20 (by kernel_rfl) rfl #[.slice Ao38 t236.length co38, .int .i64 1, .slice Ao40 y230.length co40, .int .i64 0] rfl mp_ ?_; (with_reducible refine (after_See.calls k _ _ t236 1 _ _ y230 0 t249 t250 _ ?side1 ?side2 ?side3 ?side4 A4.out).mono ?_); (case side1 => repeat (first | exact (Kd.V_reads' HO238.out).2.2 | with_reducible first | refine Kd.C_alloc ?_ _ | refine Kd.C_drewN ?_ _ | refine Kd.C_drew ?_)); (case side2 => exact (Kd.V_reads' HO238.out).2.1); (case side3 => repeat (first | exact (Kd.R_reads' HO232.out).2.2 | with_reducible first | refine Kd.C_alloc ?_ _ | refine Kd.C_drewN ?_ _ | refine Kd.C_drew ?_)); (case side4 => exact (Kd.R_reads' HO232.out).2.1); rintro e w42 ⟨rfl, hb⟩; refine ⟨_, rfl, ?_⟩; replace HO232 := rb_ HO232 hb; replace HO235 := rb_ HO235 hb; replace HO238 := vb_ HO238 hb; replace HO242 := rb_ HO242 hb; replace HO245 := vb_ HO245 hb; replace HB := Aside0.mk (bst_ hb); (try clear hb); (try clear hb2); (try clear hk); (try clear hi)) | ((with_reducible refine gate_callee (f := 16) rfl ?_); refine goesL_ (some 55) rfl rfl Try.func16 (by kernel_rfl) rfl #[.slice Ao38 t236.length co38, .int .i64 1, .slice Ao40 y230.length co40] rfl mp_ ?_; (with_reducible refine (after_Do.calls k (fun k_ => (some k_ ≠ (.slice Ao40 y230.length co40 : Value).ownBlock ∧ some k_ ≠ (.slice Ao37 y240.length co37 : Value).ownBlock)) _ _ t236 1 (fun k_ => some k_ = (.slice Ao40 y230.length co40 : Value).ownBlock) _ _ y230 t251 t254 t257 _ ?side1 ?side2 A5.out).mono ?_); (case side1 => exact HO238.out); (case side2 => exact Kd.R_V (Kd.R_tight rfl (Kd.R_apart' (Kd.R_apart' (HO232.out) (Kd.R_typed HO235.out) (by decide)) (Kd.R_typed HO242.out) (by decide)))); rintro e w43 ⟨v252, v255, rfl, ho0, ho1, hb⟩; refine ⟨_, rfl, ?_⟩; replace HO238 := vb_ HO238 hb; replace HO245 := vb_ HO245 hb; replace HO253 := Aside0.mk (Kd.V_lower (Kd.V_mono (ok' := fun k_ => some k_ ≠ (.slice Ao37 y240.length co37 : Value).ownBlock) ho0 (fun k_ hk_ => Or.elim hk_ (fun hs_ => Or.elim hs_ (fun hs_ => hs_.2) (fun hs_ => ((Kd.R_apart' (Kd.R_apart' (HO232.out) (Kd.R_typed HO235.out) (by decide)) (Kd.R_typed HO242.out) (by decide)).1 k_ hs_.symm).2)) (fun hn_ => (Kd.fresh' (Kd.R_lt (rq_ HO242)) k_ hn_)))) bsz_); replace HO256 := Aside0.mk (Kd.V_lower (Kd.V_mono (ok' := fun k_ => some k_ ≠ (.slice Ao37 y240.length co37 : Value).ownBlock) ho1 (fun k_ hk_ => Or.elim hk_ (fun hs_ => Or.elim hs_ (fun hs_ => hs_.2) (fun hs_ => ((Kd.R_apart' (Kd.R_apart' (HO232.out) (Kd.R_typed HO235.out) (by decide)) (Kd.R_typed HO242.out) (by decide)).1 k_ hs_.symm).2)) (fun hn_ => (Kd.fresh' (Kd.R_lt (rq_ HO242)) k_ hn_)))) bsz_); replace HO232 := rb_ HO232 hb; replace HO235 := rb_ HO235 hb; replace HO242 := rb_ HO242 hb; replace HB := Aside0.mk (bst_ hb); (try clear hb); (try clear hb2); (try clear hk); (try clear hi); (try clear ho0); (try clear ho1); obtain ⟨Ao44, co44, eo44⟩ := Kd.V_slice HO253.out; subst eo44; obtain ⟨Ao45, co45, eo45⟩ := Kd.V_slice HO256.out; subst eo45) | ((with_reducible refine gate_callee (f := 20) rfl ?_); refine goesL_ (some 62) rfl rfl Try.func20 (by kernel_rfl) rfl #[.slice Ao44 t251.length co44, .int .i64 2, .slice Ao45 t254.length co45, .int .i64 0] rfl mp_ ?_; (with_reducible refine (after_See.calls k _ _ t251 2 _ _ t254 0 t258 t259 _ ?side1 ?side2 ?side3 ?side4 A6.out).mono ?_); (case side1 => repeat (first | exact (Kd.V_reads' HO253.out).2.2 | with_reducible first | refine Kd.C_alloc ?_ _ | refine Kd.C_drewN ?_ _ | refine Kd.C_drew ?_)); (case side2 => exact (Kd.V_reads' HO253.out).2.1); (case side3 => repeat (first | exact (Kd.V_reads' HO256.out).2.2 | with_reducible first | refine Kd.C_alloc ?_ _ | refine Kd.C_drewN ?_ _ | refine Kd.C_drew ?_)); (case side4 => exact (Kd.V_reads' HO256.out).2.1); rintro e w46 ⟨rfl, hb⟩; refine ⟨_, rfl, ?_⟩; replace HO232 := rb_ HO232 hb; replace HO235 := rb_ HO235 hb; replace HO238 := vb_ HO238 hb; replace HO242 := rb_ HO242 hb; replace HO245 := vb_ HO245 hb; replace HO253 := vb_ HO253 hb; replace HO256 := vb_ HO256 hb; replace HB := Aside0.mk (bst_ hb); (try clear hb); (try clear hb2); (try clear hk); (try clear hi)) | ((with_reducible refine gate_callee (f := 16) rfl ?_); refine goesL_ (some 68) rfl rfl Try.func16 (by kernel_rfl) rfl #[.slice Ao44 t251.length co44, .int .i64 1, .slice Ao45 t254.length co45] rfl mp_ ?_; (with_reducible refine (after_Do.calls k (fun k_ => some k_ ≠ (.slice Ao37 y240.length co37 : Value).ownBlock) _ _ t251 1 (fun k_ => some k_ ≠ (.slice Ao37 y240.length co37 : Value).ownBlock) _ _ t254 t260 t263 t266 _ ?side1 ?side2 A7.out).mono ?_); (case side1 => exact HO253.out); (case side2 => exact HO256.out); rintro e w47 ⟨v261, v264, rfl, ho0, ho1, hb⟩; refine ⟨_, rfl, ?_⟩; replace HO232 := rb_ HO232 hb; replace HO235 := rb_ HO235 hb; replace HO238 := vb_ HO238 hb; replace HO245 := vb_ HO245 hb; replace HO253 := vb_ HO253 hb; replace HO256 := vb_ HO256 hb; replace HO262 := Aside0.mk (Kd.V_lower (Kd.V_mono (ok' := fun k_ => some k_ ≠ (.slice Ao37 y240.length co37 : Value).ownBlock) ho0 (fun k_ hk_ => Or.elim hk_ (fun hs_ => Or.elim hs_ (fun hs_ => hs_) (fun hs_ => hs_)) (fun hn_ => (Kd.fresh' (Kd.R_lt (rq_ HO242)) k_ hn_)))) bsz_); replace HO265 := Aside0.mk (Kd.V_lower (Kd.V_mono (ok' := fun k_ => some k_ ≠ (.slice Ao37 y240.length co37 : Value).ownBlock) ho1 (fun k_ hk_ => Or.elim hk_ (fun hs_ => Or.elim hs_ (fun hs_ => hs_) (fun hs_ => hs_)) (fun hn_ => (Kd.fresh' (Kd.R_lt (rq_ HO242)) k_ hn_)))) bsz_); replace HO242 := rb_ HO242 hb; replace HB := Aside0.mk (bst_ hb); (try clear hb); (try clear hb2); (try clear hk); (try clear hi); (try clear ho0); (try clear ho1)) | ((with_reducible refine gate_dst (N := 75) rfl ?_); (try (refine gate_guard (by rfl) ?_; dsimp only)); refine Kd.R_lit (Kd.int .i64) _ 3 ?hg (N := 75) ?hd (xs := ([1] : List Int)) (inner := [.int .i64 1]) (ok := fun _ => True) (okp := fun _ => True) ?hr ?hp (fun _ hk => hk) trivial (Below.refl _ _) (Nat.le_refl _) (by simp) ?_; (case hd => rfl); (case hg => rfl); (case hr => first | (go_simp; done) | (go_simp; rfl)); (case hp => exact (Reps.one (show Kd.M (Kd.int .i64) _ _ _ 1 [.int .i64 1] from rfl) (Reps.none _ _))); intro v268 w48 ho49 hb hg_ hnew_; clear hg_ hnew_; (first | rw [← Ny267.out] at ho49 | (simp only [Int.reduceToNat] at ho49; rw [← Ny267.out] at ho49)); replace HO232 := rb_ HO232 hb; replace HO235 := rb_ HO235 hb; replace HO238 := Aside0.mk (Kd.V_elder' (vq_ HO238) (Kd.R_base ho49) hb); replace HO242 := rb_ HO242 hb; replace HO245 := Aside0.mk (Kd.V_elder' (vq_ HO245) (Kd.R_base ho49) hb); replace HO253 := Aside0.mk (Kd.V_elder' (vq_ HO253) (Kd.R_base ho49) hb); replace HO256 := Aside0.mk (Kd.V_elder' (vq_ HO256) (Kd.R_base ho49) hb); replace HO262 := Aside0.mk (Kd.V_elder' (vq_ HO262) (Kd.R_base ho49) hb); replace HO265 := Aside0.mk (Kd.V_elder' (vq_ HO265) (Kd.R_base ho49) hb); replace HO269 := Aside0.mk (Kd.R_lower ho49 bsz_); replace HB := Aside0.mk (bst_ hb); clear hb ho49; obtain ⟨Ao50, co50, eo50⟩ := Kd.R_slice HO269.out; subst eo50) | ((with_reducible refine gate_callee (f := 18) rfl ?_); refine goesL_ (some 76) rfl rfl Try.func18 (by kernel_rfl) rfl #[.slice Ao38 t236.length co38, .slice Ao40 y230.length co40, .slice Ao50 y267.length co50] rfl mp_ ?_; (with_reducible refine (after_All.calls k (fun k_ => ((some k_ ≠ (.slice Ao40 y230.length co40 : Value).ownBlock ∧ some k_ ≠ (.slice Ao37 y240.length co37 : Value).ownBlock) ∧ some k_ ≠ (.slice Ao50 y267.length co50 : Value).ownBlock)) _ _ t236 (fun k_ => some k_ = (.slice Ao40 y230.length co40 : Value).ownBlock) _ _ y230 _ _ y267 t270 t273 t276 _ ?side1 ?side2 ?side3 ?side4 A8.out).mono ?_); (case side1 => exact HO238.out); (case side2 => exact Kd.R_V (Kd.R_tight rfl (Kd.R_apart' (Kd.R_apart' (Kd.R_apart' (HO232.out) (Kd.R_typed HO235.out) (by decide)) (Kd.R_typed HO242.out) (by decide)) (Kd.R_typed HO269.out) (by decide)))); (case side3 => repeat (first | exact (Kd.R_reads' HO269.out).2.2 | with_reducible first | refine Kd.C_alloc ?_ _ | refine Kd.C_drewN ?_ _ | refine Kd.C_drew ?_)); (case side4 => exact (Kd.R_reads' HO269.out).2.1); rintro e w51 ⟨v271, v274, rfl, ho0, ho1, hb⟩; refine ⟨_, rfl, ?_⟩; replace HO238 := vb_ HO238 hb; replace HO245 := vb_ HO245 hb; replace HO253 := vb_ HO253 hb; replace HO256 := vb_ HO256 hb; replace HO262 := vb_ HO262 hb; replace HO265 := vb_ HO265 hb; replace HO272 := Aside0.mk (Kd.V_lower (Kd.V_mono (ok' := fun k_ => some k_ ≠ (.slice Ao37 y240.length co37 : Value).ownBlock ∧ some k_ ≠ (.slice Ao50 y267.length co50 : Value).ownBlock) ho0 (fun k_ hk_ => ⟨Or.elim hk_ (fun hs_ => Or.elim hs_ (fun hs_ => hs_.1.2) (fun hs_ => ((Kd.R_apart' (Kd.R_apart' (Kd.R_apart' (HO232.out) (Kd.R_typed HO235.out) (by decide)) (Kd.R_typed HO242.out) (by decide)) (Kd.R_typed HO269.out) (by decide)).1 k_ hs_.symm).1.2)) (fun hn_ => (Kd.fresh' (Kd.R_lt (rq_ HO242)) k_ hn_)), Or.elim hk_ (fun hs_ => Or.elim hs_ (fun hs_ => hs_.2) (fun hs_ => ((Kd.R_apart' (Kd.R_apart' (Kd.R_apart' (HO232.out) (Kd.R_typed HO235.out) (by decide)) (Kd.R_typed HO242.out) (by decide)) (Kd.R_typed HO269.out) (by decide)).1 k_ hs_.symm).2)) (fun hn_ => (Kd.fresh' (Kd.R_lt (rq_ HO269)) k_ hn_))⟩)) bsz_); replace HO275 := Aside0.mk (Kd.V_lower (Kd.V_mono (ok' := fun k_ => some k_ ≠ (.slice Ao37 y240.length co37 : Value).ownBlock ∧ some k_ ≠ (.slice Ao50 y267.length co50 : Value).ownBlock) ho1 (fun k_ hk_ => ⟨Or.elim hk_ (fun hs_ => Or.elim hs_ (fun hs_ => hs_.1.2) (fun hs_ => ((Kd.R_apart' (Kd.R_apart' (Kd.R_apart' (HO232.out) (Kd.R_typed HO235.out) (by decide)) (Kd.R_typed HO242.out) (by decide)) (Kd.R_typed HO269.out) (by decide)).1 k_ hs_.symm).1.2)) (fun hn_ => (Kd.fresh' (Kd.R_lt (rq_ HO242)) k_ hn_)), Or.elim hk_ (fun hs_ => Or.elim hs_ (fun hs_ => hs_.2) (fun hs_ => ((Kd.R_apart' (Kd.R_apart' (Kd.R_apart' (HO232.out) (Kd.R_typed HO235.out) (by decide)) (Kd.R_typed HO242.out) (by decide)) (Kd.R_typed HO269.out) (by decide)).1 k_ hs_.symm).2)) (fun hn_ => (Kd.fresh' (Kd.R_lt (rq_ HO269)) k_ hn_))⟩)) bsz_); replace HO232 := rb_ HO232 hb; replace HO235 := rb_ HO235 hb; replace HO242 := rb_ HO242 hb; replace HO269 := rb_ HO269 hb; replace HB := Aside0.mk (bst_ hb); (try clear hb); (try clear hb2); (try clear hk); (try clear hi); (try clear ho0); (try clear ho1); obtain ⟨Ao52, co52, eo52⟩ := Kd.V_slice HO275.out; subst eo52; have p277 : 0 ≤ (0 : Int) := (by omega); have q277 : 0 < (t273.length : Int) := oda_; obtain ⟨ad277, e277, hx277_0, hx277_1⟩ := at_T66 (Kd.V_reads' HO275.out).2.2 0 p277 q277; cases e277; have qi277 : (0 < t273.length) = True := eq_true (by omega); (try rw [show ((0 : Int)).toNat = 0 from rfl] at hx277_0); (try rw [show 0 * 2 = 0 from rfl] at hx277_0); (try rw [Addr.add_zero'] at hx277_0); (try rw [show ((0 : Int)).toNat = 0 from rfl] at hx277_1); (try rw [show 0 * 2 = 0 from rfl] at hx277_1); (try rw [Addr.add_zero'] at hx277_1); replace p277 := eq_true p277; replace q277 := eq_true q277) | (go_at_call 24; (with_reducible refine (after_Holder.calls k _ _ t236 0 t278 _ ?side1 ?side2 A23.out).mono ?_); (case side1 => repeat (first | exact (Kd.V_reads' HO238.out).2.2 | with_reducible first | refine Kd.C_alloc ?_ _ | refine Kd.C_drewN ?_ _ | refine Kd.C_drew ?_)); (case side2 => exact (Kd.V_reads' HO238.out).2.1); rintro e w53 ⟨rfl, hb⟩; replace HO232 := rb_ HO232 hb; replace HO235 := rb_ HO235 hb; replace HO238 := vb_ HO238 hb; replace HO242 := rb_ HO242 hb; replace HO245 := vb_ HO245 hb; replace HO253 := vb_ HO253 hb; replace HO256 := vb_ HO256 hb; replace HO262 := vb_ HO262 hb; replace HO265 := vb_ HO265 hb; replace HO269 := rb_ HO269 hb; replace HO272 := vb_ HO272 hb; replace HO275 := vb_ HO275 hb; replace HB := Aside0.mk (bst_ hb); (try clear hb); (try clear hb2); (try clear hk); (try clear hi)) | (go_at_call 24; (with_reducible refine (after_Holder.calls k _ _ t236 1 t279 _ ?side1 ?side2 A25.out).mono ?_); (case side1 => repeat (first | exact (Kd.V_reads' HO238.out).2.2 | with_reducible first | refine Kd.C_alloc ?_ _ | refine Kd.C_drewN ?_ _ | refine Kd.C_drew ?_)); (case side2 => exact (Kd.V_reads' HO238.out).2.1); rintro e w54 ⟨rfl, hb⟩; replace HO232 := rb_ HO232 hb; replace HO235 := rb_ HO235 hb; replace HO238 := vb_ HO238 hb; replace HO242 := rb_ HO242 hb; replace HO245 := vb_ HO245 hb; replace HO253 := vb_ HO253 hb; replace HO256 := vb_ HO256 hb; replace HO262 := vb_ HO262 hb; replace HO265 := vb_ HO265 hb; replace HO269 := rb_ HO269 hb; replace HO272 := vb_ HO272 hb; replace HO275 := vb_ HO275 hb; replace HB := Aside0.mk (bst_ hb); (try clear hb); (try clear hb2); (try clear hk); (try clear hi)) | (go_at_call 22; (with_reducible refine (after_Right.calls k _ _ t236 true _ ?side1 ?side2 A27.out).mono ?_); (case side1 => repeat (first | exact (Kd.V_reads' HO238.out).2.2 | with_reducible first | refine Kd.C_alloc ?_ _ | refine Kd.C_drewN ?_ _ | refine Kd.C_drew ?_)); (case side2 => exact (Kd.V_reads' HO238.out).2.1); rintro e w55 ⟨rfl, hb⟩; replace HO232 := rb_ HO232 hb; replace HO235 := rb_ HO235 hb; replace HO238 := vb_ HO238 hb; replace HO242 := rb_ HO242 hb; replace HO245 := vb_ HO245 hb; replace HO253 := vb_ HO253 hb; replace HO256 := vb_ HO256 hb; replace HO262 := vb_ HO262 hb; replace HO265 := vb_ HO265 hb; replace HO269 := rb_ HO269 hb; replace HO272 := vb_ HO272 hb; replace HO275 := vb_ HO275 hb; replace HB := Aside0.mk (bst_ hb); (try clear hb); (try clear hb2); (try clear hk); (try clear hi)))
                                   go_ret
                                   exact ⟨by first | rfl | (simp [errW_none, errW_some] <;> rfl) | (simp [*, errW_none, errW_some] <;> rfl), bsv_⟩
                                 · replace c28 := Bool.eq_false_iff.mpr c28
                                   subst c28
                                   rw [if_neg (show ¬ (false = true) by decide)] at H
                                   exact absurd (Option.some.inj H) (by rw [HT.out]; decide)
                               · rw [if_neg c26] at H
                                 have c26b0 : (t279 == 0) = false := beq_eq_false_iff_ne.mpr c26
                                 have c26b1 : (t279 != 0) = true := bne_iff_ne.mpr c26
                                 exact absurd (Option.some.inj H) (by rw [HT.out]; decide)
                             · rw [if_neg c24] at H
                               have c24b0 : (t278 == 1) = false := beq_eq_false_iff_ne.mpr c24
                               have c24b1 : (t278 != 1) = true := bne_iff_ne.mpr c24
                               exact absurd (Option.some.inj H) (by rw [HT.out]; decide)
                           · rw [if_neg c22] at H
                             have c22b0 : (((rd_T66 t273 0).f1) == 9) = false := beq_eq_false_iff_ne.mpr c22
                             have c22b1 : (((rd_T66 t273 0).f1) != 9) = true := bne_iff_ne.mpr c22
                             exact absurd (Option.some.inj H) (by rw [HT.out]; decide)
                         · rw [if_neg c21] at H
                           exact absurd H (by simp)
                       · rw [if_neg c20] at H
                         have c20b0 : ((t273.length : Int) == 2) = false := beq_eq_false_iff_ne.mpr c20
                         have c20b1 : ((t273.length : Int) != 2) = true := bne_iff_ne.mpr c20
                         exact absurd (Option.some.inj H) (by rw [HT.out]; decide)
                     · rw [if_neg c19] at H
                       have c19b0 : (t276 == 0) = false := beq_eq_false_iff_ne.mpr c19
                       have c19b1 : (t276 != 0) = true := bne_iff_ne.mpr c19
                       exact absurd (Option.some.inj H) (by rw [HT.out]; decide)
                   · rw [if_neg c18] at H
                     have c18b0 : (t266 == 3) = false := beq_eq_false_iff_ne.mpr c18
                     have c18b1 : (t266 != 3) = true := bne_iff_ne.mpr c18
                     exact absurd (Option.some.inj H) (by rw [HT.out]; decide)
                 · rw [if_neg c17] at H
                   have c17b0 : ((t251.length : Int) == 0) = false := beq_eq_false_iff_ne.mpr c17
                   have c17b1 : ((t251.length : Int) != 0) = true := bne_iff_ne.mpr c17
                   have c17b2 : ¬ (t251 = []) := fun h_ => c17 (by rw [h_]; rfl)
                   exact absurd (Option.some.inj H) (by rw [HT.out]; decide)
               · rw [if_neg c16] at H
                 have c16b0 : (t259 == 0) = false := beq_eq_false_iff_ne.mpr c16
                 have c16b1 : (t259 != 0) = true := bne_iff_ne.mpr c16
                 exact absurd (Option.some.inj H) (by rw [HT.out]; decide)
             · rw [if_neg c15] at H
               have c15b0 : (t258 == 9) = false := beq_eq_false_iff_ne.mpr c15
               have c15b1 : (t258 != 9) = true := bne_iff_ne.mpr c15
               exact absurd (Option.some.inj H) (by rw [HT.out]; decide)
           · rw [if_neg c14] at H
             have c14b0 : (t257 == 0) = false := beq_eq_false_iff_ne.mpr c14
             have c14b1 : (t257 != 0) = true := bne_iff_ne.mpr c14
             exact absurd (Option.some.inj H) (by rw [HT.out]; decide)
         · rw [if_neg c13] at H
           have c13b0 : (t250 == 0) = false := beq_eq_false_iff_ne.mpr c13
           have c13b1 : (t250 != 0) = true := bne_iff_ne.mpr c13
           exact absurd (Option.some.inj H) (by rw [HT.out]; decide)
       · rw [if_neg c12] at H
         have c12b0 : (t249 == 3) = false := beq_eq_false_iff_ne.mpr c12
         have c12b1 : (t249 != 3) = true := bne_iff_ne.mpr c12
         exact absurd (Option.some.inj H) (by rw [HT.out]; decide)
     · rw [if_neg c11] at H
       have c11b0 : (t248 == 7) = false := beq_eq_false_iff_ne.mpr c11
       have c11b1 : (t248 != 7) = true := bne_iff_ne.mpr c11
       exact absurd (Option.some.inj H) (by rw [HT.out]; decide)
   · rw [if_neg c10] at H
     have c10b0 : (t246 == 7) = false := beq_eq_false_iff_ne.mpr c10
     have c10b1 : (t246 != 7) = true := bne_iff_ne.mpr c10
     exact absurd (Option.some.inj H) (by rw [HT.out]; decide)
 · rw [if_neg c9] at H
   have c9b0 : (t239 == 0) = false := beq_eq_false_iff_ne.mpr c9
   have c9b1 : (t239 != 0) = true := bne_iff_ne.mpr c9
   exact absurd (Option.some.inj H) (by rw [HT.out]; decide)

theorem handshakerlaw22_awake.only (k : Nat) (r : Bool) (h : handshakerlaw22_awake.f k = some r) : r = true := by
 have h1 : handshakerlaw22_awake.f 60 = some true := by decide +kernel
 have h2 := at_rounds (g := handshakerlaw22_awake.f) handshakerlaw22_awake.mono (Nat.le_max_left k 60) h
 have h3 := at_rounds (g := handshakerlaw22_awake.f) handshakerlaw22_awake.mono (Nat.le_max_right k 60) h1
 rw [h2] at h3
 exact Option.some.inj h3
theorem handshakerlaw22_awake.calls (k : Nat) (r : Bool) (w : World) (h : handshakerlaw22_awake.f k = some r) :
 Calls Try.prog 12 #[] w fun e w' => e = .returned (.bool r) ∧ Below w.heap.size w w' :=
 handshakerlaw22_awake.callsT k r w ⟨handshakerlaw22_awake.only k r h⟩ h

end Go.Proofs.Ytihcnbhcemkncaa.B
