-- PRINTED by print.py (a twelfth state) out of the translation. Not trusted: Lean checks it.
import Derived.Test.YtihcnbhcemkncaaAx0
import Derived.Test.YtihcnbhcemkncaaAx3
import Derived.Test.YtihcnbhcemkncaaAx4
import Derived.Test.YtihcnbhcemkncaaAx5
import Derived.Test.YtihcnbhcemkncaaAx6
import Derived.Test.YtihcnbhcemkncaaAx7
import Derived.Test.YtihcnbhcemkncaaAx15
namespace Go.Proofs.Ytihcnbhcemkncaa.A
open Go.Proofs.Ytihcnbhcemkncaa.Ho
open Go.RowKit Go.Proofs.YtihcnbhcemkncaaW.PrintWords Go.Proofs.YtihcnbhcemkncaaW.PrintLast Go.Proofs.YtihcnbhcemkncaaW.PrintMore
attribute [local go_sem] max2_int min2_int max_two min_two max_three min_three max_four min_four   -- for this text's walks alone
set_option linter.unusedVariables false
set_option linter.unusedSimpArgs false

/-! ### handshakerlaw22_AfterFused: function 4 -/
mutual
def handshakerlaw22_AfterFused.j0 : Nat → List (S25) → Int → Int → List (S66) → List Int → Bool → Option (Bool)
 | 0, _, _, _, _, _, _ => none
 | k + 1, x0, x1, x2, x3, x4, x48 => if x48 = true then ((handshakerlaw22_awake.f k).bind fun t498 => (some t498)) else ((after_Holder.f k x0 x2).bind fun t499 => ((heap_Get.f x3 x2).bind fun bt500 => (if bt500.2 = 0 then (if t499 = x1 then (handshakerlaw22_AfterFused.j1 k x0 x1 x2 x3 x4 t499 bt500.1 (t499 != 0)) else (handshakerlaw22_AfterFused.j1 k x0 x1 x2 x3 x4 t499 bt500.1 false)) else (handshakerlaw22_AfterFused.j1 k x0 x1 x2 x3 x4 t499 bt500.1 true))))
def handshakerlaw22_AfterFused.j1 : Nat → List (S25) → Int → Int → List (S66) → List Int → Int → Int → Bool → Option (Bool)
 | 0, _, _, _, _, _, _, _, _ => none
 | k + 1, x0, x1, x2, x3, x4, x11, x12, x69 => if x69 = true then ((handshakerlaw22_awake.f k).bind fun t502 => (some t502)) else (handshakerlaw22_AfterFused.l0 k x0 x1 x2 x3 x4 x11 x12 x3 x0 0 (x0.length : Int) 0)
def handshakerlaw22_AfterFused.l0 : Nat → List (S25) → Int → Int → List (S66) → List Int → Int → Int → List (S66) → List (S25) → Int → Int → Int → Option (Bool)
 | 0, _, _, _, _, _, _, _, _, _, _, _, _ => none
 | k + 1, x0, x1, x2, x3, x4, x11, x12, x14, x15, x16, x74, x75 => if x75 < x74 then ((after_Do.f k x15 x11 x14).bind fun bt503 => (if bt503.2.2 = 0 then (handshakerlaw22_AfterFused.l0 k x0 x1 x2 x3 x4 x11 x12 bt503.2.1 bt503.1 (wrap64 (x16 + 1)) x74 (wrap64 (x75 + 1))) else (handshakerlaw22_AfterFused.l0 k x0 x1 x2 x3 x4 x11 x12 x14 x15 x16 x74 (wrap64 (x75 + 1))))) else ((heap_Get.f x14 x2).bind fun bt510 => (handshakerlaw22_AfterFused.l1 k x0 x1 x2 x11 x12 x16 bt510.1 bt510.2 x0 x3 x4 (x4.length : Int) 0))
def handshakerlaw22_AfterFused.l1 : Nat → List (S25) → Int → Int → Int → Int → Int → Int → Int → List (S25) → List (S66) → List Int → Int → Int → Option (Bool)
 | 0, _, _, _, _, _, _, _, _, _, _, _, _, _ => none
 | k + 1, x0, x1, x2, x11, x12, x16, x20, x21, x22, x23, x100, x101, x102 => if x102 < x101 then (if 0 ≤ x102 then (if x102 < (x100.length : Int) then ((after_Do.f k x22 (rd x100 x102) x23).bind fun bt513 => ((after_See.f k bt513.1 x1 bt513.2.1 x2).bind fun bt520 => ((after_Holder.f k bt513.1 x2).bind fun t522 => (if bt520.2 = 7 then (if t522 = 0 then (some false) else (handshakerlaw22_AfterFused.l1 k x0 x1 x2 x11 x12 x16 x20 x21 bt513.1 bt513.2.1 x100 x101 (wrap64 (x102 + 1)))) else (if x11 = 0 then (if bt520.2 = 0 then (if bt520.1 = x12 then (handshakerlaw22_AfterFused.l1 k x0 x1 x2 x11 x12 x16 x20 x21 bt513.1 bt513.2.1 x100 x101 (wrap64 (x102 + 1))) else (some false)) else (some false)) else (if bt520.2 = 0 then (if t522 = 0 then (handshakerlaw22_AfterFused.l1 k x0 x1 x2 x11 x12 x16 x20 x21 bt513.1 bt513.2.1 x100 x101 (wrap64 (x102 + 1))) else (some false)) else (some false))))))) else (none)) else (none)) else (handshakerlaw22_AfterFused.l2 k x0 x2 x11 x16 x20 x21 x22 x23 (x0.length : Int) 0)
def handshakerlaw22_AfterFused.l2 : Nat → List (S25) → Int → Int → Int → Int → Int → List (S25) → List (S66) → Int → Int → Option (Bool)
 | 0, _, _, _, _, _, _, _, _, _, _ => none
 | k + 1, x0, x2, x11, x16, x20, x21, x22, x23, x148, x149 => if x149 < x148 then ((after_Do.f k x22 x11 x23).bind fun bt523 => (handshakerlaw22_AfterFused.l2 k x0 x2 x11 x16 x20 x21 bt523.1 bt523.2.1 x148 (wrap64 (x149 + 1)))) else ((heap_Get.f x23 x2).bind fun bt530 => (if x21 = 0 then (if bt530.2 = 0 then (if bt530.1 = x20 then (if x16 ≤ (x0.length : Int) then ((handshakerlaw22_awake.f k).bind fun t532 => (some t532)) else (some false)) else (some false)) else (some false)) else (some false)))
end
def handshakerlaw22_AfterFused.f (k : Nat) (l0 : List (S25)) (a1 : Int) (a2 : Int) (l3 : List (S66)) (l4 : List Int) : Option (Bool) := (handshakerlaw22_small.f k l0).bind fun t496 => (if t496 = true then (if (l3.length : Int) > 64 then (handshakerlaw22_AfterFused.j0 k l0 a1 a2 l3 l4 true) else (if (l4.length : Int) > 40 then (handshakerlaw22_AfterFused.j0 k l0 a1 a2 l3 l4 true) else ((after_Right.f k l0).bind fun t497 => (handshakerlaw22_AfterFused.j0 k l0 a1 a2 l3 l4 (!t497))))) else (handshakerlaw22_AfterFused.j0 k l0 a1 a2 l3 l4 true))
theorem handshakerlaw22_AfterFused.mono_l : ∀ k, (∀ y0 y1 y2 y3 y4 y5, LeO (handshakerlaw22_AfterFused.j0 k y0 y1 y2 y3 y4 y5) (handshakerlaw22_AfterFused.j0 (k + 1) y0 y1 y2 y3 y4 y5)) ∧ (∀ y0 y1 y2 y3 y4 y5 y6 y7, LeO (handshakerlaw22_AfterFused.j1 k y0 y1 y2 y3 y4 y5 y6 y7) (handshakerlaw22_AfterFused.j1 (k + 1) y0 y1 y2 y3 y4 y5 y6 y7)) ∧ (∀ y0 y1 y2 y3 y4 y5 y6 y7 y8 y9 y10 y11, LeO (handshakerlaw22_AfterFused.l0 k y0 y1 y2 y3 y4 y5 y6 y7 y8 y9 y10 y11) (handshakerlaw22_AfterFused.l0 (k + 1) y0 y1 y2 y3 y4 y5 y6 y7 y8 y9 y10 y11)) ∧ (∀ y0 y1 y2 y3 y4 y5 y6 y7 y8 y9 y10 y11 y12, LeO (handshakerlaw22_AfterFused.l1 k y0 y1 y2 y3 y4 y5 y6 y7 y8 y9 y10 y11 y12) (handshakerlaw22_AfterFused.l1 (k + 1) y0 y1 y2 y3 y4 y5 y6 y7 y8 y9 y10 y11 y12)) ∧ (∀ y0 y1 y2 y3 y4 y5 y6 y7 y8 y9, LeO (handshakerlaw22_AfterFused.l2 k y0 y1 y2 y3 y4 y5 y6 y7 y8 y9) (handshakerlaw22_AfterFused.l2 (k + 1) y0 y1 y2 y3 y4 y5 y6 y7 y8 y9))
 | 0 => ⟨fun _ _ _ _ _ _ r h => by simp [handshakerlaw22_AfterFused.j0] at h, fun _ _ _ _ _ _ _ _ r h => by simp [handshakerlaw22_AfterFused.j1] at h, fun _ _ _ _ _ _ _ _ _ _ _ _ r h => by simp [handshakerlaw22_AfterFused.l0] at h, fun _ _ _ _ _ _ _ _ _ _ _ _ _ r h => by simp [handshakerlaw22_AfterFused.l1] at h, fun _ _ _ _ _ _ _ _ _ _ r h => by simp [handshakerlaw22_AfterFused.l2] at h⟩
 | k + 1 => by
  obtain ⟨ih0, ih1, ih2, ih3, ih4⟩ := handshakerlaw22_AfterFused.mono_l k
  refine ⟨?_, ?_, ?_, ?_, ?_⟩
  · intro y0 y1 y2 y3 y4 y5
    unfold handshakerlaw22_AfterFused.j0
    repeat' first
    | (with_reducible exact ih0 _ _ _ _ _ _)
    | (with_reducible exact ih1 _ _ _ _ _ _ _ _)
    | (with_reducible exact ih2 _ _ _ _ _ _ _ _ _ _ _ _)
    | (with_reducible exact ih3 _ _ _ _ _ _ _ _ _ _ _ _ _)
    | (with_reducible exact ih4 _ _ _ _ _ _ _ _ _ _)
    | (with_reducible exact after_Do.mono _ _ _ _)
    | (with_reducible exact after_Holder.mono _ _ _)
    | (with_reducible exact after_Right.mono _ _)
    | (with_reducible exact after_See.mono _ _ _ _ _)
    | (with_reducible exact handshakerlaw22_awake.mono _)
    | (with_reducible exact handshakerlaw22_small.mono _ _)
    | (with_reducible exact LeO.refl _)
    | (with_reducible exact LeO.none _)
    | (with_reducible refine LeO.ite ?_ ?_)
    | (with_reducible refine LeO.bind ?_ (fun _ => ?_))
    | exact ih0 _ _ _ _ _ _
    | exact ih1 _ _ _ _ _ _ _ _
    | exact ih2 _ _ _ _ _ _ _ _ _ _ _ _
    | exact ih3 _ _ _ _ _ _ _ _ _ _ _ _ _
    | exact ih4 _ _ _ _ _ _ _ _ _ _
    | exact after_Do.mono _ _ _ _
    | exact after_Holder.mono _ _ _
    | exact after_Right.mono _ _
    | exact after_See.mono _ _ _ _ _
    | exact handshakerlaw22_awake.mono _
    | exact handshakerlaw22_small.mono _ _
    | exact LeO.none _
    | refine LeO.ite ?_ ?_
    | refine LeO.bind ?_ (fun _ => ?_)
  · intro y0 y1 y2 y3 y4 y5 y6 y7
    unfold handshakerlaw22_AfterFused.j1
    repeat' first
    | (with_reducible exact ih0 _ _ _ _ _ _)
    | (with_reducible exact ih1 _ _ _ _ _ _ _ _)
    | (with_reducible exact ih2 _ _ _ _ _ _ _ _ _ _ _ _)
    | (with_reducible exact ih3 _ _ _ _ _ _ _ _ _ _ _ _ _)
    | (with_reducible exact ih4 _ _ _ _ _ _ _ _ _ _)
    | (with_reducible exact after_Do.mono _ _ _ _)
    | (with_reducible exact after_Holder.mono _ _ _)
    | (with_reducible exact after_Right.mono _ _)
    | (with_reducible exact after_See.mono _ _ _ _ _)
    | (with_reducible exact handshakerlaw22_awake.mono _)
    | (with_reducible exact handshakerlaw22_small.mono _ _)
    | (with_reducible exact LeO.refl _)
    | (with_reducible exact LeO.none _)
    | (with_reducible refine LeO.ite ?_ ?_)
    | (with_reducible refine LeO.bind ?_ (fun _ => ?_))
    | exact ih0 _ _ _ _ _ _
    | exact ih1 _ _ _ _ _ _ _ _
    | exact ih2 _ _ _ _ _ _ _ _ _ _ _ _
    | exact ih3 _ _ _ _ _ _ _ _ _ _ _ _ _
    | exact ih4 _ _ _ _ _ _ _ _ _ _
    | exact after_Do.mono _ _ _ _
    | exact after_Holder.mono _ _ _
    | exact after_Right.mono _ _
    | exact after_See.mono _ _ _ _ _
    | exact handshakerlaw22_awake.mono _
    | exact handshakerlaw22_small.mono _ _
    | exact LeO.none _
    | refine LeO.ite ?_ ?_
    | refine LeO.bind ?_ (fun _ => ?_)
  · intro y0 y1 y2 y3 y4 y5 y6 y7 y8 y9 y10 y11
    unfold handshakerlaw22_AfterFused.l0
    repeat' first
    | (with_reducible exact ih0 _ _ _ _ _ _)
    | (with_reducible exact ih1 _ _ _ _ _ _ _ _)
    | (with_reducible exact ih2 _ _ _ _ _ _ _ _ _ _ _ _)
    | (with_reducible exact ih3 _ _ _ _ _ _ _ _ _ _ _ _ _)
    | (with_reducible exact ih4 _ _ _ _ _ _ _ _ _ _)
    | (with_reducible exact after_Do.mono _ _ _ _)
    | (with_reducible exact after_Holder.mono _ _ _)
    | (with_reducible exact after_Right.mono _ _)
    | (with_reducible exact after_See.mono _ _ _ _ _)
    | (with_reducible exact handshakerlaw22_awake.mono _)
    | (with_reducible exact handshakerlaw22_small.mono _ _)
    | (with_reducible exact LeO.refl _)
    | (with_reducible exact LeO.none _)
    | (with_reducible refine LeO.ite ?_ ?_)
    | (with_reducible refine LeO.bind ?_ (fun _ => ?_))
    | exact ih0 _ _ _ _ _ _
    | exact ih1 _ _ _ _ _ _ _ _
    | exact ih2 _ _ _ _ _ _ _ _ _ _ _ _
    | exact ih3 _ _ _ _ _ _ _ _ _ _ _ _ _
    | exact ih4 _ _ _ _ _ _ _ _ _ _
    | exact after_Do.mono _ _ _ _
    | exact after_Holder.mono _ _ _
    | exact after_Right.mono _ _
    | exact after_See.mono _ _ _ _ _
    | exact handshakerlaw22_awake.mono _
    | exact handshakerlaw22_small.mono _ _
    | exact LeO.none _
    | refine LeO.ite ?_ ?_
    | refine LeO.bind ?_ (fun _ => ?_)
  · intro y0 y1 y2 y3 y4 y5 y6 y7 y8 y9 y10 y11 y12
    unfold handshakerlaw22_AfterFused.l1
    repeat' first
    | (with_reducible exact ih0 _ _ _ _ _ _)
    | (with_reducible exact ih1 _ _ _ _ _ _ _ _)
    | (with_reducible exact ih2 _ _ _ _ _ _ _ _ _ _ _ _)
    | (with_reducible exact ih3 _ _ _ _ _ _ _ _ _ _ _ _ _)
    | (with_reducible exact ih4 _ _ _ _ _ _ _ _ _ _)
    | (with_reducible exact after_Do.mono _ _ _ _)
    | (with_reducible exact after_Holder.mono _ _ _)
    | (with_reducible exact after_Right.mono _ _)
    | (with_reducible exact after_See.mono _ _ _ _ _)
    | (with_reducible exact handshakerlaw22_awake.mono _)
    | (with_reducible exact handshakerlaw22_small.mono _ _)
    | (with_reducible exact LeO.refl _)
    | (with_reducible exact LeO.none _)
    | (with_reducible refine LeO.ite ?_ ?_)
    | (with_reducible refine LeO.bind ?_ (fun _ => ?_))
    | exact ih0 _ _ _ _ _ _
    | exact ih1 _ _ _ _ _ _ _ _
    | exact ih2 _ _ _ _ _ _ _ _ _ _ _ _
    | exact ih3 _ _ _ _ _ _ _ _ _ _ _ _ _
    | exact ih4 _ _ _ _ _ _ _ _ _ _
    | exact after_Do.mono _ _ _ _
    | exact after_Holder.mono _ _ _
    | exact after_Right.mono _ _
    | exact after_See.mono _ _ _ _ _
    | exact handshakerlaw22_awake.mono _
    | exact handshakerlaw22_small.mono _ _
    | exact LeO.none _
    | refine LeO.ite ?_ ?_
    | refine LeO.bind ?_ (fun _ => ?_)
  · intro y0 y1 y2 y3 y4 y5 y6 y7 y8 y9
    unfold handshakerlaw22_AfterFused.l2
    repeat' first
    | (with_reducible exact ih0 _ _ _ _ _ _)
    | (with_reducible exact ih1 _ _ _ _ _ _ _ _)
    | (with_reducible exact ih2 _ _ _ _ _ _ _ _ _ _ _ _)
    | (with_reducible exact ih3 _ _ _ _ _ _ _ _ _ _ _ _ _)
    | (with_reducible exact ih4 _ _ _ _ _ _ _ _ _ _)
    | (with_reducible exact after_Do.mono _ _ _ _)
    | (with_reducible exact after_Holder.mono _ _ _)
    | (with_reducible exact after_Right.mono _ _)
    | (with_reducible exact after_See.mono _ _ _ _ _)
    | (with_reducible exact handshakerlaw22_awake.mono _)
    | (with_reducible exact handshakerlaw22_small.mono _ _)
    | (with_reducible exact LeO.refl _)
    | (with_reducible exact LeO.none _)
    | (with_reducible refine LeO.ite ?_ ?_)
    | (with_reducible refine LeO.bind ?_ (fun _ => ?_))
    | exact ih0 _ _ _ _ _ _
    | exact ih1 _ _ _ _ _ _ _ _
    | exact ih2 _ _ _ _ _ _ _ _ _ _ _ _
    | exact ih3 _ _ _ _ _ _ _ _ _ _ _ _ _
    | exact ih4 _ _ _ _ _ _ _ _ _ _
    | exact after_Do.mono _ _ _ _
    | exact after_Holder.mono _ _ _
    | exact after_Right.mono _ _
    | exact after_See.mono _ _ _ _ _
    | exact handshakerlaw22_awake.mono _
    | exact handshakerlaw22_small.mono _ _
    | exact LeO.none _
    | refine LeO.ite ?_ ?_
    | refine LeO.bind ?_ (fun _ => ?_)
theorem handshakerlaw22_AfterFused.mono : ∀ a0 a1 a2 a3 a4 k, LeO (handshakerlaw22_AfterFused.f k a0 a1 a2 a3 a4) (handshakerlaw22_AfterFused.f (k + 1) a0 a1 a2 a3 a4) := by
 intro a0 a1 a2 a3 a4 k
 obtain ⟨ih0, ih1, ih2, ih3, ih4⟩ := handshakerlaw22_AfterFused.mono_l k
 unfold handshakerlaw22_AfterFused.f
 repeat' first
  | (with_reducible exact ih0 _ _ _ _ _ _)
  | (with_reducible exact ih1 _ _ _ _ _ _ _ _)
  | (with_reducible exact ih2 _ _ _ _ _ _ _ _ _ _ _ _)
  | (with_reducible exact ih3 _ _ _ _ _ _ _ _ _ _ _ _ _)
  | (with_reducible exact ih4 _ _ _ _ _ _ _ _ _ _)
  | (with_reducible exact after_Do.mono _ _ _ _)
  | (with_reducible exact after_Holder.mono _ _ _)
  | (with_reducible exact after_Right.mono _ _)
  | (with_reducible exact after_See.mono _ _ _ _ _)
  | (with_reducible exact handshakerlaw22_awake.mono _)
  | (with_reducible exact handshakerlaw22_small.mono _ _)
  | (with_reducible exact LeO.refl _)
  | (with_reducible exact LeO.none _)
  | (with_reducible refine LeO.ite ?_ ?_)
  | (with_reducible refine LeO.bind ?_ (fun _ => ?_))
  | exact ih0 _ _ _ _ _ _
  | exact ih1 _ _ _ _ _ _ _ _
  | exact ih2 _ _ _ _ _ _ _ _ _ _ _ _
  | exact ih3 _ _ _ _ _ _ _ _ _ _ _ _ _
  | exact ih4 _ _ _ _ _ _ _ _ _ _
  | exact after_Do.mono _ _ _ _
  | exact after_Holder.mono _ _ _
  | exact after_Right.mono _ _
  | exact after_See.mono _ _ _ _ _
  | exact handshakerlaw22_awake.mono _
  | exact handshakerlaw22_small.mono _ _
  | exact LeO.none _
  | refine LeO.ite ?_ ?_
  | refine LeO.bind ?_ (fun _ => ?_)
set_option maxHeartbeats 8000000 in
set_option maxRecDepth 100000 in
theorem handshakerlaw22_AfterFused.calls (k : Nat) (P0_ : Nat → Prop) (A0 : Option Addr) (c0 : Nat) (l0 : List (S25)) (a1 : Int) (a2 : Int) (P3_ : Nat → Prop) (A3 : Option Addr) (c3 : Nat) (l3 : List (S66)) (A4 : Option Addr) (c4 : Nat) (l4 : List Int) (r : Bool) (w : World) (HT : Aside0 (r = true)) (hs0 : Kd.V k25 25 w w.heap.size (fun k_ => P0_ k_) (.slice A0 l0.length c0) l0) (hs3 : Kd.V k66 66 w w.heap.size (fun k_ => P3_ k_) (.slice A3 l3.length c3) l3) (hr4 : Kd.C (Kd.int .i64) w A4 l4.length l4) (hc4 : l4.length ≤ c4) (h : handshakerlaw22_AfterFused.f k l0 a1 a2 l3 l4 = some r) :
 Calls Try.prog 4 #[.slice A0 l0.length c0, .int .i64 a1, .int .i64 a2, .slice A3 l3.length c3, .slice A4 l4.length c4] w fun e w' => e = .returned (.bool r) ∧ Below w.heap.size w w' := by
 have HO0 := Aside0.mk (show Kd.V k25 25 w w.heap.size (fun k_ => ((P0_ k_ ∨ P3_ k_) ∨ w.heap.size ≤ k_)) (.slice A0 l0.length c0) l0 from Kd.V_mono hs0 (fun k_ hk => .inl (.inl hk)))
 have HO3 := Aside0.mk (show Kd.V k66 66 w w.heap.size (fun k_ => ((P0_ k_ ∨ P3_ k_) ∨ w.heap.size ≤ k_)) (.slice A3 l3.length c3) l3 from Kd.V_mono hs3 (fun k_ hk => .inl (.inr hk)))
 have HR4 := Aside0.mk hr4
 have HC4 := Aside0.mk hc4
 clear hr4 hc4
 have HB := Aside0.mk (Below.refl w.heap.size w)
 have H : ((handshakerlaw22_small.f k l0).bind fun t496 => (if t496 = true then (if (l3.length : Int) > 64 then (handshakerlaw22_AfterFused.j0 k l0 a1 a2 l3 l4 true) else (if (l4.length : Int) > 40 then (handshakerlaw22_AfterFused.j0 k l0 a1 a2 l3 l4 true) else ((after_Right.f k l0).bind fun t497 => (handshakerlaw22_AfterFused.j0 k l0 a1 a2 l3 l4 (!t497))))) else (handshakerlaw22_AfterFused.j0 k l0 a1 a2 l3 l4 true))) = some r := h
 clear h
 have HC6 := Aside0.mk H
 clear H
 go_enter Try.func4, Try.ntmps4
 go_upto_region 1 with (fail)
 go_cut [48] (fun v48 wc => ∃ (kq : Nat) (x48_5 : Bool), v48 = .bool x48_5 ∧ Aside0 (handshakerlaw22_AfterFused.j0 kq l0 a1 a2 l3 l4 x48_5 = some r) ∧ Aside0 (kq ≤ k) ∧ Aside0 (Kd.V k25 25 wc w.heap.size (fun k_ => ((P0_ k_ ∨ P3_ k_) ∨ w.heap.size ≤ k_)) (.slice A0 l0.length c0) l0) ∧ Aside0 (Kd.V k66 66 wc w.heap.size (fun k_ => ((P0_ k_ ∨ P3_ k_) ∨ w.heap.size ≤ k_)) (.slice A3 l3.length c3) l3) ∧ Aside0 (Below w.heap.size w wc))
 case first =>
  have H := HC6.out
  clear HC6
  replace H := Option.bind_eq_some_iff.mp H
  obtain ⟨t496, A70, H⟩ := H
  replace H : (if t496 = true then (if (l3.length : Int) > 64 then (handshakerlaw22_AfterFused.j0 k l0 a1 a2 l3 l4 true) else (if (l4.length : Int) > 40 then (handshakerlaw22_AfterFused.j0 k l0 a1 a2 l3 l4 true) else ((after_Right.f k l0).bind fun t497 => (handshakerlaw22_AfterFused.j0 k l0 a1 a2 l3 l4 (!t497))))) else (handshakerlaw22_AfterFused.j0 k l0 a1 a2 l3 l4 true)) = some r := H
  have A7 := Aside0.mk A70
  clear A70
  by_cases c8 : t496 = true
  · subst c8
    have H1 : (if (l3.length : Int) > 64 then (handshakerlaw22_AfterFused.j0 k l0 a1 a2 l3 l4 true) else (if (l4.length : Int) > 40 then (handshakerlaw22_AfterFused.j0 k l0 a1 a2 l3 l4 true) else ((after_Right.f k l0).bind fun t497 => (handshakerlaw22_AfterFused.j0 k l0 a1 a2 l3 l4 (!t497))))) = some r := by rw [if_pos rfl] at H; exact H
    clear H
    have H := H1
    clear H1
    by_cases c9 : (l3.length : Int) > 64
    · rw [if_pos c9] at H
      have c9b0 : decide (64 < (l3.length : Int)) = true := decide_eq_true c9
      have c9b1 : decide (64 < l3.length) = true := decide_eq_true (by omega)
      clear c9
      (first | rw [c9b0] | (simp only [i64_w, i32_w]; rw [c9b0]) | skip)
      have H' := Aside0.mk H
      clear H
      go_wp2_with (first | ((with_reducible refine gate_callee (f := 11) rfl ?_); refine goesL_ (some 32) rfl rfl Try.func11 (by kernel_rfl) rfl #[.slice A0 l0.length c0] rfl (by (try simp only [List.map_toArray, List.map_cons, List.map_nil]); first | done | rfl) ?_; (with_reducible refine (handshakerlaw22_small.calls k _ _ l0 true _ ?side1 ?side2 A7.out).mono ?_); (case side1 => repeat (first | exact (Kd.V_reads' HO0.out).2.2 | with_reducible first | refine Kd.C_alloc ?_ _ | refine Kd.C_drewN ?_ _ | refine Kd.C_drew ?_)); (case side2 => exact (Kd.V_reads' HO0.out).2.1); rintro e w10 ⟨rfl, hb⟩; refine ⟨_, rfl, ?_⟩; have n0_ := Aside0.mk (Kd.V_below (by (with_reducible repeat (first | apply Kd.V_alloc | apply Kd.V_drewN | apply Kd.V_drew)); exact HO0.out) hb); have n1_ := Aside0.mk (Kd.V_below (by (with_reducible repeat (first | apply Kd.V_alloc | apply Kd.V_drewN | apply Kd.V_drew)); exact HO3.out) hb); have n2_ := Aside0.mk (bst_ hb); clear HO0; clear HO3; clear HB; have HO0 := n0_; have HO3 := n1_; have HB := n2_; clear n0_ n1_ n2_; (try clear hb); (try clear hb2); (try clear hk); (try clear hi)))
      go_meet
      case rel => exact ⟨_, (true), (by first | rfl | (simp; done) | (simp [*]; done)), H', ⟨by first | omega | exact Nat.le_refl _⟩, ⟨by (with_reducible repeat (first | apply Kd.V_alloc | apply Kd.V_drewN | apply Kd.V_drew)); exact HO0.out⟩, ⟨by (with_reducible repeat (first | apply Kd.V_alloc | apply Kd.V_drewN | apply Kd.V_drew)); exact HO3.out⟩, ⟨by repeat (with_reducible first | exact HB.out | apply below_alloc | apply pw_below_drewN | apply below_drew1)⟩⟩
    · rw [if_neg c9] at H
      have c9b0 : decide (64 < (l3.length : Int)) = false := decide_eq_false c9
      have c9b1 : decide (64 < l3.length) = false := decide_eq_false (by omega)
      clear c9
      (first | rw [c9b0] | (simp only [i64_w, i32_w]; rw [c9b0]) | skip)
      by_cases c11 : (l4.length : Int) > 40
      · rw [if_pos c11] at H
        have c11b0 : decide (40 < (l4.length : Int)) = true := decide_eq_true c11
        have c11b1 : decide (40 < l4.length) = true := decide_eq_true (by omega)
        clear c11
        have H' := Aside0.mk H
        clear H
        go_wp2_with (first | ((with_reducible refine gate_callee (f := 11) rfl ?_); refine goesL_ (some 32) rfl rfl Try.func11 (by kernel_rfl) rfl #[.slice A0 l0.length c0] rfl (by (try simp only [List.map_toArray, List.map_cons, List.map_nil]); first | done | rfl) ?_; (with_reducible refine (handshakerlaw22_small.calls k _ _ l0 true _ ?side1 ?side2 A7.out).mono ?_); (case side1 => repeat (first | exact (Kd.V_reads' HO0.out).2.2 | with_reducible first | refine Kd.C_alloc ?_ _ | refine Kd.C_drewN ?_ _ | refine Kd.C_drew ?_)); (case side2 => exact (Kd.V_reads' HO0.out).2.1); rintro e w12 ⟨rfl, hb⟩; refine ⟨_, rfl, ?_⟩; have n0_ := Aside0.mk (Kd.V_below (by (with_reducible repeat (first | apply Kd.V_alloc | apply Kd.V_drewN | apply Kd.V_drew)); exact HO0.out) hb); have n1_ := Aside0.mk (Kd.V_below (by (with_reducible repeat (first | apply Kd.V_alloc | apply Kd.V_drewN | apply Kd.V_drew)); exact HO3.out) hb); have n2_ := Aside0.mk (bst_ hb); clear HO0; clear HO3; clear HB; have HO0 := n0_; have HO3 := n1_; have HB := n2_; clear n0_ n1_ n2_; (try clear hb); (try clear hb2); (try clear hk); (try clear hi)))
        go_meet
        case rel => exact ⟨_, (true), (by first | rfl | (simp; done) | (simp [*]; done)), H', ⟨by first | omega | exact Nat.le_refl _⟩, ⟨by (with_reducible repeat (first | apply Kd.V_alloc | apply Kd.V_drewN | apply Kd.V_drew)); exact HO0.out⟩, ⟨by (with_reducible repeat (first | apply Kd.V_alloc | apply Kd.V_drewN | apply Kd.V_drew)); exact HO3.out⟩, ⟨by repeat (with_reducible first | exact HB.out | apply below_alloc | apply pw_below_drewN | apply below_drew1)⟩⟩
      · rw [if_neg c11] at H
        have c11b0 : decide (40 < (l4.length : Int)) = false := decide_eq_false c11
        have c11b1 : decide (40 < l4.length) = false := decide_eq_false (by omega)
        clear c11
        replace H := Option.bind_eq_some_iff.mp H
        obtain ⟨t497, A130, H⟩ := H
        replace H : (handshakerlaw22_AfterFused.j0 k l0 a1 a2 l3 l4 (!t497)) = some r := H
        have A13 := Aside0.mk A130
        clear A130
        have H' := Aside0.mk H
        clear H
        go_wp2_with (first | ((with_reducible refine gate_callee (f := 11) rfl ?_); refine goesL_ (some 32) rfl rfl Try.func11 (by kernel_rfl) rfl #[.slice A0 l0.length c0] rfl (by (try simp only [List.map_toArray, List.map_cons, List.map_nil]); first | done | rfl) ?_; (with_reducible refine (handshakerlaw22_small.calls k _ _ l0 true _ ?side1 ?side2 A7.out).mono ?_); (case side1 => repeat (first | exact (Kd.V_reads' HO0.out).2.2 | with_reducible first | refine Kd.C_alloc ?_ _ | refine Kd.C_drewN ?_ _ | refine Kd.C_drew ?_)); (case side2 => exact (Kd.V_reads' HO0.out).2.1); rintro e w14 ⟨rfl, hb⟩; refine ⟨_, rfl, ?_⟩; have n0_ := Aside0.mk (Kd.V_below (by (with_reducible repeat (first | apply Kd.V_alloc | apply Kd.V_drewN | apply Kd.V_drew)); exact HO0.out) hb); have n1_ := Aside0.mk (Kd.V_below (by (with_reducible repeat (first | apply Kd.V_alloc | apply Kd.V_drewN | apply Kd.V_drew)); exact HO3.out) hb); have n2_ := Aside0.mk (bst_ hb); clear HO0; clear HO3; clear HB; have HO0 := n0_; have HO3 := n1_; have HB := n2_; clear n0_ n1_ n2_; (try clear hb); (try clear hb2); (try clear hk); (try clear hi)) | (go_at_call 22; (with_reducible refine (after_Right.calls k _ _ l0 t497 _ ?side1 ?side2 A13.out).mono ?_); (case side1 => repeat (first | exact (Kd.V_reads' HO0.out).2.2 | with_reducible first | refine Kd.C_alloc ?_ _ | refine Kd.C_drewN ?_ _ | refine Kd.C_drew ?_)); (case side2 => exact (Kd.V_reads' HO0.out).2.1); rintro e w15 ⟨rfl, hb⟩; have n0_ := Aside0.mk (Kd.V_below (by (with_reducible repeat (first | apply Kd.V_alloc | apply Kd.V_drewN | apply Kd.V_drew)); exact HO0.out) hb); have n1_ := Aside0.mk (Kd.V_below (by (with_reducible repeat (first | apply Kd.V_alloc | apply Kd.V_drewN | apply Kd.V_drew)); exact HO3.out) hb); have n2_ := Aside0.mk (bst_ hb); clear HO0; clear HO3; clear HB; have HO0 := n0_; have HO3 := n1_; have HB := n2_; clear n0_ n1_ n2_; (try clear hb); (try clear hb2); (try clear hk); (try clear hi)))
        go_meet
        case rel => exact ⟨_, (!t497), (by first | rfl | (simp; done) | (simp [*]; done)), H', ⟨by first | omega | exact Nat.le_refl _⟩, ⟨by (with_reducible repeat (first | apply Kd.V_alloc | apply Kd.V_drewN | apply Kd.V_drew)); exact HO0.out⟩, ⟨by (with_reducible repeat (first | apply Kd.V_alloc | apply Kd.V_drewN | apply Kd.V_drew)); exact HO3.out⟩, ⟨by repeat (with_reducible first | exact HB.out | apply below_alloc | apply pw_below_drewN | apply below_drew1)⟩⟩
  · replace c8 := Bool.eq_false_iff.mpr c8
    subst c8
    have H1 : (handshakerlaw22_AfterFused.j0 k l0 a1 a2 l3 l4 true) = some r := by rw [if_neg (show ¬ (false = true) by decide)] at H; exact H
    clear H
    have H := H1
    clear H1
    have H' := Aside0.mk H
    clear H
    go_wp2_with (first | ((with_reducible refine gate_callee (f := 11) rfl ?_); refine goesL_ (some 32) rfl rfl Try.func11 (by kernel_rfl) rfl #[.slice A0 l0.length c0] rfl (by (try simp only [List.map_toArray, List.map_cons, List.map_nil]); first | done | rfl) ?_; (with_reducible refine (handshakerlaw22_small.calls k _ _ l0 false _ ?side1 ?side2 A7.out).mono ?_); (case side1 => repeat (first | exact (Kd.V_reads' HO0.out).2.2 | with_reducible first | refine Kd.C_alloc ?_ _ | refine Kd.C_drewN ?_ _ | refine Kd.C_drew ?_)); (case side2 => exact (Kd.V_reads' HO0.out).2.1); rintro e w16 ⟨rfl, hb⟩; refine ⟨_, rfl, ?_⟩; have n0_ := Aside0.mk (Kd.V_below (by (with_reducible repeat (first | apply Kd.V_alloc | apply Kd.V_drewN | apply Kd.V_drew)); exact HO0.out) hb); have n1_ := Aside0.mk (Kd.V_below (by (with_reducible repeat (first | apply Kd.V_alloc | apply Kd.V_drewN | apply Kd.V_drew)); exact HO3.out) hb); have n2_ := Aside0.mk (bst_ hb); clear HO0; clear HO3; clear HB; have HO0 := n0_; have HO3 := n1_; have HB := n2_; clear n0_ n1_ n2_; (try clear hb); (try clear hb2); (try clear hk); (try clear hi)))
    go_meet
    case rel => exact ⟨_, (true), (by first | rfl | (simp; done) | (simp [*]; done)), H', ⟨by first | omega | exact Nat.le_refl _⟩, ⟨by (with_reducible repeat (first | apply Kd.V_alloc | apply Kd.V_drewN | apply Kd.V_drew)); exact HO0.out⟩, ⟨by (with_reducible repeat (first | apply Kd.V_alloc | apply Kd.V_drewN | apply Kd.V_drew)); exact HO3.out⟩, ⟨by repeat (with_reducible first | exact HB.out | apply below_alloc | apply pw_below_drewN | apply below_drew1)⟩⟩
 case rest =>
  clear HC6
  try clear c1
  try clear p2
  try clear c3
  try clear c4
  try clear c8
  try clear c9
  try clear c9b0
  try clear c9b1
  try clear c11
  try clear c11b0
  try clear c11b1
  obtain ⟨kq, x48_5, rfl, HA, HJ5, HO_0, HO_3, HB⟩ := hcut
  cases kq with
  | zero => exact absurd HA.out (by simp [handshakerlaw22_AfterFused.j0])
  | succ kj5 =>
   have H := HA.out
   clear HA
   simp only [handshakerlaw22_AfterFused.j0] at H
   by_cases c17 : x48_5 = true
   · subst c17
     have H1 : ((handshakerlaw22_awake.f kj5).bind fun t498 => (some t498)) = some r := by rw [if_pos rfl] at H; exact H
     clear H
     have H := H1
     clear H1
     replace H := Option.bind_eq_some_iff.mp H
     obtain ⟨t498, A180, H⟩ := H
     replace H : (some t498) = some r := H
     have A18 := Aside0.mk A180
     clear A180
     obtain rfl := Option.some.inj H
     go_wp2_with (first | ((with_reducible refine gate_callee (f := 12) rfl ?_); refine goesL_ (some 49) rfl rfl Try.func12 (by kernel_rfl) rfl #[] rfl (by (try simp only [List.map_toArray, List.map_cons, List.map_nil]); first | done | rfl) ?_; (with_reducible refine (handshakerlaw22_awake.calls kj5  t498 _ A18.out).mono ?_); rintro e w19 ⟨rfl, hb⟩; refine ⟨_, rfl, ?_⟩; have n0_ := Aside0.mk (Kd.V_below (by (with_reducible repeat (first | apply Kd.V_alloc | apply Kd.V_drewN | apply Kd.V_drew)); exact HO_0.out) hb); have n1_ := Aside0.mk (Kd.V_below (by (with_reducible repeat (first | apply Kd.V_alloc | apply Kd.V_drewN | apply Kd.V_drew)); exact HO_3.out) hb); have n2_ := Aside0.mk (bst_ hb); clear HO_0; clear HO_3; clear HB; have HO_0 := n0_; have HO_3 := n1_; have HB := n2_; clear n0_ n1_ n2_; (try clear hb); (try clear hb2); (try clear hk); (try clear hi)))
     go_ret
     exact ⟨by first | rfl | (simp [errW_none, errW_some] <;> rfl) | (simp [*, errW_none, errW_some] <;> rfl), by repeat (with_reducible first | exact HB.out | apply below_alloc | apply pw_below_drewN | apply below_drew1)⟩
   · replace c17 := Bool.eq_false_iff.mpr c17
     subst c17
     have H1 : ((after_Holder.f kj5 l0 a2).bind fun t499 => ((heap_Get.f l3 a2).bind fun bt500 => (if bt500.2 = 0 then (if t499 = a1 then (handshakerlaw22_AfterFused.j1 kj5 l0 a1 a2 l3 l4 t499 bt500.1 (t499 != 0)) else (handshakerlaw22_AfterFused.j1 kj5 l0 a1 a2 l3 l4 t499 bt500.1 false)) else (handshakerlaw22_AfterFused.j1 kj5 l0 a1 a2 l3 l4 t499 bt500.1 true)))) = some r := by rw [if_neg (show ¬ (false = true) by decide)] at H; exact H
     clear H
     have H := H1
     clear H1
     replace H := Option.bind_eq_some_iff.mp H
     obtain ⟨t499, A200, H⟩ := H
     replace H : ((heap_Get.f l3 a2).bind fun bt500 => (if bt500.2 = 0 then (if t499 = a1 then (handshakerlaw22_AfterFused.j1 kj5 l0 a1 a2 l3 l4 t499 bt500.1 (t499 != 0)) else (handshakerlaw22_AfterFused.j1 kj5 l0 a1 a2 l3 l4 t499 bt500.1 false)) else (handshakerlaw22_AfterFused.j1 kj5 l0 a1 a2 l3 l4 t499 bt500.1 true))) = some r := H
     have A20 := Aside0.mk A200
     clear A200
     replace H := Option.bind_eq_some_iff.mp H
     obtain ⟨⟨t500, t501⟩, A210, H⟩ := H
     replace H : (if t501 = 0 then (if t499 = a1 then (handshakerlaw22_AfterFused.j1 kj5 l0 a1 a2 l3 l4 t499 t500 (t499 != 0)) else (handshakerlaw22_AfterFused.j1 kj5 l0 a1 a2 l3 l4 t499 t500 false)) else (handshakerlaw22_AfterFused.j1 kj5 l0 a1 a2 l3 l4 t499 t500 true)) = some r := H
     have A21 := Aside0.mk A210
     clear A210
     have HC22 := Aside0.mk H
     clear H
     go_upto_region 5 with (first | ((with_reducible refine gate_callee (f := 24) rfl ?_); refine goesL_ (some 52) rfl rfl Try.func24 (by kernel_rfl) rfl #[.slice A0 l0.length c0, .int .i64 a2] rfl (by (try simp only [List.map_toArray, List.map_cons, List.map_nil]); first | done | rfl) ?_; (with_reducible refine (after_Holder.calls kj5 _ _ l0 a2 t499 _ ?side1 ?side2 A20.out).mono ?_); (case side1 => repeat (first | exact (Kd.V_reads' HO_0.out).2.2 | with_reducible first | refine Kd.C_alloc ?_ _ | refine Kd.C_drewN ?_ _ | refine Kd.C_drew ?_)); (case side2 => exact (Kd.V_reads' HO_0.out).2.1); rintro e w23 ⟨rfl, hb⟩; refine ⟨_, rfl, ?_⟩; have n0_ := Aside0.mk (Kd.V_below (by (with_reducible repeat (first | apply Kd.V_alloc | apply Kd.V_drewN | apply Kd.V_drew)); exact HO_0.out) hb); have n1_ := Aside0.mk (Kd.V_below (by (with_reducible repeat (first | apply Kd.V_alloc | apply Kd.V_drewN | apply Kd.V_drew)); exact HO_3.out) hb); have n2_ := Aside0.mk (bst_ hb); clear HO_0; clear HO_3; clear HB; have HO_0 := n0_; have HO_3 := n1_; have HB := n2_; clear n0_ n1_ n2_; (try clear hb); (try clear hb2); (try clear hk); (try clear hi)) | ((with_reducible refine gate_callee (f := 28) rfl ?_); refine goesL_ (some 56) rfl rfl Try.func28 (by kernel_rfl) rfl #[.slice A3 l3.length c3, .int .i64 a2] rfl (by (try simp only [List.map_toArray, List.map_cons, List.map_nil]); first | done | rfl) ?_; (with_reducible refine (heap_Get.calls _ _ l3 a2 t500 t501 _ ?side1 ?side2 A21.out).mono ?_); (case side1 => repeat (first | exact (Kd.V_reads' HO_3.out).2.2 | with_reducible first | refine Kd.C_alloc ?_ _ | refine Kd.C_drewN ?_ _ | refine Kd.C_drew ?_)); (case side2 => exact (Kd.V_reads' HO_3.out).2.1); rintro e w24 ⟨rfl, hb⟩; refine ⟨_, rfl, ?_⟩; have n0_ := Aside0.mk (Kd.V_below (by (with_reducible repeat (first | apply Kd.V_alloc | apply Kd.V_drewN | apply Kd.V_drew)); exact HO_0.out) hb); have n1_ := Aside0.mk (Kd.V_below (by (with_reducible repeat (first | apply Kd.V_alloc | apply Kd.V_drewN | apply Kd.V_drew)); exact HO_3.out) hb); have n2_ := Aside0.mk (bst_ hb); clear HO_0; clear HO_3; clear HB; have HO_0 := n0_; have HO_3 := n1_; have HB := n2_; clear n0_ n1_ n2_; (try clear hb); (try clear hb2); (try clear hk); (try clear hi)))
     (try simp only [Act.put, List.setIfInBounds_toArray, List.set_cons_zero, List.set_cons_succ])
     go_cut [69] (fun v69 wc => ∃ (kq : Nat) (x69_21 : Bool), v69 = .bool x69_21 ∧ Aside0 (handshakerlaw22_AfterFused.j1 kq l0 a1 a2 l3 l4 t499 t500 x69_21 = some r) ∧ Aside0 (kq ≤ kj5) ∧ Aside0 (Kd.V k25 25 wc w.heap.size (fun k_ => ((P0_ k_ ∨ P3_ k_) ∨ w.heap.size ≤ k_)) (.slice A0 l0.length c0) l0) ∧ Aside0 (Kd.V k66 66 wc w.heap.size (fun k_ => ((P0_ k_ ∨ P3_ k_) ∨ w.heap.size ≤ k_)) (.slice A3 l3.length c3) l3) ∧ Aside0 (Below w.heap.size w wc))
     case first =>
      have H := HC22.out
      clear HC22
      by_cases c25 : t501 = 0
      · rw [if_pos c25] at H
        have c25b0 : (t501 == 0) = true := beq_iff_eq.mpr c25
        have c25b1 : (t501 != 0) = false := bne_eq_false_iff_eq.mpr c25
        clear c25
        (first | rw [c25b0] | (simp only [i64_w, i32_w]; rw [c25b0]) | skip)
        by_cases c26 : t499 = a1
        · rw [if_pos c26] at H
          have c26b0 : (t499 == a1) = true := beq_iff_eq.mpr c26
          have c26b1 : (t499 != a1) = false := bne_eq_false_iff_eq.mpr c26
          clear c26
          have H' := Aside0.mk H
          clear H
          go_wp2
          go_meet
          case rel => exact ⟨_, ((t499 != 0)), (by first | rfl | (simp; done) | (simp [*]; done)), H', ⟨by have := HJ5.out; first | omega | exact Nat.le_refl _⟩, ⟨by (with_reducible repeat (first | apply Kd.V_alloc | apply Kd.V_drewN | apply Kd.V_drew)); exact HO_0.out⟩, ⟨by (with_reducible repeat (first | apply Kd.V_alloc | apply Kd.V_drewN | apply Kd.V_drew)); exact HO_3.out⟩, ⟨by repeat (with_reducible first | exact HB.out | apply below_alloc | apply pw_below_drewN | apply below_drew1)⟩⟩
        · rw [if_neg c26] at H
          have c26b0 : (t499 == a1) = false := beq_eq_false_iff_ne.mpr c26
          have c26b1 : (t499 != a1) = true := bne_iff_ne.mpr c26
          have H' := Aside0.mk H
          clear H
          go_wp2
          go_meet
          case rel => exact ⟨_, (false), (by first | rfl | (simp; done) | (simp [*]; done)), H', ⟨by have := HJ5.out; first | omega | exact Nat.le_refl _⟩, ⟨by (with_reducible repeat (first | apply Kd.V_alloc | apply Kd.V_drewN | apply Kd.V_drew)); exact HO_0.out⟩, ⟨by (with_reducible repeat (first | apply Kd.V_alloc | apply Kd.V_drewN | apply Kd.V_drew)); exact HO_3.out⟩, ⟨by repeat (with_reducible first | exact HB.out | apply below_alloc | apply pw_below_drewN | apply below_drew1)⟩⟩
      · rw [if_neg c25] at H
        have c25b0 : (t501 == 0) = false := beq_eq_false_iff_ne.mpr c25
        have c25b1 : (t501 != 0) = true := bne_iff_ne.mpr c25
        (first | rw [c25b0] | (simp only [i64_w, i32_w]; rw [c25b0]) | skip)
        have H' := Aside0.mk H
        clear H
        go_wp2
        go_meet
        case rel => exact ⟨_, (true), (by first | rfl | (simp; done) | (simp [*]; done)), H', ⟨by have := HJ5.out; first | omega | exact Nat.le_refl _⟩, ⟨by (with_reducible repeat (first | apply Kd.V_alloc | apply Kd.V_drewN | apply Kd.V_drew)); exact HO_0.out⟩, ⟨by (with_reducible repeat (first | apply Kd.V_alloc | apply Kd.V_drewN | apply Kd.V_drew)); exact HO_3.out⟩, ⟨by repeat (with_reducible first | exact HB.out | apply below_alloc | apply pw_below_drewN | apply below_drew1)⟩⟩
     case rest =>
      clear HC22
      try clear c1
      try clear c2
      try clear p2
      try clear c3
      try clear c4
      try clear c8
      try clear c9
      try clear c9b0
      try clear c9b1
      try clear c11
      try clear c11b0
      try clear c11b1
      try clear c12
      try clear c17
      try clear c24
      try clear c25
      try clear c25b0
      try clear c25b1
      try clear c26
      try clear c26b0
      try clear c26b1
      try clear p2
      obtain ⟨kq, x69_21, rfl, HA, HJ21, HO_0, HO_3, HB⟩ := hcut
      cases kq with
      | zero => exact absurd HA.out (by simp [handshakerlaw22_AfterFused.j1])
      | succ kj21 =>
       have H := HA.out
       clear HA
       simp only [handshakerlaw22_AfterFused.j1] at H
       by_cases c27 : x69_21 = true
       · subst c27
         have H1 : ((handshakerlaw22_awake.f kj21).bind fun t502 => (some t502)) = some r := by rw [if_pos rfl] at H; exact H
         clear H
         have H := H1
         clear H1
         replace H := Option.bind_eq_some_iff.mp H
         obtain ⟨t502, A280, H⟩ := H
         replace H : (some t502) = some r := H
         have A28 := Aside0.mk A280
         clear A280
         obtain rfl := Option.some.inj H
         go_wp2_with (first | ((with_reducible refine gate_callee (f := 12) rfl ?_); refine goesL_ (some 70) rfl rfl Try.func12 (by kernel_rfl) rfl #[] rfl (by (try simp only [List.map_toArray, List.map_cons, List.map_nil]); first | done | rfl) ?_; (with_reducible refine (handshakerlaw22_awake.calls kj21  t502 _ A28.out).mono ?_); rintro e w29 ⟨rfl, hb⟩; refine ⟨_, rfl, ?_⟩; have n0_ := Aside0.mk (Kd.V_below (by (with_reducible repeat (first | apply Kd.V_alloc | apply Kd.V_drewN | apply Kd.V_drew)); exact HO_0.out) hb); have n1_ := Aside0.mk (Kd.V_below (by (with_reducible repeat (first | apply Kd.V_alloc | apply Kd.V_drewN | apply Kd.V_drew)); exact HO_3.out) hb); have n2_ := Aside0.mk (bst_ hb); clear HO_0; clear HO_3; clear HB; have HO_0 := n0_; have HO_3 := n1_; have HB := n2_; clear n0_ n1_ n2_; (try clear hb); (try clear hb2); (try clear hk); (try clear hi)))
         go_ret
         exact ⟨by first | rfl | (simp [errW_none, errW_some] <;> rfl) | (simp [*, errW_none, errW_some] <;> rfl), by repeat (with_reducible first | exact HB.out | apply below_alloc | apply pw_below_drewN | apply below_drew1)⟩
       · replace c27 := Bool.eq_false_iff.mpr c27
         subst c27
         have H1 : (handshakerlaw22_AfterFused.l0 kj21 l0 a1 a2 l3 l4 t499 t500 l3 l0 0 (l0.length : Int) 0) = some r := by rw [if_neg (show ¬ (false = true) by decide)] at H; exact H
         clear H
         have H := H1
         clear H1
         have H' := Aside0.mk H
         clear H
         go_wp2
         go_loopg [14, 15, 16, 75] kj21 (fun kq v14 v15 v16 v75 w' => ∃ (x14_3 : List (S66)) (x15_3 : List (S25)) (x16_3 : Int) (x75_3 : Int), v16 = .int .i64 x16_3 ∧ v75 = .int .i64 x75_3 ∧ Aside0 (handshakerlaw22_AfterFused.l0 kq l0 a1 a2 l3 l4 t499 t500 x14_3 x15_3 x16_3 (l0.length : Int) x75_3 = some r) ∧ Aside0 (kq ≤ kj21) ∧ Aside0 (Kd.V k25 25 w' w.heap.size (fun k_ => ((P0_ k_ ∨ P3_ k_) ∨ w.heap.size ≤ k_)) (.slice A0 l0.length c0) l0) ∧ Aside0 (Kd.V k66 66 w' w.heap.size (fun k_ => ((P0_ k_ ∨ P3_ k_) ∨ w.heap.size ≤ k_)) (.slice A3 l3.length c3) l3) ∧ Aside0 (Kd.V k66 66 w' w.heap.size (fun k_ => ((P0_ k_ ∨ P3_ k_) ∨ w.heap.size ≤ k_)) v14 x14_3) ∧ Aside0 (Kd.V k25 25 w' w.heap.size (fun k_ => ((P0_ k_ ∨ P3_ k_) ∨ w.heap.size ≤ k_)) v15 x15_3) ∧ Aside0 (Below w.heap.size w w'))
         case atStart => exact ⟨(l3), (l0), (0), (0), (by first | rfl | (simp; done) | (simp [*]; done)), (by first | rfl | (simp; done) | (simp [*]; done)), H', ⟨Nat.le_refl _⟩, ⟨by (with_reducible repeat (first | apply Kd.V_alloc | apply Kd.V_drewN | apply Kd.V_drew)); exact HO_0.out⟩, ⟨by (with_reducible repeat (first | apply Kd.V_alloc | apply Kd.V_drewN | apply Kd.V_drew)); exact HO_3.out⟩, ⟨by (with_reducible repeat (first | apply Kd.V_alloc | apply Kd.V_drewN | apply Kd.V_drew)); exact HO_3.out⟩, ⟨by (with_reducible repeat (first | apply Kd.V_alloc | apply Kd.V_drewN | apply Kd.V_drew)); exact HO_0.out⟩, ⟨by repeat (with_reducible first | exact HB.out | apply below_alloc | apply pw_below_drewN | apply below_drew1)⟩⟩
         case round =>
          clear H'
          try clear c1
          try clear c2
          try clear p2
          try clear c3
          try clear c4
          try clear c8
          try clear c9
          try clear c9b0
          try clear c9b1
          try clear c11
          try clear c11b0
          try clear c11b1
          try clear c12
          try clear c17
          try clear c24
          try clear c25
          try clear c25b0
          try clear c25b1
          try clear c26
          try clear c26b0
          try clear c26b1
          try clear c27
          try clear c28
          try clear p2
          obtain ⟨x14_3, x15_3, x16_3, x75_3, rfl, rfl, HA, HK3, HO_0, HO_3, HO_14, HO_15, HB⟩ := hrel
          cases gk with
          | zero => exact absurd HA.out (by simp [handshakerlaw22_AfterFused.l0])
          | succ k3 =>
           have H := HA.out
           clear HA
           simp only [handshakerlaw22_AfterFused.l0] at H
           by_cases c30 : x75_3 < (l0.length : Int)
           · rw [if_pos c30] at H
             have c30b0 : decide (x75_3 < (l0.length : Int)) = true := decide_eq_true c30
             clear c30
             replace H := Option.bind_eq_some_iff.mp H
             obtain ⟨⟨t503, t506, t509⟩, A310, H⟩ := H
             replace H : (if t509 = 0 then (handshakerlaw22_AfterFused.l0 k3 l0 a1 a2 l3 l4 t499 t500 t506 t503 (wrap64 (x16_3 + 1)) (l0.length : Int) (wrap64 (x75_3 + 1))) else (handshakerlaw22_AfterFused.l0 k3 l0 a1 a2 l3 l4 t499 t500 x14_3 x15_3 x16_3 (l0.length : Int) (wrap64 (x75_3 + 1)))) = some r := H
             have A31 := Aside0.mk A310
             clear A310
             by_cases c32 : t509 = 0
             · rw [if_pos c32] at H
               have c32b0 : (t509 == 0) = true := beq_iff_eq.mpr c32
               have c32b1 : (t509 != 0) = false := bne_eq_false_iff_eq.mpr c32
               clear c32
               have H' := Aside0.mk H
               clear H
               obtain ⟨Ao33, co33, eo33⟩ := Kd.V_slice HO_15.out
               subst eo33
               obtain ⟨Ao34, co34, eo34⟩ := Kd.V_slice HO_14.out
               subst eo34
               go_wp2_with (first | ((with_reducible refine gate_callee (f := 16) rfl ?_); refine goesL_ (some 81) rfl rfl Try.func16 (by kernel_rfl) rfl #[.slice Ao33 x15_3.length co33, .int .i64 t499, .slice Ao34 x14_3.length co34] rfl (by (try simp only [List.map_toArray, List.map_cons, List.map_nil]); first | done | rfl) ?_; (with_reducible refine (after_Do.calls k3 (fun k_ => ((P0_ k_ ∨ P3_ k_) ∨ w.heap.size ≤ k_)) _ _ x15_3 t499 (fun k_ => ((P0_ k_ ∨ P3_ k_) ∨ w.heap.size ≤ k_)) _ _ x14_3 t503 t506 t509 _ ?side1 ?side2 A31.out).mono ?_); (case side1 => exact HO_15.out); (case side2 => exact HO_14.out); rintro e w35 ⟨v504, v507, rfl, ho0, ho1, hb⟩; refine ⟨_, rfl, ?_⟩; have n0_ := Aside0.mk (Kd.V_below (by (with_reducible repeat (first | apply Kd.V_alloc | apply Kd.V_drewN | apply Kd.V_drew)); exact HO_0.out) hb); have n1_ := Aside0.mk (Kd.V_below (by (with_reducible repeat (first | apply Kd.V_alloc | apply Kd.V_drewN | apply Kd.V_drew)); exact HO_3.out) hb); have n2_ := Aside0.mk (Kd.V_below (by (with_reducible repeat (first | apply Kd.V_alloc | apply Kd.V_drewN | apply Kd.V_drew)); exact HO_14.out) hb); have n3_ := Aside0.mk (Kd.V_below (by (with_reducible repeat (first | apply Kd.V_alloc | apply Kd.V_drewN | apply Kd.V_drew)); exact HO_15.out) hb); have n4_ := Aside0.mk (Kd.V_lower (Kd.V_mono (ok' := fun k_ => ((P0_ k_ ∨ P3_ k_) ∨ w.heap.size ≤ k_)) ho0 (fun k_ hk_ => Or.elim hk_ (fun hs_ => Or.elim hs_ (fun hs_ => hs_) (fun hs_ => hs_)) (fun hn_ => (.inr (Nat.le_trans bsz_ hn_))))) bsz_); have n5_ := Aside0.mk (Kd.V_lower (Kd.V_mono (ok' := fun k_ => ((P0_ k_ ∨ P3_ k_) ∨ w.heap.size ≤ k_)) ho1 (fun k_ hk_ => Or.elim hk_ (fun hs_ => Or.elim hs_ (fun hs_ => hs_) (fun hs_ => hs_)) (fun hn_ => (.inr (Nat.le_trans bsz_ hn_))))) bsz_); have n6_ := Aside0.mk (bst_ hb); clear HO_0; clear HO_3; clear HO_14; clear HO_15; clear HB; have HO_0 := n0_; have HO_3 := n1_; have HO_14 := n2_; have HO_15 := n3_; have HO505 := n4_; have HO508 := n5_; have HB := n6_; clear n0_ n1_ n2_ n3_ n4_ n5_ n6_; (try clear hb); (try clear hb2); (try clear hk); (try clear hi); (try clear ho0); (try clear ho1)))
               go_roundg k3
               case measure => have := HJ5.out; have := HJ21.out; have := HK3.out; omega
               case rel => exact ⟨(t506), (t503), (wrap64 (x16_3 + 1)), (wrap64 (x75_3 + 1)), (by first | rfl | (simp; done) | (simp [*]; done)), (by first | rfl | (simp; done) | (simp [*]; done)), H', ⟨by have := HJ5.out; have := HJ21.out; have := HK3.out; omega⟩, ⟨by (with_reducible repeat (first | apply Kd.V_alloc | apply Kd.V_drewN | apply Kd.V_drew)); exact HO_0.out⟩, ⟨by (with_reducible repeat (first | apply Kd.V_alloc | apply Kd.V_drewN | apply Kd.V_drew)); exact HO_3.out⟩, ⟨by (with_reducible repeat (first | apply Kd.V_alloc | apply Kd.V_drewN | apply Kd.V_drew)); exact HO508.out⟩, ⟨by (with_reducible repeat (first | apply Kd.V_alloc | apply Kd.V_drewN | apply Kd.V_drew)); exact HO505.out⟩, ⟨by repeat (with_reducible first | exact HB.out | apply below_alloc | apply pw_below_drewN | apply below_drew1)⟩⟩
             · rw [if_neg c32] at H
               have c32b0 : (t509 == 0) = false := beq_eq_false_iff_ne.mpr c32
               have c32b1 : (t509 != 0) = true := bne_iff_ne.mpr c32
               have H' := Aside0.mk H
               clear H
               obtain ⟨Ao36, co36, eo36⟩ := Kd.V_slice HO_15.out
               subst eo36
               obtain ⟨Ao37, co37, eo37⟩ := Kd.V_slice HO_14.out
               subst eo37
               go_wp2_with (first | ((with_reducible refine gate_callee (f := 16) rfl ?_); refine goesL_ (some 81) rfl rfl Try.func16 (by kernel_rfl) rfl #[.slice Ao36 x15_3.length co36, .int .i64 t499, .slice Ao37 x14_3.length co37] rfl (by (try simp only [List.map_toArray, List.map_cons, List.map_nil]); first | done | rfl) ?_; (with_reducible refine (after_Do.calls k3 (fun k_ => ((P0_ k_ ∨ P3_ k_) ∨ w.heap.size ≤ k_)) _ _ x15_3 t499 (fun k_ => ((P0_ k_ ∨ P3_ k_) ∨ w.heap.size ≤ k_)) _ _ x14_3 t503 t506 t509 _ ?side1 ?side2 A31.out).mono ?_); (case side1 => exact HO_15.out); (case side2 => exact HO_14.out); rintro e w38 ⟨v504, v507, rfl, ho0, ho1, hb⟩; refine ⟨_, rfl, ?_⟩; have n0_ := Aside0.mk (Kd.V_below (by (with_reducible repeat (first | apply Kd.V_alloc | apply Kd.V_drewN | apply Kd.V_drew)); exact HO_0.out) hb); have n1_ := Aside0.mk (Kd.V_below (by (with_reducible repeat (first | apply Kd.V_alloc | apply Kd.V_drewN | apply Kd.V_drew)); exact HO_3.out) hb); have n2_ := Aside0.mk (Kd.V_below (by (with_reducible repeat (first | apply Kd.V_alloc | apply Kd.V_drewN | apply Kd.V_drew)); exact HO_14.out) hb); have n3_ := Aside0.mk (Kd.V_below (by (with_reducible repeat (first | apply Kd.V_alloc | apply Kd.V_drewN | apply Kd.V_drew)); exact HO_15.out) hb); have n4_ := Aside0.mk (Kd.V_lower (Kd.V_mono (ok' := fun k_ => ((P0_ k_ ∨ P3_ k_) ∨ w.heap.size ≤ k_)) ho0 (fun k_ hk_ => Or.elim hk_ (fun hs_ => Or.elim hs_ (fun hs_ => hs_) (fun hs_ => hs_)) (fun hn_ => (.inr (Nat.le_trans bsz_ hn_))))) bsz_); have n5_ := Aside0.mk (Kd.V_lower (Kd.V_mono (ok' := fun k_ => ((P0_ k_ ∨ P3_ k_) ∨ w.heap.size ≤ k_)) ho1 (fun k_ hk_ => Or.elim hk_ (fun hs_ => Or.elim hs_ (fun hs_ => hs_) (fun hs_ => hs_)) (fun hn_ => (.inr (Nat.le_trans bsz_ hn_))))) bsz_); have n6_ := Aside0.mk (bst_ hb); clear HO_0; clear HO_3; clear HO_14; clear HO_15; clear HB; have HO_0 := n0_; have HO_3 := n1_; have HO_14 := n2_; have HO_15 := n3_; have HO505 := n4_; have HO508 := n5_; have HB := n6_; clear n0_ n1_ n2_ n3_ n4_ n5_ n6_; (try clear hb); (try clear hb2); (try clear hk); (try clear hi); (try clear ho0); (try clear ho1)))
               go_roundg k3
               case measure => have := HJ5.out; have := HJ21.out; have := HK3.out; omega
               case rel => exact ⟨(x14_3), (x15_3), (x16_3), (wrap64 (x75_3 + 1)), (by first | rfl | (simp; done) | (simp [*]; done)), (by first | rfl | (simp; done) | (simp [*]; done)), H', ⟨by have := HJ5.out; have := HJ21.out; have := HK3.out; omega⟩, ⟨by (with_reducible repeat (first | apply Kd.V_alloc | apply Kd.V_drewN | apply Kd.V_drew)); exact HO_0.out⟩, ⟨by (with_reducible repeat (first | apply Kd.V_alloc | apply Kd.V_drewN | apply Kd.V_drew)); exact HO_3.out⟩, ⟨by (with_reducible repeat (first | apply Kd.V_alloc | apply Kd.V_drewN | apply Kd.V_drew)); exact HO_14.out⟩, ⟨by (with_reducible repeat (first | apply Kd.V_alloc | apply Kd.V_drewN | apply Kd.V_drew)); exact HO_15.out⟩, ⟨by repeat (with_reducible first | exact HB.out | apply below_alloc | apply pw_below_drewN | apply below_drew1)⟩⟩
           · rw [if_neg c30] at H
             have c30b0 : decide (x75_3 < (l0.length : Int)) = false := decide_eq_false c30
             clear c30
             replace H := Option.bind_eq_some_iff.mp H
             obtain ⟨⟨t510, t511⟩, A390, H⟩ := H
             replace H : (handshakerlaw22_AfterFused.l1 k3 l0 a1 a2 t499 t500 x16_3 t510 t511 l0 l3 l4 (l4.length : Int) 0) = some r := H
             have A39 := Aside0.mk A390
             clear A390
             have H' := Aside0.mk H
             clear H
             obtain ⟨Ao40, co40, eo40⟩ := Kd.V_slice HO_14.out
             subst eo40
             go_wp2_with (first | ((with_reducible refine gate_callee (f := 28) rfl ?_); refine goesL_ (some 95) rfl rfl Try.func28 (by kernel_rfl) rfl #[.slice Ao40 x14_3.length co40, .int .i64 a2] rfl (by (try simp only [List.map_toArray, List.map_cons, List.map_nil]); first | done | rfl) ?_; (with_reducible refine (heap_Get.calls _ _ x14_3 a2 t510 t511 _ ?side1 ?side2 A39.out).mono ?_); (case side1 => repeat (first | exact (Kd.V_reads' HO_14.out).2.2 | with_reducible first | refine Kd.C_alloc ?_ _ | refine Kd.C_drewN ?_ _ | refine Kd.C_drew ?_)); (case side2 => exact (Kd.V_reads' HO_14.out).2.1); rintro e w41 ⟨rfl, hb⟩; refine ⟨_, rfl, ?_⟩; have n0_ := Aside0.mk (Kd.V_below (by (with_reducible repeat (first | apply Kd.V_alloc | apply Kd.V_drewN | apply Kd.V_drew)); exact HO_0.out) hb); have n1_ := Aside0.mk (Kd.V_below (by (with_reducible repeat (first | apply Kd.V_alloc | apply Kd.V_drewN | apply Kd.V_drew)); exact HO_3.out) hb); have n2_ := Aside0.mk (Kd.V_below (by (with_reducible repeat (first | apply Kd.V_alloc | apply Kd.V_drewN | apply Kd.V_drew)); exact HO_14.out) hb); have n3_ := Aside0.mk (Kd.V_below (by (with_reducible repeat (first | apply Kd.V_alloc | apply Kd.V_drewN | apply Kd.V_drew)); exact HO_15.out) hb); have n4_ := Aside0.mk (bst_ hb); clear HO_0; clear HO_3; clear HO_14; clear HO_15; clear HB; have HO_0 := n0_; have HO_3 := n1_; have HO_14 := n2_; have HO_15 := n3_; have HB := n4_; clear n0_ n1_ n2_ n3_ n4_; (try clear hb); (try clear hb2); (try clear hk); (try clear hi)))
             go_loopg [22, 23, 102] k3 (fun kq v22 v23 v102 w' => ∃ (x22_4 : List (S25)) (x23_4 : List (S66)) (x102_4 : Int), v102 = .int .i64 x102_4 ∧ Aside0 (handshakerlaw22_AfterFused.l1 kq l0 a1 a2 t499 t500 x16_3 t510 t511 x22_4 x23_4 l4 (l4.length : Int) x102_4 = some r) ∧ Aside0 (kq ≤ k3) ∧ Aside0 (Kd.V k25 25 w' w.heap.size (fun k_ => ((P0_ k_ ∨ P3_ k_) ∨ w.heap.size ≤ k_)) (.slice A0 l0.length c0) l0) ∧ Aside0 (Kd.V k25 25 w' w.heap.size (fun k_ => ((P0_ k_ ∨ P3_ k_) ∨ w.heap.size ≤ k_)) v22 x22_4) ∧ Aside0 (Kd.V k66 66 w' w.heap.size (fun k_ => ((P0_ k_ ∨ P3_ k_) ∨ w.heap.size ≤ k_)) v23 x23_4) ∧ Aside0 (Below w.heap.size w w'))
             case atStart => exact ⟨(l0), (l3), (0), (by first | rfl | (simp; done) | (simp [*]; done)), H', ⟨Nat.le_refl _⟩, ⟨by (with_reducible repeat (first | apply Kd.V_alloc | apply Kd.V_drewN | apply Kd.V_drew)); exact HO_0.out⟩, ⟨by (with_reducible repeat (first | apply Kd.V_alloc | apply Kd.V_drewN | apply Kd.V_drew)); exact HO_0.out⟩, ⟨by (with_reducible repeat (first | apply Kd.V_alloc | apply Kd.V_drewN | apply Kd.V_drew)); exact HO_3.out⟩, ⟨by repeat (with_reducible first | exact HB.out | apply below_alloc | apply pw_below_drewN | apply below_drew1)⟩⟩
             case round =>
              clear H'
              try clear c1
              try clear c2
              try clear p2
              try clear c3
              try clear c4
              try clear p6
              try clear c8
              try clear c9
              try clear c9b0
              try clear c9b1
              try clear c11
              try clear c11b0
              try clear c11b1
              try clear c12
              try clear c16
              try clear c17
              try clear c24
              try clear c25
              try clear c25b0
              try clear c25b1
              try clear c26
              try clear c26b0
              try clear c26b1
              try clear c27
              try clear c28
              try clear c30
              try clear c30b0
              try clear c32
              try clear c32b0
              try clear c32b1
              try clear p2
              obtain ⟨x22_4, x23_4, x102_4, rfl, HA, HK4, HO_0, HO_22, HO_23, HB⟩ := hrel
              cases gk with
              | zero => exact absurd HA.out (by simp [handshakerlaw22_AfterFused.l1])
              | succ k4 =>
               have H := HA.out
               clear HA
               simp only [handshakerlaw22_AfterFused.l1] at H
               by_cases c42 : x102_4 < (l4.length : Int)
               · rw [if_pos c42] at H
                 have c42b0 : decide (x102_4 < (l4.length : Int)) = true := decide_eq_true c42
                 clear c42
                 by_cases c43 : 0 ≤ x102_4
                 · rw [if_pos c43] at H
                   have c43b0 : decide (0 ≤ x102_4) = true := decide_eq_true c43
                   clear c43
                   by_cases c44 : x102_4 < (l4.length : Int)
                   · rw [if_pos c44] at H
                     have c44b0 : decide (x102_4 < (l4.length : Int)) = true := decide_eq_true c44
                     clear c44
                     replace H := Option.bind_eq_some_iff.mp H
                     obtain ⟨⟨t513, t516, t519⟩, A450, H⟩ := H
                     replace H : ((after_See.f k4 t513 a1 t516 a2).bind fun bt520 => ((after_Holder.f k4 t513 a2).bind fun t522 => (if bt520.2 = 7 then (if t522 = 0 then (some false) else (handshakerlaw22_AfterFused.l1 k4 l0 a1 a2 t499 t500 x16_3 t510 t511 t513 t516 l4 (l4.length : Int) (wrap64 (x102_4 + 1)))) else (if t499 = 0 then (if bt520.2 = 0 then (if bt520.1 = t500 then (handshakerlaw22_AfterFused.l1 k4 l0 a1 a2 t499 t500 x16_3 t510 t511 t513 t516 l4 (l4.length : Int) (wrap64 (x102_4 + 1))) else (some false)) else (some false)) else (if bt520.2 = 0 then (if t522 = 0 then (handshakerlaw22_AfterFused.l1 k4 l0 a1 a2 t499 t500 x16_3 t510 t511 t513 t516 l4 (l4.length : Int) (wrap64 (x102_4 + 1))) else (some false)) else (some false)))))) = some r := H
                     have A45 := Aside0.mk A450
                     clear A450
                     replace H := Option.bind_eq_some_iff.mp H
                     obtain ⟨⟨t520, t521⟩, A460, H⟩ := H
                     replace H : ((after_Holder.f k4 t513 a2).bind fun t522 => (if t521 = 7 then (if t522 = 0 then (some false) else (handshakerlaw22_AfterFused.l1 k4 l0 a1 a2 t499 t500 x16_3 t510 t511 t513 t516 l4 (l4.length : Int) (wrap64 (x102_4 + 1)))) else (if t499 = 0 then (if t521 = 0 then (if t520 = t500 then (handshakerlaw22_AfterFused.l1 k4 l0 a1 a2 t499 t500 x16_3 t510 t511 t513 t516 l4 (l4.length : Int) (wrap64 (x102_4 + 1))) else (some false)) else (some false)) else (if t521 = 0 then (if t522 = 0 then (handshakerlaw22_AfterFused.l1 k4 l0 a1 a2 t499 t500 x16_3 t510 t511 t513 t516 l4 (l4.length : Int) (wrap64 (x102_4 + 1))) else (some false)) else (some false))))) = some r := H
                     have A46 := Aside0.mk A460
                     clear A460
                     replace H := Option.bind_eq_some_iff.mp H
                     obtain ⟨t522, A470, H⟩ := H
                     replace H : (if t521 = 7 then (if t522 = 0 then (some false) else (handshakerlaw22_AfterFused.l1 k4 l0 a1 a2 t499 t500 x16_3 t510 t511 t513 t516 l4 (l4.length : Int) (wrap64 (x102_4 + 1)))) else (if t499 = 0 then (if t521 = 0 then (if t520 = t500 then (handshakerlaw22_AfterFused.l1 k4 l0 a1 a2 t499 t500 x16_3 t510 t511 t513 t516 l4 (l4.length : Int) (wrap64 (x102_4 + 1))) else (some false)) else (some false)) else (if t521 = 0 then (if t522 = 0 then (handshakerlaw22_AfterFused.l1 k4 l0 a1 a2 t499 t500 x16_3 t510 t511 t513 t516 l4 (l4.length : Int) (wrap64 (x102_4 + 1))) else (some false)) else (some false)))) = some r := H
                     have A47 := Aside0.mk A470
                     clear A470
                     by_cases c48 : t521 = 7
                     · rw [if_pos c48] at H
                       have c48b0 : (t521 == 7) = true := beq_iff_eq.mpr c48
                       have c48b1 : (t521 != 7) = false := bne_eq_false_iff_eq.mpr c48
                       clear c48
                       by_cases c49 : t522 = 0
                       · rw [if_pos c49] at H
                         have c49b0 : (t522 == 0) = true := beq_iff_eq.mpr c49
                         have c49b1 : (t522 != 0) = false := bne_eq_false_iff_eq.mpr c49
                         clear c49
                         exact absurd (Option.some.inj H) (by rw [HT.out]; decide)
                       · rw [if_neg c49] at H
                         have c49b0 : (t522 == 0) = false := beq_eq_false_iff_ne.mpr c49
                         have c49b1 : (t522 != 0) = true := bne_iff_ne.mpr c49
                         have H' := Aside0.mk H
                         clear H
                         have p512 : 0 ≤ (x102_4 : Int) := of_decide_eq_true (by first | (with_reducible assumption) | assumption)
                         have q512 : x102_4 < (l4.length : Int) := of_decide_eq_true (by first | (with_reducible assumption) | assumption)
                         obtain ⟨ad512, e512, hx512_0⟩ := Kd.at_int HR4.out x102_4 p512 q512
                         cases e512
                         replace hx512_0 := (HB.out.cell (World.block_lt_of_cell? w _ hx512_0)).trans hx512_0
                         replace p512 := eq_true p512
                         replace q512 := eq_true q512
                         obtain ⟨Ao50, co50, eo50⟩ := Kd.V_slice HO_22.out
                         subst eo50
                         obtain ⟨Ao51, co51, eo51⟩ := Kd.V_slice HO_23.out
                         subst eo51
                         go_wp2_with (first | ((with_reducible refine gate_callee (f := 16) rfl ?_); refine goesL_ (some 110) rfl rfl Try.func16 (by kernel_rfl) rfl #[.slice Ao50 x22_4.length co50, .int .i64 (rd l4 x102_4), .slice Ao51 x23_4.length co51] rfl (by (try simp only [List.map_toArray, List.map_cons, List.map_nil]); first | done | rfl) ?_; (with_reducible refine (after_Do.calls k4 (fun k_ => ((P0_ k_ ∨ P3_ k_) ∨ w.heap.size ≤ k_)) _ _ x22_4 (rd l4 x102_4) (fun k_ => ((P0_ k_ ∨ P3_ k_) ∨ w.heap.size ≤ k_)) _ _ x23_4 t513 t516 t519 _ ?side1 ?side2 A45.out).mono ?_); (case side1 => exact HO_22.out); (case side2 => exact HO_23.out); rintro e w52 ⟨v514, v517, rfl, ho0, ho1, hb⟩; refine ⟨_, rfl, ?_⟩; have n0_ := Aside0.mk (Kd.V_below (by (with_reducible repeat (first | apply Kd.V_alloc | apply Kd.V_drewN | apply Kd.V_drew)); exact HO_0.out) hb); have n1_ := Aside0.mk (Kd.V_below (by (with_reducible repeat (first | apply Kd.V_alloc | apply Kd.V_drewN | apply Kd.V_drew)); exact HO_22.out) hb); have n2_ := Aside0.mk (Kd.V_below (by (with_reducible repeat (first | apply Kd.V_alloc | apply Kd.V_drewN | apply Kd.V_drew)); exact HO_23.out) hb); have n3_ := Aside0.mk (Kd.V_lower (Kd.V_mono (ok' := fun k_ => ((P0_ k_ ∨ P3_ k_) ∨ w.heap.size ≤ k_)) ho0 (fun k_ hk_ => Or.elim hk_ (fun hs_ => Or.elim hs_ (fun hs_ => hs_) (fun hs_ => hs_)) (fun hn_ => (.inr (Nat.le_trans bsz_ hn_))))) bsz_); have n4_ := Aside0.mk (Kd.V_lower (Kd.V_mono (ok' := fun k_ => ((P0_ k_ ∨ P3_ k_) ∨ w.heap.size ≤ k_)) ho1 (fun k_ hk_ => Or.elim hk_ (fun hs_ => Or.elim hs_ (fun hs_ => hs_) (fun hs_ => hs_)) (fun hn_ => (.inr (Nat.le_trans bsz_ hn_))))) bsz_); have n5_ := Aside0.mk (bst_ hb); clear HO_0; clear HO_22; clear HO_23; clear HB; have HO_0 := n0_; have HO_22 := n1_; have HO_23 := n2_; have HO515 := n3_; have HO518 := n4_; have HB := n5_; clear n0_ n1_ n2_ n3_ n4_ n5_; (try clear hb); (try clear hb2); (try clear hk); (try clear hi); (try clear ho0); (try clear ho1); obtain ⟨Ao53, co53, eo53⟩ := Kd.V_slice HO515.out; subst eo53; obtain ⟨Ao54, co54, eo54⟩ := Kd.V_slice HO518.out; subst eo54) | ((with_reducible refine gate_callee (f := 20) rfl ?_); refine goesL_ (some 119) rfl rfl Try.func20 (by kernel_rfl) rfl #[.slice Ao53 t513.length co53, .int .i64 a1, .slice Ao54 t516.length co54, .int .i64 a2] rfl (by (try simp only [List.map_toArray, List.map_cons, List.map_nil]); first | done | rfl) ?_; (with_reducible refine (after_See.calls k4 _ _ t513 a1 _ _ t516 a2 t520 t521 _ ?side1 ?side2 ?side3 ?side4 A46.out).mono ?_); (case side1 => repeat (first | exact (Kd.V_reads' HO515.out).2.2 | with_reducible first | refine Kd.C_alloc ?_ _ | refine Kd.C_drewN ?_ _ | refine Kd.C_drew ?_)); (case side2 => exact (Kd.V_reads' HO515.out).2.1); (case side3 => repeat (first | exact (Kd.V_reads' HO518.out).2.2 | with_reducible first | refine Kd.C_alloc ?_ _ | refine Kd.C_drewN ?_ _ | refine Kd.C_drew ?_)); (case side4 => exact (Kd.V_reads' HO518.out).2.1); rintro e w55 ⟨rfl, hb⟩; refine ⟨_, rfl, ?_⟩; have n0_ := Aside0.mk (Kd.V_below (by (with_reducible repeat (first | apply Kd.V_alloc | apply Kd.V_drewN | apply Kd.V_drew)); exact HO_0.out) hb); have n1_ := Aside0.mk (Kd.V_below (by (with_reducible repeat (first | apply Kd.V_alloc | apply Kd.V_drewN | apply Kd.V_drew)); exact HO_22.out) hb); have n2_ := Aside0.mk (Kd.V_below (by (with_reducible repeat (first | apply Kd.V_alloc | apply Kd.V_drewN | apply Kd.V_drew)); exact HO_23.out) hb); have n3_ := Aside0.mk (Kd.V_below (by (with_reducible repeat (first | apply Kd.V_alloc | apply Kd.V_drewN | apply Kd.V_drew)); exact HO515.out) hb); have n4_ := Aside0.mk (Kd.V_below (by (with_reducible repeat (first | apply Kd.V_alloc | apply Kd.V_drewN | apply Kd.V_drew)); exact HO518.out) hb); have n5_ := Aside0.mk (bst_ hb); clear HO_0; clear HO_22; clear HO_23; clear HO515; clear HO518; clear HB; have HO_0 := n0_; have HO_22 := n1_; have HO_23 := n2_; have HO515 := n3_; have HO518 := n4_; have HB := n5_; clear n0_ n1_ n2_ n3_ n4_ n5_; (try clear hb); (try clear hb2); (try clear hk); (try clear hi)) | ((with_reducible refine gate_callee (f := 24) rfl ?_); refine goesL_ (some 124) rfl rfl Try.func24 (by kernel_rfl) rfl #[.slice Ao53 t513.length co53, .int .i64 a2] rfl (by (try simp only [List.map_toArray, List.map_cons, List.map_nil]); first | done | rfl) ?_; (with_reducible refine (after_Holder.calls k4 _ _ t513 a2 t522 _ ?side1 ?side2 A47.out).mono ?_); (case side1 => repeat (first | exact (Kd.V_reads' HO515.out).2.2 | with_reducible first | refine Kd.C_alloc ?_ _ | refine Kd.C_drewN ?_ _ | refine Kd.C_drew ?_)); (case side2 => exact (Kd.V_reads' HO515.out).2.1); rintro e w56 ⟨rfl, hb⟩; refine ⟨_, rfl, ?_⟩; have n0_ := Aside0.mk (Kd.V_below (by (with_reducible repeat (first | apply Kd.V_alloc | apply Kd.V_drewN | apply Kd.V_drew)); exact HO_0.out) hb); have n1_ := Aside0.mk (Kd.V_below (by (with_reducible repeat (first | apply Kd.V_alloc | apply Kd.V_drewN | apply Kd.V_drew)); exact HO_22.out) hb); have n2_ := Aside0.mk (Kd.V_below (by (with_reducible repeat (first | apply Kd.V_alloc | apply Kd.V_drewN | apply Kd.V_drew)); exact HO_23.out) hb); have n3_ := Aside0.mk (Kd.V_below (by (with_reducible repeat (first | apply Kd.V_alloc | apply Kd.V_drewN | apply Kd.V_drew)); exact HO515.out) hb); have n4_ := Aside0.mk (Kd.V_below (by (with_reducible repeat (first | apply Kd.V_alloc | apply Kd.V_drewN | apply Kd.V_drew)); exact HO518.out) hb); have n5_ := Aside0.mk (bst_ hb); clear HO_0; clear HO_22; clear HO_23; clear HO515; clear HO518; clear HB; have HO_0 := n0_; have HO_22 := n1_; have HO_23 := n2_; have HO515 := n3_; have HO518 := n4_; have HB := n5_; clear n0_ n1_ n2_ n3_ n4_ n5_; (try clear hb); (try clear hb2); (try clear hk); (try clear hi)))
                         go_roundg k4
                         case measure => have := HJ5.out; have := HJ21.out; have := HK3.out; have := HK4.out; omega
                         case rel => exact ⟨(t513), (t516), (wrap64 (x102_4 + 1)), (by first | rfl | (simp; done) | (simp [*]; done)), H', ⟨by have := HJ5.out; have := HJ21.out; have := HK3.out; have := HK4.out; omega⟩, ⟨by (with_reducible repeat (first | apply Kd.V_alloc | apply Kd.V_drewN | apply Kd.V_drew)); exact HO_0.out⟩, ⟨by (with_reducible repeat (first | apply Kd.V_alloc | apply Kd.V_drewN | apply Kd.V_drew)); exact HO515.out⟩, ⟨by (with_reducible repeat (first | apply Kd.V_alloc | apply Kd.V_drewN | apply Kd.V_drew)); exact HO518.out⟩, ⟨by repeat (with_reducible first | exact HB.out | apply below_alloc | apply pw_below_drewN | apply below_drew1)⟩⟩
                     · rw [if_neg c48] at H
                       have c48b0 : (t521 == 7) = false := beq_eq_false_iff_ne.mpr c48
                       have c48b1 : (t521 != 7) = true := bne_iff_ne.mpr c48
                       by_cases c57 : t499 = 0
                       · rw [if_pos c57] at H
                         have c57b0 : (t499 == 0) = true := beq_iff_eq.mpr c57
                         have c57b1 : (t499 != 0) = false := bne_eq_false_iff_eq.mpr c57
                         clear c57
                         by_cases c58 : t521 = 0
                         · rw [if_pos c58] at H
                           have c58b0 : (t521 == 0) = true := beq_iff_eq.mpr c58
                           have c58b1 : (t521 != 0) = false := bne_eq_false_iff_eq.mpr c58
                           clear c58
                           by_cases c59 : t520 = t500
                           · rw [if_pos c59] at H
                             have c59b0 : (t520 == t500) = true := beq_iff_eq.mpr c59
                             have c59b1 : (t520 != t500) = false := bne_eq_false_iff_eq.mpr c59
                             clear c59
                             have H' := Aside0.mk H
                             clear H
                             have p512 : 0 ≤ (x102_4 : Int) := of_decide_eq_true (by first | (with_reducible assumption) | assumption)
                             have q512 : x102_4 < (l4.length : Int) := of_decide_eq_true (by first | (with_reducible assumption) | assumption)
                             obtain ⟨ad512, e512, hx512_0⟩ := Kd.at_int HR4.out x102_4 p512 q512
                             cases e512
                             replace hx512_0 := (HB.out.cell (World.block_lt_of_cell? w _ hx512_0)).trans hx512_0
                             replace p512 := eq_true p512
                             replace q512 := eq_true q512
                             obtain ⟨Ao60, co60, eo60⟩ := Kd.V_slice HO_22.out
                             subst eo60
                             obtain ⟨Ao61, co61, eo61⟩ := Kd.V_slice HO_23.out
                             subst eo61
                             go_wp2_with (first | ((with_reducible refine gate_callee (f := 16) rfl ?_); refine goesL_ (some 110) rfl rfl Try.func16 (by kernel_rfl) rfl #[.slice Ao60 x22_4.length co60, .int .i64 (rd l4 x102_4), .slice Ao61 x23_4.length co61] rfl (by (try simp only [List.map_toArray, List.map_cons, List.map_nil]); first | done | rfl) ?_; (with_reducible refine (after_Do.calls k4 (fun k_ => ((P0_ k_ ∨ P3_ k_) ∨ w.heap.size ≤ k_)) _ _ x22_4 (rd l4 x102_4) (fun k_ => ((P0_ k_ ∨ P3_ k_) ∨ w.heap.size ≤ k_)) _ _ x23_4 t513 t516 t519 _ ?side1 ?side2 A45.out).mono ?_); (case side1 => exact HO_22.out); (case side2 => exact HO_23.out); rintro e w62 ⟨v514, v517, rfl, ho0, ho1, hb⟩; refine ⟨_, rfl, ?_⟩; have n0_ := Aside0.mk (Kd.V_below (by (with_reducible repeat (first | apply Kd.V_alloc | apply Kd.V_drewN | apply Kd.V_drew)); exact HO_0.out) hb); have n1_ := Aside0.mk (Kd.V_below (by (with_reducible repeat (first | apply Kd.V_alloc | apply Kd.V_drewN | apply Kd.V_drew)); exact HO_22.out) hb); have n2_ := Aside0.mk (Kd.V_below (by (with_reducible repeat (first | apply Kd.V_alloc | apply Kd.V_drewN | apply Kd.V_drew)); exact HO_23.out) hb); have n3_ := Aside0.mk (Kd.V_lower (Kd.V_mono (ok' := fun k_ => ((P0_ k_ ∨ P3_ k_) ∨ w.heap.size ≤ k_)) ho0 (fun k_ hk_ => Or.elim hk_ (fun hs_ => Or.elim hs_ (fun hs_ => hs_) (fun hs_ => hs_)) (fun hn_ => (.inr (Nat.le_trans bsz_ hn_))))) bsz_); have n4_ := Aside0.mk (Kd.V_lower (Kd.V_mono (ok' := fun k_ => ((P0_ k_ ∨ P3_ k_) ∨ w.heap.size ≤ k_)) ho1 (fun k_ hk_ => Or.elim hk_ (fun hs_ => Or.elim hs_ (fun hs_ => hs_) (fun hs_ => hs_)) (fun hn_ => (.inr (Nat.le_trans bsz_ hn_))))) bsz_); have n5_ := Aside0.mk (bst_ hb); clear HO_0; clear HO_22; clear HO_23; clear HB; have HO_0 := n0_; have HO_22 := n1_; have HO_23 := n2_; have HO515 := n3_; have HO518 := n4_; have HB := n5_; clear n0_ n1_ n2_ n3_ n4_ n5_; (try clear hb); (try clear hb2); (try clear hk); (try clear hi); (try clear ho0); (try clear ho1); obtain ⟨Ao63, co63, eo63⟩ := Kd.V_slice HO515.out; subst eo63; obtain ⟨Ao64, co64, eo64⟩ := Kd.V_slice HO518.out; subst eo64) | ((with_reducible refine gate_callee (f := 20) rfl ?_); refine goesL_ (some 119) rfl rfl Try.func20 (by kernel_rfl) rfl #[.slice Ao63 t513.length co63, .int .i64 a1, .slice Ao64 t516.length co64, .int .i64 a2] rfl (by (try simp only [List.map_toArray, List.map_cons, List.map_nil]); first | done | rfl) ?_; (with_reducible refine (after_See.calls k4 _ _ t513 a1 _ _ t516 a2 t520 t521 _ ?side1 ?side2 ?side3 ?side4 A46.out).mono ?_); (case side1 => repeat (first | exact (Kd.V_reads' HO515.out).2.2 | with_reducible first | refine Kd.C_alloc ?_ _ | refine Kd.C_drewN ?_ _ | refine Kd.C_drew ?_)); (case side2 => exact (Kd.V_reads' HO515.out).2.1); (case side3 => repeat (first | exact (Kd.V_reads' HO518.out).2.2 | with_reducible first | refine Kd.C_alloc ?_ _ | refine Kd.C_drewN ?_ _ | refine Kd.C_drew ?_)); (case side4 => exact (Kd.V_reads' HO518.out).2.1); rintro e w65 ⟨rfl, hb⟩; refine ⟨_, rfl, ?_⟩; have n0_ := Aside0.mk (Kd.V_below (by (with_reducible repeat (first | apply Kd.V_alloc | apply Kd.V_drewN | apply Kd.V_drew)); exact HO_0.out) hb); have n1_ := Aside0.mk (Kd.V_below (by (with_reducible repeat (first | apply Kd.V_alloc | apply Kd.V_drewN | apply Kd.V_drew)); exact HO_22.out) hb); have n2_ := Aside0.mk (Kd.V_below (by (with_reducible repeat (first | apply Kd.V_alloc | apply Kd.V_drewN | apply Kd.V_drew)); exact HO_23.out) hb); have n3_ := Aside0.mk (Kd.V_below (by (with_reducible repeat (first | apply Kd.V_alloc | apply Kd.V_drewN | apply Kd.V_drew)); exact HO515.out) hb); have n4_ := Aside0.mk (Kd.V_below (by (with_reducible repeat (first | apply Kd.V_alloc | apply Kd.V_drewN | apply Kd.V_drew)); exact HO518.out) hb); have n5_ := Aside0.mk (bst_ hb); clear HO_0; clear HO_22; clear HO_23; clear HO515; clear HO518; clear HB; have HO_0 := n0_; have HO_22 := n1_; have HO_23 := n2_; have HO515 := n3_; have HO518 := n4_; have HB := n5_; clear n0_ n1_ n2_ n3_ n4_ n5_; (try clear hb); (try clear hb2); (try clear hk); (try clear hi)) | ((with_reducible refine gate_callee (f := 24) rfl ?_); refine goesL_ (some 124) rfl rfl Try.func24 (by kernel_rfl) rfl #[.slice Ao63 t513.length co63, .int .i64 a2] rfl (by (try simp only [List.map_toArray, List.map_cons, List.map_nil]); first | done | rfl) ?_; (with_reducible refine (after_Holder.calls k4 _ _ t513 a2 t522 _ ?side1 ?side2 A47.out).mono ?_); (case side1 => repeat (first | exact (Kd.V_reads' HO515.out).2.2 | with_reducible first | refine Kd.C_alloc ?_ _ | refine Kd.C_drewN ?_ _ | refine Kd.C_drew ?_)); (case side2 => exact (Kd.V_reads' HO515.out).2.1); rintro e w66 ⟨rfl, hb⟩; refine ⟨_, rfl, ?_⟩; have n0_ := Aside0.mk (Kd.V_below (by (with_reducible repeat (first | apply Kd.V_alloc | apply Kd.V_drewN | apply Kd.V_drew)); exact HO_0.out) hb); have n1_ := Aside0.mk (Kd.V_below (by (with_reducible repeat (first | apply Kd.V_alloc | apply Kd.V_drewN | apply Kd.V_drew)); exact HO_22.out) hb); have n2_ := Aside0.mk (Kd.V_below (by (with_reducible repeat (first | apply Kd.V_alloc | apply Kd.V_drewN | apply Kd.V_drew)); exact HO_23.out) hb); have n3_ := Aside0.mk (Kd.V_below (by (with_reducible repeat (first | apply Kd.V_alloc | apply Kd.V_drewN | apply Kd.V_drew)); exact HO515.out) hb); have n4_ := Aside0.mk (Kd.V_below (by (with_reducible repeat (first | apply Kd.V_alloc | apply Kd.V_drewN | apply Kd.V_drew)); exact HO518.out) hb); have n5_ := Aside0.mk (bst_ hb); clear HO_0; clear HO_22; clear HO_23; clear HO515; clear HO518; clear HB; have HO_0 := n0_; have HO_22 := n1_; have HO_23 := n2_; have HO515 := n3_; have HO518 := n4_; have HB := n5_; clear n0_ n1_ n2_ n3_ n4_ n5_; (try clear hb); (try clear hb2); (try clear hk); (try clear hi)))
                             go_roundg k4
                             case measure => have := HJ5.out; have := HJ21.out; have := HK3.out; have := HK4.out; omega
                             case rel => exact ⟨(t513), (t516), (wrap64 (x102_4 + 1)), (by first | rfl | (simp; done) | (simp [*]; done)), H', ⟨by have := HJ5.out; have := HJ21.out; have := HK3.out; have := HK4.out; omega⟩, ⟨by (with_reducible repeat (first | apply Kd.V_alloc | apply Kd.V_drewN | apply Kd.V_drew)); exact HO_0.out⟩, ⟨by (with_reducible repeat (first | apply Kd.V_alloc | apply Kd.V_drewN | apply Kd.V_drew)); exact HO515.out⟩, ⟨by (with_reducible repeat (first | apply Kd.V_alloc | apply Kd.V_drewN | apply Kd.V_drew)); exact HO518.out⟩, ⟨by repeat (with_reducible first | exact HB.out | apply below_alloc | apply pw_below_drewN | apply below_drew1)⟩⟩
                           · rw [if_neg c59] at H
                             have c59b0 : (t520 == t500) = false := beq_eq_false_iff_ne.mpr c59
                             have c59b1 : (t520 != t500) = true := bne_iff_ne.mpr c59
                             exact absurd (Option.some.inj H) (by rw [HT.out]; decide)
                         · rw [if_neg c58] at H
                           have c58b0 : (t521 == 0) = false := beq_eq_false_iff_ne.mpr c58
                           have c58b1 : (t521 != 0) = true := bne_iff_ne.mpr c58
                           exact absurd (Option.some.inj H) (by rw [HT.out]; decide)
                       · rw [if_neg c57] at H
                         have c57b0 : (t499 == 0) = false := beq_eq_false_iff_ne.mpr c57
                         have c57b1 : (t499 != 0) = true := bne_iff_ne.mpr c57
                         by_cases c67 : t521 = 0
                         · rw [if_pos c67] at H
                           have c67b0 : (t521 == 0) = true := beq_iff_eq.mpr c67
                           have c67b1 : (t521 != 0) = false := bne_eq_false_iff_eq.mpr c67
                           clear c67
                           by_cases c68 : t522 = 0
                           · rw [if_pos c68] at H
                             have c68b0 : (t522 == 0) = true := beq_iff_eq.mpr c68
                             have c68b1 : (t522 != 0) = false := bne_eq_false_iff_eq.mpr c68
                             clear c68
                             have H' := Aside0.mk H
                             clear H
                             have p512 : 0 ≤ (x102_4 : Int) := of_decide_eq_true (by first | (with_reducible assumption) | assumption)
                             have q512 : x102_4 < (l4.length : Int) := of_decide_eq_true (by first | (with_reducible assumption) | assumption)
                             obtain ⟨ad512, e512, hx512_0⟩ := Kd.at_int HR4.out x102_4 p512 q512
                             cases e512
                             replace hx512_0 := (HB.out.cell (World.block_lt_of_cell? w _ hx512_0)).trans hx512_0
                             replace p512 := eq_true p512
                             replace q512 := eq_true q512
                             obtain ⟨Ao69, co69, eo69⟩ := Kd.V_slice HO_22.out
                             subst eo69
                             obtain ⟨Ao70, co70, eo70⟩ := Kd.V_slice HO_23.out
                             subst eo70
                             go_wp2_with (first | ((with_reducible refine gate_callee (f := 16) rfl ?_); refine goesL_ (some 110) rfl rfl Try.func16 (by kernel_rfl) rfl #[.slice Ao69 x22_4.length co69, .int .i64 (rd l4 x102_4), .slice Ao70 x23_4.length co70] rfl (by (try simp only [List.map_toArray, List.map_cons, List.map_nil]); first | done | rfl) ?_; (with_reducible refine (after_Do.calls k4 (fun k_ => ((P0_ k_ ∨ P3_ k_) ∨ w.heap.size ≤ k_)) _ _ x22_4 (rd l4 x102_4) (fun k_ => ((P0_ k_ ∨ P3_ k_) ∨ w.heap.size ≤ k_)) _ _ x23_4 t513 t516 t519 _ ?side1 ?side2 A45.out).mono ?_); (case side1 => exact HO_22.out); (case side2 => exact HO_23.out); rintro e w71 ⟨v514, v517, rfl, ho0, ho1, hb⟩; refine ⟨_, rfl, ?_⟩; have n0_ := Aside0.mk (Kd.V_below (by (with_reducible repeat (first | apply Kd.V_alloc | apply Kd.V_drewN | apply Kd.V_drew)); exact HO_0.out) hb); have n1_ := Aside0.mk (Kd.V_below (by (with_reducible repeat (first | apply Kd.V_alloc | apply Kd.V_drewN | apply Kd.V_drew)); exact HO_22.out) hb); have n2_ := Aside0.mk (Kd.V_below (by (with_reducible repeat (first | apply Kd.V_alloc | apply Kd.V_drewN | apply Kd.V_drew)); exact HO_23.out) hb); have n3_ := Aside0.mk (Kd.V_lower (Kd.V_mono (ok' := fun k_ => ((P0_ k_ ∨ P3_ k_) ∨ w.heap.size ≤ k_)) ho0 (fun k_ hk_ => Or.elim hk_ (fun hs_ => Or.elim hs_ (fun hs_ => hs_) (fun hs_ => hs_)) (fun hn_ => (.inr (Nat.le_trans bsz_ hn_))))) bsz_); have n4_ := Aside0.mk (Kd.V_lower (Kd.V_mono (ok' := fun k_ => ((P0_ k_ ∨ P3_ k_) ∨ w.heap.size ≤ k_)) ho1 (fun k_ hk_ => Or.elim hk_ (fun hs_ => Or.elim hs_ (fun hs_ => hs_) (fun hs_ => hs_)) (fun hn_ => (.inr (Nat.le_trans bsz_ hn_))))) bsz_); have n5_ := Aside0.mk (bst_ hb); clear HO_0; clear HO_22; clear HO_23; clear HB; have HO_0 := n0_; have HO_22 := n1_; have HO_23 := n2_; have HO515 := n3_; have HO518 := n4_; have HB := n5_; clear n0_ n1_ n2_ n3_ n4_ n5_; (try clear hb); (try clear hb2); (try clear hk); (try clear hi); (try clear ho0); (try clear ho1); obtain ⟨Ao72, co72, eo72⟩ := Kd.V_slice HO515.out; subst eo72; obtain ⟨Ao73, co73, eo73⟩ := Kd.V_slice HO518.out; subst eo73) | ((with_reducible refine gate_callee (f := 20) rfl ?_); refine goesL_ (some 119) rfl rfl Try.func20 (by kernel_rfl) rfl #[.slice Ao72 t513.length co72, .int .i64 a1, .slice Ao73 t516.length co73, .int .i64 a2] rfl (by (try simp only [List.map_toArray, List.map_cons, List.map_nil]); first | done | rfl) ?_; (with_reducible refine (after_See.calls k4 _ _ t513 a1 _ _ t516 a2 t520 t521 _ ?side1 ?side2 ?side3 ?side4 A46.out).mono ?_); (case side1 => repeat (first | exact (Kd.V_reads' HO515.out).2.2 | with_reducible first | refine Kd.C_alloc ?_ _ | refine Kd.C_drewN ?_ _ | refine Kd.C_drew ?_)); (case side2 => exact (Kd.V_reads' HO515.out).2.1); (case side3 => repeat (first | exact (Kd.V_reads' HO518.out).2.2 | with_reducible first | refine Kd.C_alloc ?_ _ | refine Kd.C_drewN ?_ _ | refine Kd.C_drew ?_)); (case side4 => exact (Kd.V_reads' HO518.out).2.1); rintro e w74 ⟨rfl, hb⟩; refine ⟨_, rfl, ?_⟩; have n0_ := Aside0.mk (Kd.V_below (by (with_reducible repeat (first | apply Kd.V_alloc | apply Kd.V_drewN | apply Kd.V_drew)); exact HO_0.out) hb); have n1_ := Aside0.mk (Kd.V_below (by (with_reducible repeat (first | apply Kd.V_alloc | apply Kd.V_drewN | apply Kd.V_drew)); exact HO_22.out) hb); have n2_ := Aside0.mk (Kd.V_below (by (with_reducible repeat (first | apply Kd.V_alloc | apply Kd.V_drewN | apply Kd.V_drew)); exact HO_23.out) hb); have n3_ := Aside0.mk (Kd.V_below (by (with_reducible repeat (first | apply Kd.V_alloc | apply Kd.V_drewN | apply Kd.V_drew)); exact HO515.out) hb); have n4_ := Aside0.mk (Kd.V_below (by (with_reducible repeat (first | apply Kd.V_alloc | apply Kd.V_drewN | apply Kd.V_drew)); exact HO518.out) hb); have n5_ := Aside0.mk (bst_ hb); clear HO_0; clear HO_22; clear HO_23; clear HO515; clear HO518; clear HB; have HO_0 := n0_; have HO_22 := n1_; have HO_23 := n2_; have HO515 := n3_; have HO518 := n4_; have HB := n5_; clear n0_ n1_ n2_ n3_ n4_ n5_; (try clear hb); (try clear hb2); (try clear hk); (try clear hi)) | ((with_reducible refine gate_callee (f := 24) rfl ?_); refine goesL_ (some 124) rfl rfl Try.func24 (by kernel_rfl) rfl #[.slice Ao72 t513.length co72, .int .i64 a2] rfl (by (try simp only [List.map_toArray, List.map_cons, List.map_nil]); first | done | rfl) ?_; (with_reducible refine (after_Holder.calls k4 _ _ t513 a2 t522 _ ?side1 ?side2 A47.out).mono ?_); (case side1 => repeat (first | exact (Kd.V_reads' HO515.out).2.2 | with_reducible first | refine Kd.C_alloc ?_ _ | refine Kd.C_drewN ?_ _ | refine Kd.C_drew ?_)); (case side2 => exact (Kd.V_reads' HO515.out).2.1); rintro e w75 ⟨rfl, hb⟩; refine ⟨_, rfl, ?_⟩; have n0_ := Aside0.mk (Kd.V_below (by (with_reducible repeat (first | apply Kd.V_alloc | apply Kd.V_drewN | apply Kd.V_drew)); exact HO_0.out) hb); have n1_ := Aside0.mk (Kd.V_below (by (with_reducible repeat (first | apply Kd.V_alloc | apply Kd.V_drewN | apply Kd.V_drew)); exact HO_22.out) hb); have n2_ := Aside0.mk (Kd.V_below (by (with_reducible repeat (first | apply Kd.V_alloc | apply Kd.V_drewN | apply Kd.V_drew)); exact HO_23.out) hb); have n3_ := Aside0.mk (Kd.V_below (by (with_reducible repeat (first | apply Kd.V_alloc | apply Kd.V_drewN | apply Kd.V_drew)); exact HO515.out) hb); have n4_ := Aside0.mk (Kd.V_below (by (with_reducible repeat (first | apply Kd.V_alloc | apply Kd.V_drewN | apply Kd.V_drew)); exact HO518.out) hb); have n5_ := Aside0.mk (bst_ hb); clear HO_0; clear HO_22; clear HO_23; clear HO515; clear HO518; clear HB; have HO_0 := n0_; have HO_22 := n1_; have HO_23 := n2_; have HO515 := n3_; have HO518 := n4_; have HB := n5_; clear n0_ n1_ n2_ n3_ n4_ n5_; (try clear hb); (try clear hb2); (try clear hk); (try clear hi)))
                             go_roundg k4
                             case measure => have := HJ5.out; have := HJ21.out; have := HK3.out; have := HK4.out; omega
                             case rel => exact ⟨(t513), (t516), (wrap64 (x102_4 + 1)), (by first | rfl | (simp; done) | (simp [*]; done)), H', ⟨by have := HJ5.out; have := HJ21.out; have := HK3.out; have := HK4.out; omega⟩, ⟨by (with_reducible repeat (first | apply Kd.V_alloc | apply Kd.V_drewN | apply Kd.V_drew)); exact HO_0.out⟩, ⟨by (with_reducible repeat (first | apply Kd.V_alloc | apply Kd.V_drewN | apply Kd.V_drew)); exact HO515.out⟩, ⟨by (with_reducible repeat (first | apply Kd.V_alloc | apply Kd.V_drewN | apply Kd.V_drew)); exact HO518.out⟩, ⟨by repeat (with_reducible first | exact HB.out | apply below_alloc | apply pw_below_drewN | apply below_drew1)⟩⟩
                           · rw [if_neg c68] at H
                             have c68b0 : (t522 == 0) = false := beq_eq_false_iff_ne.mpr c68
                             have c68b1 : (t522 != 0) = true := bne_iff_ne.mpr c68
                             exact absurd (Option.some.inj H) (by rw [HT.out]; decide)
                         · rw [if_neg c67] at H
                           have c67b0 : (t521 == 0) = false := beq_eq_false_iff_ne.mpr c67
                           have c67b1 : (t521 != 0) = true := bne_iff_ne.mpr c67
                           exact absurd (Option.some.inj H) (by rw [HT.out]; decide)
                   · rw [if_neg c44] at H
                     exact absurd H (by simp)
                 · rw [if_neg c43] at H
                   exact absurd H (by simp)
               · rw [if_neg c42] at H
                 have c42b0 : decide (x102_4 < (l4.length : Int)) = false := decide_eq_false c42
                 clear c42
                 have H' := Aside0.mk H
                 clear H
                 go_wp2
                 go_loopg [22, 23, 149] k4 (fun kq v22 v23 v149 w' => ∃ (x22_5 : List (S25)) (x23_5 : List (S66)) (x149_5 : Int), v149 = .int .i64 x149_5 ∧ Aside0 (handshakerlaw22_AfterFused.l2 kq l0 a2 t499 x16_3 t510 t511 x22_5 x23_5 (l0.length : Int) x149_5 = some r) ∧ Aside0 (kq ≤ k4) ∧ Aside0 (Kd.V k25 25 w' w.heap.size (fun k_ => ((P0_ k_ ∨ P3_ k_) ∨ w.heap.size ≤ k_)) (.slice A0 l0.length c0) l0) ∧ Aside0 (Kd.V k25 25 w' w.heap.size (fun k_ => ((P0_ k_ ∨ P3_ k_) ∨ w.heap.size ≤ k_)) v22 x22_5) ∧ Aside0 (Kd.V k66 66 w' w.heap.size (fun k_ => ((P0_ k_ ∨ P3_ k_) ∨ w.heap.size ≤ k_)) v23 x23_5) ∧ Aside0 (Below w.heap.size w w'))
                 case atStart => exact ⟨(x22_4), (x23_4), (0), (by first | rfl | (simp; done) | (simp [*]; done)), H', ⟨Nat.le_refl _⟩, ⟨by (with_reducible repeat (first | apply Kd.V_alloc | apply Kd.V_drewN | apply Kd.V_drew)); exact HO_0.out⟩, ⟨by (with_reducible repeat (first | apply Kd.V_alloc | apply Kd.V_drewN | apply Kd.V_drew)); exact HO_22.out⟩, ⟨by (with_reducible repeat (first | apply Kd.V_alloc | apply Kd.V_drewN | apply Kd.V_drew)); exact HO_23.out⟩, ⟨by repeat (with_reducible first | exact HB.out | apply below_alloc | apply pw_below_drewN | apply below_drew1)⟩⟩
                 case round =>
                  clear H'
                  try clear c1
                  try clear c2
                  try clear p2
                  try clear c3
                  try clear c4
                  try clear c5
                  try clear p5
                  try clear q5
                  try clear hx5
                  try clear c6
                  try clear p6
                  try clear c8
                  try clear c9
                  try clear c9b0
                  try clear c9b1
                  try clear c11
                  try clear c11b0
                  try clear c11b1
                  try clear c12
                  try clear c16
                  try clear c17
                  try clear c20
                  try clear c24
                  try clear c25
                  try clear c25b0
                  try clear c25b1
                  try clear c26
                  try clear c26b0
                  try clear c26b1
                  try clear c27
                  try clear c28
                  try clear c30
                  try clear c30b0
                  try clear c32
                  try clear c32b0
                  try clear c32b1
                  try clear c42
                  try clear c42b0
                  try clear c43
                  try clear c43b0
                  try clear c44
                  try clear c44b0
                  try clear c48
                  try clear c48b0
                  try clear c48b1
                  try clear c49
                  try clear c49b0
                  try clear c49b1
                  try clear p51
                  try clear q51
                  try clear hx51
                  try clear c57
                  try clear c57b0
                  try clear c57b1
                  try clear c58
                  try clear c58b0
                  try clear c58b1
                  try clear c59
                  try clear c59b0
                  try clear c59b1
                  try clear p64
                  try clear c67
                  try clear c67b0
                  try clear c67b1
                  try clear c68
                  try clear c68b0
                  try clear c68b1
                  try clear hx512_0
                  try clear p2
                  try clear p512
                  try clear p6
                  try clear q512
                  obtain ⟨x22_5, x23_5, x149_5, rfl, HA, HK5, HO_0, HO_22, HO_23, HB⟩ := hrel
                  cases gk with
                  | zero => exact absurd HA.out (by simp [handshakerlaw22_AfterFused.l2])
                  | succ k5 =>
                   have H := HA.out
                   clear HA
                   simp only [handshakerlaw22_AfterFused.l2] at H
                   by_cases c76 : x149_5 < (l0.length : Int)
                   · rw [if_pos c76] at H
                     have c76b0 : decide (x149_5 < (l0.length : Int)) = true := decide_eq_true c76
                     clear c76
                     replace H := Option.bind_eq_some_iff.mp H
                     obtain ⟨⟨t523, t526, t529⟩, A770, H⟩ := H
                     replace H : (handshakerlaw22_AfterFused.l2 k5 l0 a2 t499 x16_3 t510 t511 t523 t526 (l0.length : Int) (wrap64 (x149_5 + 1))) = some r := H
                     have A77 := Aside0.mk A770
                     clear A770
                     have H' := Aside0.mk H
                     clear H
                     obtain ⟨Ao78, co78, eo78⟩ := Kd.V_slice HO_22.out
                     subst eo78
                     obtain ⟨Ao79, co79, eo79⟩ := Kd.V_slice HO_23.out
                     subst eo79
                     go_wp2_with (first | ((with_reducible refine gate_callee (f := 16) rfl ?_); refine goesL_ (some 155) rfl rfl Try.func16 (by kernel_rfl) rfl #[.slice Ao78 x22_5.length co78, .int .i64 t499, .slice Ao79 x23_5.length co79] rfl (by (try simp only [List.map_toArray, List.map_cons, List.map_nil]); first | done | rfl) ?_; (with_reducible refine (after_Do.calls k5 (fun k_ => ((P0_ k_ ∨ P3_ k_) ∨ w.heap.size ≤ k_)) _ _ x22_5 t499 (fun k_ => ((P0_ k_ ∨ P3_ k_) ∨ w.heap.size ≤ k_)) _ _ x23_5 t523 t526 t529 _ ?side1 ?side2 A77.out).mono ?_); (case side1 => exact HO_22.out); (case side2 => exact HO_23.out); rintro e w80 ⟨v524, v527, rfl, ho0, ho1, hb⟩; refine ⟨_, rfl, ?_⟩; have n0_ := Aside0.mk (Kd.V_below (by (with_reducible repeat (first | apply Kd.V_alloc | apply Kd.V_drewN | apply Kd.V_drew)); exact HO_0.out) hb); have n1_ := Aside0.mk (Kd.V_below (by (with_reducible repeat (first | apply Kd.V_alloc | apply Kd.V_drewN | apply Kd.V_drew)); exact HO_22.out) hb); have n2_ := Aside0.mk (Kd.V_below (by (with_reducible repeat (first | apply Kd.V_alloc | apply Kd.V_drewN | apply Kd.V_drew)); exact HO_23.out) hb); have n3_ := Aside0.mk (Kd.V_lower (Kd.V_mono (ok' := fun k_ => ((P0_ k_ ∨ P3_ k_) ∨ w.heap.size ≤ k_)) ho0 (fun k_ hk_ => Or.elim hk_ (fun hs_ => Or.elim hs_ (fun hs_ => hs_) (fun hs_ => hs_)) (fun hn_ => (.inr (Nat.le_trans bsz_ hn_))))) bsz_); have n4_ := Aside0.mk (Kd.V_lower (Kd.V_mono (ok' := fun k_ => ((P0_ k_ ∨ P3_ k_) ∨ w.heap.size ≤ k_)) ho1 (fun k_ hk_ => Or.elim hk_ (fun hs_ => Or.elim hs_ (fun hs_ => hs_) (fun hs_ => hs_)) (fun hn_ => (.inr (Nat.le_trans bsz_ hn_))))) bsz_); have n5_ := Aside0.mk (bst_ hb); clear HO_0; clear HO_22; clear HO_23; clear HB; have HO_0 := n0_; have HO_22 := n1_; have HO_23 := n2_; have HO525 := n3_; have HO528 := n4_; have HB := n5_; clear n0_ n1_ n2_ n3_ n4_ n5_; (try clear hb); (try clear hb2); (try clear hk); (try clear hi); (try clear ho0); (try clear ho1)))
                     go_roundg k5
                     case measure => have := HJ5.out; have := HJ21.out; have := HK3.out; have := HK4.out; have := HK5.out; omega
                     case rel => exact ⟨(t523), (t526), (wrap64 (x149_5 + 1)), (by first | rfl | (simp; done) | (simp [*]; done)), H', ⟨by have := HJ5.out; have := HJ21.out; have := HK3.out; have := HK4.out; have := HK5.out; omega⟩, ⟨by (with_reducible repeat (first | apply Kd.V_alloc | apply Kd.V_drewN | apply Kd.V_drew)); exact HO_0.out⟩, ⟨by (with_reducible repeat (first | apply Kd.V_alloc | apply Kd.V_drewN | apply Kd.V_drew)); exact HO525.out⟩, ⟨by (with_reducible repeat (first | apply Kd.V_alloc | apply Kd.V_drewN | apply Kd.V_drew)); exact HO528.out⟩, ⟨by repeat (with_reducible first | exact HB.out | apply below_alloc | apply pw_below_drewN | apply below_drew1)⟩⟩
                   · rw [if_neg c76] at H
                     have c76b0 : decide (x149_5 < (l0.length : Int)) = false := decide_eq_false c76
                     clear c76
                     replace H := Option.bind_eq_some_iff.mp H
                     obtain ⟨⟨t530, t531⟩, A810, H⟩ := H
                     replace H : (if t511 = 0 then (if t531 = 0 then (if t530 = t510 then (if x16_3 ≤ (l0.length : Int) then ((handshakerlaw22_awake.f k5).bind fun t532 => (some t532)) else (some false)) else (some false)) else (some false)) else (some false)) = some r := H
                     have A81 := Aside0.mk A810
                     clear A810
                     by_cases c82 : t511 = 0
                     · rw [if_pos c82] at H
                       have c82b0 : (t511 == 0) = true := beq_iff_eq.mpr c82
                       have c82b1 : (t511 != 0) = false := bne_eq_false_iff_eq.mpr c82
                       clear c82
                       by_cases c83 : t531 = 0
                       · rw [if_pos c83] at H
                         have c83b0 : (t531 == 0) = true := beq_iff_eq.mpr c83
                         have c83b1 : (t531 != 0) = false := bne_eq_false_iff_eq.mpr c83
                         clear c83
                         by_cases c84 : t530 = t510
                         · rw [if_pos c84] at H
                           have c84b0 : (t530 == t510) = true := beq_iff_eq.mpr c84
                           have c84b1 : (t530 != t510) = false := bne_eq_false_iff_eq.mpr c84
                           clear c84
                           by_cases c85 : x16_3 ≤ (l0.length : Int)
                           · rw [if_pos c85] at H
                             have c85b0 : decide (x16_3 ≤ (l0.length : Int)) = true := decide_eq_true c85
                             clear c85
                             replace H := Option.bind_eq_some_iff.mp H
                             obtain ⟨t532, A860, H⟩ := H
                             replace H : (some t532) = some r := H
                             have A86 := Aside0.mk A860
                             clear A860
                             obtain rfl := Option.some.inj H
                             obtain ⟨Ao87, co87, eo87⟩ := Kd.V_slice HO_23.out
                             subst eo87
                             go_wp2_with (first | ((with_reducible refine gate_callee (f := 28) rfl ?_); refine goesL_ (some 163) rfl rfl Try.func28 (by kernel_rfl) rfl #[.slice Ao87 x23_5.length co87, .int .i64 a2] rfl (by (try simp only [List.map_toArray, List.map_cons, List.map_nil]); first | done | rfl) ?_; (with_reducible refine (heap_Get.calls _ _ x23_5 a2 t530 t531 _ ?side1 ?side2 A81.out).mono ?_); (case side1 => repeat (first | exact (Kd.V_reads' HO_23.out).2.2 | with_reducible first | refine Kd.C_alloc ?_ _ | refine Kd.C_drewN ?_ _ | refine Kd.C_drew ?_)); (case side2 => exact (Kd.V_reads' HO_23.out).2.1); rintro e w88 ⟨rfl, hb⟩; refine ⟨_, rfl, ?_⟩; have n0_ := Aside0.mk (Kd.V_below (by (with_reducible repeat (first | apply Kd.V_alloc | apply Kd.V_drewN | apply Kd.V_drew)); exact HO_0.out) hb); have n1_ := Aside0.mk (Kd.V_below (by (with_reducible repeat (first | apply Kd.V_alloc | apply Kd.V_drewN | apply Kd.V_drew)); exact HO_22.out) hb); have n2_ := Aside0.mk (Kd.V_below (by (with_reducible repeat (first | apply Kd.V_alloc | apply Kd.V_drewN | apply Kd.V_drew)); exact HO_23.out) hb); have n3_ := Aside0.mk (bst_ hb); clear HO_0; clear HO_22; clear HO_23; clear HB; have HO_0 := n0_; have HO_22 := n1_; have HO_23 := n2_; have HB := n3_; clear n0_ n1_ n2_ n3_; (try clear hb); (try clear hb2); (try clear hk); (try clear hi)) | (go_at_call 12; (with_reducible refine (handshakerlaw22_awake.calls k5  t532 _ A86.out).mono ?_); rintro e w89 ⟨rfl, hb⟩; have n0_ := Aside0.mk (Kd.V_below (by (with_reducible repeat (first | apply Kd.V_alloc | apply Kd.V_drewN | apply Kd.V_drew)); exact HO_0.out) hb); have n1_ := Aside0.mk (Kd.V_below (by (with_reducible repeat (first | apply Kd.V_alloc | apply Kd.V_drewN | apply Kd.V_drew)); exact HO_22.out) hb); have n2_ := Aside0.mk (Kd.V_below (by (with_reducible repeat (first | apply Kd.V_alloc | apply Kd.V_drewN | apply Kd.V_drew)); exact HO_23.out) hb); have n3_ := Aside0.mk (bst_ hb); clear HO_0; clear HO_22; clear HO_23; clear HB; have HO_0 := n0_; have HO_22 := n1_; have HO_23 := n2_; have HB := n3_; clear n0_ n1_ n2_ n3_; (try clear hb); (try clear hb2); (try clear hk); (try clear hi)))
                             go_ret
                             exact ⟨by first | rfl | (simp [errW_none, errW_some] <;> rfl) | (simp [*, errW_none, errW_some] <;> rfl), by repeat (with_reducible first | exact HB.out | apply below_alloc | apply pw_below_drewN | apply below_drew1)⟩
                           · rw [if_neg c85] at H
                             have c85b0 : decide (x16_3 ≤ (l0.length : Int)) = false := decide_eq_false c85
                             clear c85
                             exact absurd (Option.some.inj H) (by rw [HT.out]; decide)
                         · rw [if_neg c84] at H
                           have c84b0 : (t530 == t510) = false := beq_eq_false_iff_ne.mpr c84
                           have c84b1 : (t530 != t510) = true := bne_iff_ne.mpr c84
                           exact absurd (Option.some.inj H) (by rw [HT.out]; decide)
                       · rw [if_neg c83] at H
                         have c83b0 : (t531 == 0) = false := beq_eq_false_iff_ne.mpr c83
                         have c83b1 : (t531 != 0) = true := bne_iff_ne.mpr c83
                         exact absurd (Option.some.inj H) (by rw [HT.out]; decide)
                     · rw [if_neg c82] at H
                       have c82b0 : (t511 == 0) = false := beq_eq_false_iff_ne.mpr c82
                       have c82b1 : (t511 != 0) = true := bne_iff_ne.mpr c82
                       exact absurd (Option.some.inj H) (by rw [HT.out]; decide)

/-- THE ONE PURE STATEMENT of handshakerlaw22_AfterFused. -/
def handshakerlaw22_AfterFused.Pure : Prop := ∀ (l0 : List (S25)) (a1 : Int) (a2 : Int) (l3 : List (S66)) (l4 : List Int), l0.length ≤ maxLen → l0.length * 32 ≤ 140737488351232 → (∀ y ∈ l0, wfS25 y) → (Lit.int .i64 a1).wf = true → (Lit.int .i64 a2).wf = true → l3.length ≤ maxLen → l3.length * 16 ≤ 140737488351232 → (∀ y ∈ l3, wfS66 y) → l4.length ≤ maxLen → l4.length * 8 ≤ 140737488351232 → (∀ y ∈ l4, (Lit.int .i64 y).wf = true) → ∃ k, handshakerlaw22_AfterFused.f k l0 a1 a2 l3 l4 = some true

end Go.Proofs.Ytihcnbhcemkncaa.A
