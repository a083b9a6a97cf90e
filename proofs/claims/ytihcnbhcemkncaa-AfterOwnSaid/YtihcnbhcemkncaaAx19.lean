-- PRINTED by print.py (a twelfth state) out of the translation. Not trusted: Lean checks it.
import Derived.Test.YtihcnbhcemkncaaAx0
import Derived.Test.YtihcnbhcemkncaaAx3
import Derived.Test.YtihcnbhcemkncaaAx4
import Derived.Test.YtihcnbhcemkncaaAx5
import Derived.Test.YtihcnbhcemkncaaAx6
import Derived.Test.YtihcnbhcemkncaaAx7
import Derived.Test.YtihcnbhcemkncaaAx15
namespace Go.Proofs.Ytihcnbhcemkncaa.A
open Go.Proofs.Ytihcnbhcemkncaa.Ho
open Go.RowKit Go.Proofs.YtihcnbhcemkncaaW.PrintWords Go.Proofs.YtihcnbhcemkncaaW.PrintLast Go.Proofs.YtihcnbhcemkncaaW.PrintMore
attribute [local go_sem] max2_int min2_int max_two min_two max_three min_three max_four min_four   -- for this text's walks alone
set_option linter.unusedVariables false
set_option linter.unusedSimpArgs false

/-! ### handshakerlaw22_AfterOwn: function 7 -/
mutual
def handshakerlaw22_AfterOwn.j0 : Nat → List (S25) → Int → List (S66) → List Int → Bool → Option (Bool)
 | 0, _, _, _, _, _ => none
 | k + 1, x0, x1, x2, x3, x43 => if x43 = true then ((handshakerlaw22_awake.f k).bind fun t601 => (some t601)) else (handshakerlaw22_AfterOwn.l0 k x0 x1 x2 x0 x2 x0 x2 x3 (x3.length : Int) 0)
def handshakerlaw22_AfterOwn.l0 : Nat → List (S25) → Int → List (S66) → List (S25) → List (S66) → List (S25) → List (S66) → List Int → Int → Int → Option (Bool)
 | 0, _, _, _, _, _, _, _, _, _, _ => none
 | k + 1, x0, x1, x2, x9, x10, x11, x12, x49, x50, x51 => if x51 < x50 then (if 0 ≤ x51 then (if x51 < (x49.length : Int) then ((after_Do.f k x11 (rd x49 x51) x12).bind fun bt604 => (if (rd x49 x51) = x1 then ((after_Do.f k x9 x1 x10).bind fun bt611 => (if bt604.2.2 = bt611.2.2 then (handshakerlaw22_AfterOwn.j2 k x0 x1 x2 bt611.1 bt611.2.1 bt604.1 bt604.2.1 x49 x50 x51) else (some false))) else (handshakerlaw22_AfterOwn.j2 k x0 x1 x2 x9 x10 bt604.1 bt604.2.1 x49 x50 x51))) else (none)) else (none)) else ((handshakerlaw22_awake.f k).bind fun t602 => (some t602))
def handshakerlaw22_AfterOwn.j2 : Nat → List (S25) → Int → List (S66) → List (S25) → List (S66) → List (S25) → List (S66) → List Int → Int → Int → Option (Bool)
 | 0, _, _, _, _, _, _, _, _, _, _ => none
 | k + 1, x0, x1, x2, x9, x10, x11, x12, x49, x50, x51 => handshakerlaw22_AfterOwn.l1 k x0 x1 x2 x9 x10 x11 x12 x49 x50 x51 (x2.length : Int) 0
def handshakerlaw22_AfterOwn.l1 : Nat → List (S25) → Int → List (S66) → List (S25) → List (S66) → List (S25) → List (S66) → List Int → Int → Int → Int → Int → Option (Bool)
 | 0, _, _, _, _, _, _, _, _, _, _, _, _ => none
 | k + 1, x0, x1, x2, x9, x10, x11, x12, x49, x50, x51, x82, x83 => if x83 < x82 then ((after_Holder.f k x0 x83).bind fun t618 => (if t618 = x1 then (handshakerlaw22_AfterOwn.j4 k x0 x1 x2 x9 x10 x11 x12 x83 x49 x50 x51 x82 x83 (x1 == 0)) else (handshakerlaw22_AfterOwn.j4 k x0 x1 x2 x9 x10 x11 x12 x83 x49 x50 x51 x82 x83 true))) else (handshakerlaw22_AfterOwn.l0 k x0 x1 x2 x9 x10 x11 x12 x49 x50 (wrap64 (x51 + 1)))
def handshakerlaw22_AfterOwn.j4 : Nat → List (S25) → Int → List (S66) → List (S25) → List (S66) → List (S25) → List (S66) → Int → List Int → Int → Int → Int → Int → Bool → Option (Bool)
 | 0, _, _, _, _, _, _, _, _, _, _, _, _, _, _ => none
 | k + 1, x0, x1, x2, x9, x10, x11, x12, x21, x49, x50, x51, x82, x83, x94 => if x94 = true then (handshakerlaw22_AfterOwn.l1 k x0 x1 x2 x9 x10 x11 x12 x49 x50 x51 x82 (wrap64 (x83 + 1))) else ((after_See.f k x11 x1 x12 x21).bind fun bt619 => ((heap_Get.f x10 x21).bind fun bt621 => (if bt619.1 = bt621.1 then (if bt619.2 = bt621.2 then (handshakerlaw22_AfterOwn.l1 k x0 x1 x2 x9 x10 x11 x12 x49 x50 x51 x82 (wrap64 (x83 + 1))) else (some false)) else (some false))))
end
def handshakerlaw22_AfterOwn.f (k : Nat) (l0 : List (S25)) (a1 : Int) (l2 : List (S66)) (l3 : List Int) : Option (Bool) := (handshakerlaw22_small.f k l0).bind fun t599 => (if t599 = true then (if (l2.length : Int) > 64 then (handshakerlaw22_AfterOwn.j0 k l0 a1 l2 l3 true) else (if (l3.length : Int) > 40 then (handshakerlaw22_AfterOwn.j0 k l0 a1 l2 l3 true) else ((after_Right.f k l0).bind fun t600 => (handshakerlaw22_AfterOwn.j0 k l0 a1 l2 l3 (!t600))))) else (handshakerlaw22_AfterOwn.j0 k l0 a1 l2 l3 true))
theorem handshakerlaw22_AfterOwn.mono_l : ∀ k, (∀ y0 y1 y2 y3 y4, LeO (handshakerlaw22_AfterOwn.j0 k y0 y1 y2 y3 y4) (handshakerlaw22_AfterOwn.j0 (k + 1) y0 y1 y2 y3 y4)) ∧ (∀ y0 y1 y2 y3 y4 y5 y6 y7 y8 y9, LeO (handshakerlaw22_AfterOwn.l0 k y0 y1 y2 y3 y4 y5 y6 y7 y8 y9) (handshakerlaw22_AfterOwn.l0 (k + 1) y0 y1 y2 y3 y4 y5 y6 y7 y8 y9)) ∧ (∀ y0 y1 y2 y3 y4 y5 y6 y7 y8 y9, LeO (handshakerlaw22_AfterOwn.j2 k y0 y1 y2 y3 y4 y5 y6 y7 y8 y9) (handshakerlaw22_AfterOwn.j2 (k + 1) y0 y1 y2 y3 y4 y5 y6 y7 y8 y9)) ∧ (∀ y0 y1 y2 y3 y4 y5 y6 y7 y8 y9 y10 y11, LeO (handshakerlaw22_AfterOwn.l1 k y0 y1 y2 y3 y4 y5 y6 y7 y8 y9 y10 y11) (handshakerlaw22_AfterOwn.l1 (k + 1) y0 y1 y2 y3 y4 y5 y6 y7 y8 y9 y10 y11)) ∧ (∀ y0 y1 y2 y3 y4 y5 y6 y7 y8 y9 y10 y11 y12 y13, LeO (handshakerlaw22_AfterOwn.j4 k y0 y1 y2 y3 y4 y5 y6 y7 y8 y9 y10 y11 y12 y13) (handshakerlaw22_AfterOwn.j4 (k + 1) y0 y1 y2 y3 y4 y5 y6 y7 y8 y9 y10 y11 y12 y13))
 | 0 => ⟨fun _ _ _ _ _ r h => by simp [handshakerlaw22_AfterOwn.j0] at h, fun _ _ _ _ _ _ _ _ _ _ r h => by simp [handshakerlaw22_AfterOwn.l0] at h, fun _ _ _ _ _ _ _ _ _ _ r h => by simp [handshakerlaw22_AfterOwn.j2] at h, fun _ _ _ _ _ _ _ _ _ _ _ _ r h => by simp [handshakerlaw22_AfterOwn.l1] at h, fun _ _ _ _ _ _ _ _ _ _ _ _ _ _ r h => by simp [handshakerlaw22_AfterOwn.j4] at h⟩
 | k + 1 => by
  obtain ⟨ih0, ih1, ih2, ih3, ih4⟩ := handshakerlaw22_AfterOwn.mono_l k
  refine ⟨?_, ?_, ?_, ?_, ?_⟩
  · intro y0 y1 y2 y3 y4
    unfold handshakerlaw22_AfterOwn.j0
    repeat' first
    | (with_reducible exact ih0 _ _ _ _ _)
    | (with_reducible exact ih1 _ _ _ _ _ _ _ _ _ _)
    | (with_reducible exact ih2 _ _ _ _ _ _ _ _ _ _)
    | (with_reducible exact ih3 _ _ _ _ _ _ _ _ _ _ _ _)
    | (with_reducible exact ih4 _ _ _ _ _ _ _ _ _ _ _ _ _ _)
    | (with_reducible exact after_Do.mono _ _ _ _)
    | (with_reducible exact after_Holder.mono _ _ _)
    | (with_reducible exact after_Right.mono _ _)
    | (with_reducible exact after_See.mono _ _ _ _ _)
    | (with_reducible exact handshakerlaw22_awake.mono _)
    | (with_reducible exact handshakerlaw22_small.mono _ _)
    | (with_reducible exact LeO.refl _)
    | (with_reducible exact LeO.none _)
    | (with_reducible refine LeO.ite ?_ ?_)
    | (with_reducible refine LeO.bind ?_ (fun _ => ?_))
    | exact ih0 _ _ _ _ _
    | exact ih1 _ _ _ _ _ _ _ _ _ _
    | exact ih2 _ _ _ _ _ _ _ _ _ _
    | exact ih3 _ _ _ _ _ _ _ _ _ _ _ _
    | exact ih4 _ _ _ _ _ _ _ _ _ _ _ _ _ _
    | exact after_Do.mono _ _ _ _
    | exact after_Holder.mono _ _ _
    | exact after_Right.mono _ _
    | exact after_See.mono _ _ _ _ _
    | exact handshakerlaw22_awake.mono _
    | exact handshakerlaw22_small.mono _ _
    | exact LeO.none _
    | refine LeO.ite ?_ ?_
    | refine LeO.bind ?_ (fun _ => ?_)
  · intro y0 y1 y2 y3 y4 y5 y6 y7 y8 y9
    unfold handshakerlaw22_AfterOwn.l0
    repeat' first
    | (with_reducible exact ih0 _ _ _ _ _)
    | (with_reducible exact ih1 _ _ _ _ _ _ _ _ _ _)
    | (with_reducible exact ih2 _ _ _ _ _ _ _ _ _ _)
    | (with_reducible exact ih3 _ _ _ _ _ _ _ _ _ _ _ _)
    | (with_reducible exact ih4 _ _ _ _ _ _ _ _ _ _ _ _ _ _)
    | (with_reducible exact after_Do.mono _ _ _ _)
    | (with_reducible exact after_Holder.mono _ _ _)
    | (with_reducible exact after_Right.mono _ _)
    | (with_reducible exact after_See.mono _ _ _ _ _)
    | (with_reducible exact handshakerlaw22_awake.mono _)
    | (with_reducible exact handshakerlaw22_small.mono _ _)
    | (with_reducible exact LeO.refl _)
    | (with_reducible exact LeO.none _)
    | (with_reducible refine LeO.ite ?_ ?_)
    | (with_reducible refine LeO.bind ?_ (fun _ => ?_))
    | exact ih0 _ _ _ _ _
    | exact ih1 _ _ _ _ _ _ _ _ _ _
    | exact ih2 _ _ _ _ _ _ _ _ _ _
    | exact ih3 _ _ _ _ _ _ _ _ _ _ _ _
    | exact ih4 _ _ _ _ _ _ _ _ _ _ _ _ _ _
    | exact after_Do.mono _ _ _ _
    | exact after_Holder.mono _ _ _
    | exact after_Right.mono _ _
    | exact after_See.mono _ _ _ _ _
    | exact handshakerlaw22_awake.mono _
    | exact handshakerlaw22_small.mono _ _
    | exact LeO.none _
    | refine LeO.ite ?_ ?_
    | refine LeO.bind ?_ (fun _ => ?_)
  · intro y0 y1 y2 y3 y4 y5 y6 y7 y8 y9
    unfold handshakerlaw22_AfterOwn.j2
    repeat' first
    | (with_reducible exact ih0 _ _ _ _ _)
    | (with_reducible exact ih1 _ _ _ _ _ _ _ _ _ _)
    | (with_reducible exact ih2 _ _ _ _ _ _ _ _ _ _)
    | (with_reducible exact ih3 _ _ _ _ _ _ _ _ _ _ _ _)
    | (with_reducible exact ih4 _ _ _ _ _ _ _ _ _ _ _ _ _ _)
    | (with_reducible exact after_Do.mono _ _ _ _)
    | (with_reducible exact after_Holder.mono _ _ _)
    | (with_reducible exact after_Right.mono _ _)
    | (with_reducible exact after_See.mono _ _ _ _ _)
    | (with_reducible exact handshakerlaw22_awake.mono _)
    | (with_reducible exact handshakerlaw22_small.mono _ _)
    | (with_reducible exact LeO.refl _)
    | (with_reducible exact LeO.none _)
    | (with_reducible refine LeO.ite ?_ ?_)
    | (with_reducible refine LeO.bind ?_ (fun _ => ?_))
    | exact ih0 _ _ _ _ _
    | exact ih1 _ _ _ _ _ _ _ _ _ _
    | exact ih2 _ _ _ _ _ _ _ _ _ _
    | exact ih3 _ _ _ _ _ _ _ _ _ _ _ _
    | exact ih4 _ _ _ _ _ _ _ _ _ _ _ _ _ _
    | exact after_Do.mono _ _ _ _
    | exact after_Holder.mono _ _ _
    | exact after_Right.mono _ _
    | exact after_See.mono _ _ _ _ _
    | exact handshakerlaw22_awake.mono _
    | exact handshakerlaw22_small.mono _ _
    | exact LeO.none _
    | refine LeO.ite ?_ ?_
    | refine LeO.bind ?_ (fun _ => ?_)
  · intro y0 y1 y2 y3 y4 y5 y6 y7 y8 y9 y10 y11
    unfold handshakerlaw22_AfterOwn.l1
    repeat' first
    | (with_reducible exact ih0 _ _ _ _ _)
    | (with_reducible exact ih1 _ _ _ _ _ _ _ _ _ _)
    | (with_reducible exact ih2 _ _ _ _ _ _ _ _ _ _)
    | (with_reducible exact ih3 _ _ _ _ _ _ _ _ _ _ _ _)
    | (with_reducible exact ih4 _ _ _ _ _ _ _ _ _ _ _ _ _ _)
    | (with_reducible exact after_Do.mono _ _ _ _)
    | (with_reducible exact after_Holder.mono _ _ _)
    | (with_reducible exact after_Right.mono _ _)
    | (with_reducible exact after_See.mono _ _ _ _ _)
    | (with_reducible exact handshakerlaw22_awake.mono _)
    | (with_reducible exact handshakerlaw22_small.mono _ _)
    | (with_reducible exact LeO.refl _)
    | (with_reducible exact LeO.none _)
    | (with_reducible refine LeO.ite ?_ ?_)
    | (with_reducible refine LeO.bind ?_ (fun _ => ?_))
    | exact ih0 _ _ _ _ _
    | exact ih1 _ _ _ _ _ _ _ _ _ _
    | exact ih2 _ _ _ _ _ _ _ _ _ _
    | exact ih3 _ _ _ _ _ _ _ _ _ _ _ _
    | exact ih4 _ _ _ _ _ _ _ _ _ _ _ _ _ _
    | exact after_Do.mono _ _ _ _
    | exact after_Holder.mono _ _ _
    | exact after_Right.mono _ _
    | exact after_See.mono _ _ _ _ _
    | exact handshakerlaw22_awake.mono _
    | exact handshakerlaw22_small.mono _ _
    | exact LeO.none _
    | refine LeO.ite ?_ ?_
    | refine LeO.bind ?_ (fun _ => ?_)
  · intro y0 y1 y2 y3 y4 y5 y6 y7 y8 y9 y10 y11 y12 y13
    unfold handshakerlaw22_AfterOwn.j4
    repeat' first
    | (with_reducible exact ih0 _ _ _ _ _)
    | (with_reducible exact ih1 _ _ _ _ _ _ _ _ _ _)
    | (with_reducible exact ih2 _ _ _ _ _ _ _ _ _ _)
    | (with_reducible exact ih3 _ _ _ _ _ _ _ _ _ _ _ _)
    | (with_reducible exact ih4 _ _ _ _ _ _ _ _ _ _ _ _ _ _)
    | (with_reducible exact after_Do.mono _ _ _ _)
    | (with_reducible exact after_Holder.mono _ _ _)
    | (with_reducible exact after_Right.mono _ _)
    | (with_reducible exact after_See.mono _ _ _ _ _)
    | (with_reducible exact handshakerlaw22_awake.mono _)
    | (with_reducible exact handshakerlaw22_small.mono _ _)
    | (with_reducible exact LeO.refl _)
    | (with_reducible exact LeO.none _)
    | (with_reducible refine LeO.ite ?_ ?_)
    | (with_reducible refine LeO.bind ?_ (fun _ => ?_))
    | exact ih0 _ _ _ _ _
    | exact ih1 _ _ _ _ _ _ _ _ _ _
    | exact ih2 _ _ _ _ _ _ _ _ _ _
    | exact ih3 _ _ _ _ _ _ _ _ _ _ _ _
    | exact ih4 _ _ _ _ _ _ _ _ _ _ _ _ _ _
    | exact after_Do.mono _ _ _ _
    | exact after_Holder.mono _ _ _
    | exact after_Right.mono _ _
    | exact after_See.mono _ _ _ _ _
    | exact handshakerlaw22_awake.mono _
    | exact handshakerlaw22_small.mono _ _
    | exact LeO.none _
    | refine LeO.ite ?_ ?_
    | refine LeO.bind ?_ (fun _ => ?_)
theorem handshakerlaw22_AfterOwn.mono : ∀ a0 a1 a2 a3 k, LeO (handshakerlaw22_AfterOwn.f k a0 a1 a2 a3) (handshakerlaw22_AfterOwn.f (k + 1) a0 a1 a2 a3) := by
 intro a0 a1 a2 a3 k
 obtain ⟨ih0, ih1, ih2, ih3, ih4⟩ := handshakerlaw22_AfterOwn.mono_l k
 unfold handshakerlaw22_AfterOwn.f
 repeat' first
  | (with_reducible exact ih0 _ _ _ _ _)
  | (with_reducible exact ih1 _ _ _ _ _ _ _ _ _ _)
  | (with_reducible exact ih2 _ _ _ _ _ _ _ _ _ _)
  | (with_reducible exact ih3 _ _ _ _ _ _ _ _ _ _ _ _)
  | (with_reducible exact ih4 _ _ _ _ _ _ _ _ _ _ _ _ _ _)
  | (with_reducible exact after_Do.mono _ _ _ _)
  | (with_reducible exact after_Holder.mono _ _ _)
  | (with_reducible exact after_Right.mono _ _)
  | (with_reducible exact after_See.mono _ _ _ _ _)
  | (with_reducible exact handshakerlaw22_awake.mono _)
  | (with_reducible exact handshakerlaw22_small.mono _ _)
  | (with_reducible exact LeO.refl _)
  | (with_reducible exact LeO.none _)
  | (with_reducible refine LeO.ite ?_ ?_)
  | (with_reducible refine LeO.bind ?_ (fun _ => ?_))
  | exact ih0 _ _ _ _ _
  | exact ih1 _ _ _ _ _ _ _ _ _ _
  | exact ih2 _ _ _ _ _ _ _ _ _ _
  | exact ih3 _ _ _ _ _ _ _ _ _ _ _ _
  | exact ih4 _ _ _ _ _ _ _ _ _ _ _ _ _ _
  | exact after_Do.mono _ _ _ _
  | exact after_Holder.mono _ _ _
  | exact after_Right.mono _ _
  | exact after_See.mono _ _ _ _ _
  | exact handshakerlaw22_awake.mono _
  | exact handshakerlaw22_small.mono _ _
  | exact LeO.none _
  | refine LeO.ite ?_ ?_
  | refine LeO.bind ?_ (fun _ => ?_)
set_option maxHeartbeats 8000000 in
set_option maxRecDepth 100000 in
theorem handshakerlaw22_AfterOwn.calls (k : Nat) (P0_ : Nat → Prop) (A0 : Option Addr) (c0 : Nat) (l0 : List (S25)) (a1 : Int) (P2_ : Nat → Prop) (A2 : Option Addr) (c2 : Nat) (l2 : List (S66)) (A3 : Option Addr) (c3 : Nat) (l3 : List Int) (r : Bool) (w : World) (HT : Aside0 (r = true)) (hs0 : Kd.V k25 25 w w.heap.size (fun k_ => P0_ k_) (.slice A0 l0.length c0) l0) (hs2 : Kd.V k66 66 w w.heap.size (fun k_ => P2_ k_) (.slice A2 l2.length c2) l2) (hr3 : Kd.C (Kd.int .i64) w A3 l3.length l3) (hc3 : l3.length ≤ c3) (h : handshakerlaw22_AfterOwn.f k l0 a1 l2 l3 = some r) :
 Calls Try.prog 7 #[.slice A0 l0.length c0, .int .i64 a1, .slice A2 l2.length c2, .slice A3 l3.length c3] w fun e w' => e = .returned (.bool r) ∧ Below w.heap.size w w' := by
 have HO0 := Aside0.mk (show Kd.V k25 25 w w.heap.size (fun k_ => ((P0_ k_ ∨ P2_ k_) ∨ w.heap.size ≤ k_)) (.slice A0 l0.length c0) l0 from Kd.V_mono hs0 (fun k_ hk => .inl (.inl hk)))
 have HO2 := Aside0.mk (show Kd.V k66 66 w w.heap.size (fun k_ => ((P0_ k_ ∨ P2_ k_) ∨ w.heap.size ≤ k_)) (.slice A2 l2.length c2) l2 from Kd.V_mono hs2 (fun k_ hk => .inl (.inr hk)))
 have HR3 := Aside0.mk hr3
 have HC3 := Aside0.mk hc3
 clear hr3 hc3
 have HB := Aside0.mk (Below.refl w.heap.size w)
 have H : ((handshakerlaw22_small.f k l0).bind fun t599 => (if t599 = true then (if (l2.length : Int) > 64 then (handshakerlaw22_AfterOwn.j0 k l0 a1 l2 l3 true) else (if (l3.length : Int) > 40 then (handshakerlaw22_AfterOwn.j0 k l0 a1 l2 l3 true) else ((after_Right.f k l0).bind fun t600 => (handshakerlaw22_AfterOwn.j0 k l0 a1 l2 l3 (!t600))))) else (handshakerlaw22_AfterOwn.j0 k l0 a1 l2 l3 true))) = some r := h
 clear h
 have HC5 := Aside0.mk H
 clear H
 go_enter Try.func7, Try.ntmps7
 go_upto_region 1 with (fail)
 go_cut [43] (fun v43 wc => ∃ (kq : Nat) (x43_4 : Bool), v43 = .bool x43_4 ∧ Aside0 (handshakerlaw22_AfterOwn.j0 kq l0 a1 l2 l3 x43_4 = some r) ∧ Aside0 (kq ≤ k) ∧ Aside0 (Kd.V k25 25 wc w.heap.size (fun k_ => ((P0_ k_ ∨ P2_ k_) ∨ w.heap.size ≤ k_)) (.slice A0 l0.length c0) l0) ∧ Aside0 (Kd.V k66 66 wc w.heap.size (fun k_ => ((P0_ k_ ∨ P2_ k_) ∨ w.heap.size ≤ k_)) (.slice A2 l2.length c2) l2) ∧ Aside0 (Below w.heap.size w wc))
 case first =>
  have H := HC5.out
  clear HC5
  replace H := Option.bind_eq_some_iff.mp H
  obtain ⟨t599, A60, H⟩ := H
  replace H : (if t599 = true then (if (l2.length : Int) > 64 then (handshakerlaw22_AfterOwn.j0 k l0 a1 l2 l3 true) else (if (l3.length : Int) > 40 then (handshakerlaw22_AfterOwn.j0 k l0 a1 l2 l3 true) else ((after_Right.f k l0).bind fun t600 => (handshakerlaw22_AfterOwn.j0 k l0 a1 l2 l3 (!t600))))) else (handshakerlaw22_AfterOwn.j0 k l0 a1 l2 l3 true)) = some r := H
  have A6 := Aside0.mk A60
  clear A60
  by_cases c7 : t599 = true
  · subst c7
    have H1 : (if (l2.length : Int) > 64 then (handshakerlaw22_AfterOwn.j0 k l0 a1 l2 l3 true) else (if (l3.length : Int) > 40 then (handshakerlaw22_AfterOwn.j0 k l0 a1 l2 l3 true) else ((after_Right.f k l0).bind fun t600 => (handshakerlaw22_AfterOwn.j0 k l0 a1 l2 l3 (!t600))))) = some r := by rw [if_pos rfl] at H; exact H
    clear H
    have H := H1
    clear H1
    by_cases c8 : (l2.length : Int) > 64
    · rw [if_pos c8] at H
      have c8b0 : decide (64 < (l2.length : Int)) = true := decide_eq_true c8
      have c8b1 : decide (64 < l2.length) = true := decide_eq_true (by omega)
      clear c8
      (first | rw [c8b0] | (simp only [i64_w, i32_w]; rw [c8b0]) | skip)
      have H' := Aside0.mk H
      clear H
      go_wp2_with (first | ((with_reducible refine gate_callee (f := 11) rfl ?_); refine goesL_ (some 27) rfl rfl Try.func11 (by kernel_rfl) rfl #[.slice A0 l0.length c0] rfl (by (try simp only [List.map_toArray, List.map_cons, List.map_nil]); first | done | rfl) ?_; (with_reducible refine (handshakerlaw22_small.calls k _ _ l0 true _ ?side1 ?side2 A6.out).mono ?_); (case side1 => repeat (first | exact (Kd.V_reads' HO0.out).2.2 | with_reducible first | refine Kd.C_alloc ?_ _ | refine Kd.C_drewN ?_ _ | refine Kd.C_drew ?_)); (case side2 => exact (Kd.V_reads' HO0.out).2.1); rintro e w9 ⟨rfl, hb⟩; refine ⟨_, rfl, ?_⟩; have n0_ := Aside0.mk (Kd.V_below (by (with_reducible repeat (first | apply Kd.V_alloc | apply Kd.V_drewN | apply Kd.V_drew)); exact HO0.out) hb); have n1_ := Aside0.mk (Kd.V_below (by (with_reducible repeat (first | apply Kd.V_alloc | apply Kd.V_drewN | apply Kd.V_drew)); exact HO2.out) hb); have n2_ := Aside0.mk (bst_ hb); clear HO0; clear HO2; clear HB; have HO0 := n0_; have HO2 := n1_; have HB := n2_; clear n0_ n1_ n2_; (try clear hb); (try clear hb2); (try clear hk); (try clear hi)))
      go_meet
      case rel => exact ⟨_, (true), (by first | rfl | (simp; done) | (simp [*]; done)), H', ⟨by first | omega | exact Nat.le_refl _⟩, ⟨by (with_reducible repeat (first | apply Kd.V_alloc | apply Kd.V_drewN | apply Kd.V_drew)); exact HO0.out⟩, ⟨by (with_reducible repeat (first | apply Kd.V_alloc | apply Kd.V_drewN | apply Kd.V_drew)); exact HO2.out⟩, ⟨by repeat (with_reducible first | exact HB.out | apply below_alloc | apply pw_below_drewN | apply below_drew1)⟩⟩
    · rw [if_neg c8] at H
      have c8b0 : decide (64 < (l2.length : Int)) = false := decide_eq_false c8
      have c8b1 : decide (64 < l2.length) = false := decide_eq_false (by omega)
      clear c8
      (first | rw [c8b0] | (simp only [i64_w, i32_w]; rw [c8b0]) | skip)
      by_cases c10 : (l3.length : Int) > 40
      · rw [if_pos c10] at H
        have c10b0 : decide (40 < (l3.length : Int)) = true := decide_eq_true c10
        have c10b1 : decide (40 < l3.length) = true := decide_eq_true (by omega)
        clear c10
        have H' := Aside0.mk H
        clear H
        go_wp2_with (first | ((with_reducible refine gate_callee (f := 11) rfl ?_); refine goesL_ (some 27) rfl rfl Try.func11 (by kernel_rfl) rfl #[.slice A0 l0.length c0] rfl (by (try simp only [List.map_toArray, List.map_cons, List.map_nil]); first | done | rfl) ?_; (with_reducible refine (handshakerlaw22_small.calls k _ _ l0 true _ ?side1 ?side2 A6.out).mono ?_); (case side1 => repeat (first | exact (Kd.V_reads' HO0.out).2.2 | with_reducible first | refine Kd.C_alloc ?_ _ | refine Kd.C_drewN ?_ _ | refine Kd.C_drew ?_)); (case side2 => exact (Kd.V_reads' HO0.out).2.1); rintro e w11 ⟨rfl, hb⟩; refine ⟨_, rfl, ?_⟩; have n0_ := Aside0.mk (Kd.V_below (by (with_reducible repeat (first | apply Kd.V_alloc | apply Kd.V_drewN | apply Kd.V_drew)); exact HO0.out) hb); have n1_ := Aside0.mk (Kd.V_below (by (with_reducible repeat (first | apply Kd.V_alloc | apply Kd.V_drewN | apply Kd.V_drew)); exact HO2.out) hb); have n2_ := Aside0.mk (bst_ hb); clear HO0; clear HO2; clear HB; have HO0 := n0_; have HO2 := n1_; have HB := n2_; clear n0_ n1_ n2_; (try clear hb); (try clear hb2); (try clear hk); (try clear hi)))
        go_meet
        case rel => exact ⟨_, (true), (by first | rfl | (simp; done) | (simp [*]; done)), H', ⟨by first | omega | exact Nat.le_refl _⟩, ⟨by (with_reducible repeat (first | apply Kd.V_alloc | apply Kd.V_drewN | apply Kd.V_drew)); exact HO0.out⟩, ⟨by (with_reducible repeat (first | apply Kd.V_alloc | apply Kd.V_drewN | apply Kd.V_drew)); exact HO2.out⟩, ⟨by repeat (with_reducible first | exact HB.out | apply below_alloc | apply pw_below_drewN | apply below_drew1)⟩⟩
      · rw [if_neg c10] at H
        have c10b0 : decide (40 < (l3.length : Int)) = false := decide_eq_false c10
        have c10b1 : decide (40 < l3.length) = false := decide_eq_false (by omega)
        clear c10
        replace H := Option.bind_eq_some_iff.mp H
        obtain ⟨t600, A120, H⟩ := H
        replace H : (handshakerlaw22_AfterOwn.j0 k l0 a1 l2 l3 (!t600)) = some r := H
        have A12 := Aside0.mk A120
        clear A120
        have H' := Aside0.mk H
        clear H
        go_wp2_with (first | ((with_reducible refine gate_callee (f := 11) rfl ?_); refine goesL_ (some 27) rfl rfl Try.func11 (by kernel_rfl) rfl #[.slice A0 l0.length c0] rfl (by (try simp only [List.map_toArray, List.map_cons, List.map_nil]); first | done | rfl) ?_; (with_reducible refine (handshakerlaw22_small.calls k _ _ l0 true _ ?side1 ?side2 A6.out).mono ?_); (case side1 => repeat (first | exact (Kd.V_reads' HO0.out).2.2 | with_reducible first | refine Kd.C_alloc ?_ _ | refine Kd.C_drewN ?_ _ | refine Kd.C_drew ?_)); (case side2 => exact (Kd.V_reads' HO0.out).2.1); rintro e w13 ⟨rfl, hb⟩; refine ⟨_, rfl, ?_⟩; have n0_ := Aside0.mk (Kd.V_below (by (with_reducible repeat (first | apply Kd.V_alloc | apply Kd.V_drewN | apply Kd.V_drew)); exact HO0.out) hb); have n1_ := Aside0.mk (Kd.V_below (by (with_reducible repeat (first | apply Kd.V_alloc | apply Kd.V_drewN | apply Kd.V_drew)); exact HO2.out) hb); have n2_ := Aside0.mk (bst_ hb); clear HO0; clear HO2; clear HB; have HO0 := n0_; have HO2 := n1_; have HB := n2_; clear n0_ n1_ n2_; (try clear hb); (try clear hb2); (try clear hk); (try clear hi)) | (go_at_call 22; (with_reducible refine (after_Right.calls k _ _ l0 t600 _ ?side1 ?side2 A12.out).mono ?_); (case side1 => repeat (first | exact (Kd.V_reads' HO0.out).2.2 | with_reducible first | refine Kd.C_alloc ?_ _ | refine Kd.C_drewN ?_ _ | refine Kd.C_drew ?_)); (case side2 => exact (Kd.V_reads' HO0.out).2.1); rintro e w14 ⟨rfl, hb⟩; have n0_ := Aside0.mk (Kd.V_below (by (with_reducible repeat (first | apply Kd.V_alloc | apply Kd.V_drewN | apply Kd.V_drew)); exact HO0.out) hb); have n1_ := Aside0.mk (Kd.V_below (by (with_reducible repeat (first | apply Kd.V_alloc | apply Kd.V_drewN | apply Kd.V_drew)); exact HO2.out) hb); have n2_ := Aside0.mk (bst_ hb); clear HO0; clear HO2; clear HB; have HO0 := n0_; have HO2 := n1_; have HB := n2_; clear n0_ n1_ n2_; (try clear hb); (try clear hb2); (try clear hk); (try clear hi)))
        go_meet
        case rel => exact ⟨_, (!t600), (by first | rfl | (simp; done) | (simp [*]; done)), H', ⟨by first | omega | exact Nat.le_refl _⟩, ⟨by (with_reducible repeat (first | apply Kd.V_alloc | apply Kd.V_drewN | apply Kd.V_drew)); exact HO0.out⟩, ⟨by (with_reducible repeat (first | apply Kd.V_alloc | apply Kd.V_drewN | apply Kd.V_drew)); exact HO2.out⟩, ⟨by repeat (with_reducible first | exact HB.out | apply below_alloc | apply pw_below_drewN | apply below_drew1)⟩⟩
  · replace c7 := Bool.eq_false_iff.mpr c7
    subst c7
    have H1 : (handshakerlaw22_AfterOwn.j0 k l0 a1 l2 l3 true) = some r := by rw [if_neg (show ¬ (false = true) by decide)] at H; exact H
    clear H
    have H := H1
    clear H1
    have H' := Aside0.mk H
    clear H
    go_wp2_with (first | ((with_reducible refine gate_callee (f := 11) rfl ?_); refine goesL_ (some 27) rfl rfl Try.func11 (by kernel_rfl) rfl #[.slice A0 l0.length c0] rfl (by (try simp only [List.map_toArray, List.map_cons, List.map_nil]); first | done | rfl) ?_; (with_reducible refine (handshakerlaw22_small.calls k _ _ l0 false _ ?side1 ?side2 A6.out).mono ?_); (case side1 => repeat (first | exact (Kd.V_reads' HO0.out).2.2 | with_reducible first | refine Kd.C_alloc ?_ _ | refine Kd.C_drewN ?_ _ | refine Kd.C_drew ?_)); (case side2 => exact (Kd.V_reads' HO0.out).2.1); rintro e w15 ⟨rfl, hb⟩; refine ⟨_, rfl, ?_⟩; have n0_ := Aside0.mk (Kd.V_below (by (with_reducible repeat (first | apply Kd.V_alloc | apply Kd.V_drewN | apply Kd.V_drew)); exact HO0.out) hb); have n1_ := Aside0.mk (Kd.V_below (by (with_reducible repeat (first | apply Kd.V_alloc | apply Kd.V_drewN | apply Kd.V_drew)); exact HO2.out) hb); have n2_ := Aside0.mk (bst_ hb); clear HO0; clear HO2; clear HB; have HO0 := n0_; have HO2 := n1_; have HB := n2_; clear n0_ n1_ n2_; (try clear hb); (try clear hb2); (try clear hk); (try clear hi)))
    go_meet
    case rel => exact ⟨_, (true), (by first | rfl | (simp; done) | (simp [*]; done)), H', ⟨by first | omega | exact Nat.le_refl _⟩, ⟨by (with_reducible repeat (first | apply Kd.V_alloc | apply Kd.V_drewN | apply Kd.V_drew)); exact HO0.out⟩, ⟨by (with_reducible repeat (first | apply Kd.V_alloc | apply Kd.V_drewN | apply Kd.V_drew)); exact HO2.out⟩, ⟨by repeat (with_reducible first | exact HB.out | apply below_alloc | apply pw_below_drewN | apply below_drew1)⟩⟩
 case rest =>
  clear HC5
  try clear c1
  try clear c2
  try clear p2
  try clear c3
  try clear c7
  try clear c8
  try clear c8b0
  try clear c8b1
  try clear c10
  try clear c10b0
  try clear c10b1
  try clear c11
  obtain ⟨kq, x43_4, rfl, HA, HJ4, HO_0, HO_2, HB⟩ := hcut
  cases kq with
  | zero => exact absurd HA.out (by simp [handshakerlaw22_AfterOwn.j0])
  | succ kj4 =>
   have H := HA.out
   clear HA
   simp only [handshakerlaw22_AfterOwn.j0] at H
   by_cases c16 : x43_4 = true
   · subst c16
     have H1 : ((handshakerlaw22_awake.f kj4).bind fun t601 => (some t601)) = some r := by rw [if_pos rfl] at H; exact H
     clear H
     have H := H1
     clear H1
     replace H := Option.bind_eq_some_iff.mp H
     obtain ⟨t601, A170, H⟩ := H
     replace H : (some t601) = some r := H
     have A17 := Aside0.mk A170
     clear A170
     obtain rfl := Option.some.inj H
     go_wp2_with (first | ((with_reducible refine gate_callee (f := 12) rfl ?_); refine goesL_ (some 44) rfl rfl Try.func12 (by kernel_rfl) rfl #[] rfl (by (try simp only [List.map_toArray, List.map_cons, List.map_nil]); first | done | rfl) ?_; (with_reducible refine (handshakerlaw22_awake.calls kj4  t601 _ A17.out).mono ?_); rintro e w18 ⟨rfl, hb⟩; refine ⟨_, rfl, ?_⟩; have n0_ := Aside0.mk (Kd.V_below (by (with_reducible repeat (first | apply Kd.V_alloc | apply Kd.V_drewN | apply Kd.V_drew)); exact HO_0.out) hb); have n1_ := Aside0.mk (Kd.V_below (by (with_reducible repeat (first | apply Kd.V_alloc | apply Kd.V_drewN | apply Kd.V_drew)); exact HO_2.out) hb); have n2_ := Aside0.mk (bst_ hb); clear HO_0; clear HO_2; clear HB; have HO_0 := n0_; have HO_2 := n1_; have HB := n2_; clear n0_ n1_ n2_; (try clear hb); (try clear hb2); (try clear hk); (try clear hi)))
     go_ret
     exact ⟨by first | rfl | (simp [errW_none, errW_some] <;> rfl) | (simp [*, errW_none, errW_some] <;> rfl), by repeat (with_reducible first | exact HB.out | apply below_alloc | apply pw_below_drewN | apply below_drew1)⟩
   · replace c16 := Bool.eq_false_iff.mpr c16
     subst c16
     have H1 : (handshakerlaw22_AfterOwn.l0 kj4 l0 a1 l2 l0 l2 l0 l2 l3 (l3.length : Int) 0) = some r := by rw [if_neg (show ¬ (false = true) by decide)] at H; exact H
     clear H
     have H := H1
     clear H1
     have H' := Aside0.mk H
     clear H
     go_wp2
     go_loopg [9, 10, 11, 12, 51] kj4 (fun kq v9 v10 v11 v12 v51 w' => ∃ (x9_2 : List (S25)) (x10_2 : List (S66)) (x11_2 : List (S25)) (x12_2 : List (S66)) (x51_2 : Int), v51 = .int .i64 x51_2 ∧ Aside0 (handshakerlaw22_AfterOwn.l0 kq l0 a1 l2 x9_2 x10_2 x11_2 x12_2 l3 (l3.length : Int) x51_2 = some r) ∧ Aside0 (kq ≤ kj4) ∧ Aside0 (Kd.V k25 25 w' w.heap.size (fun k_ => ((P0_ k_ ∨ P2_ k_) ∨ w.heap.size ≤ k_)) (.slice A0 l0.length c0) l0) ∧ Aside0 (Kd.V k66 66 w' w.heap.size (fun k_ => ((P0_ k_ ∨ P2_ k_) ∨ w.heap.size ≤ k_)) (.slice A2 l2.length c2) l2) ∧ Aside0 (Kd.V k25 25 w' w.heap.size (fun k_ => ((P0_ k_ ∨ P2_ k_) ∨ w.heap.size ≤ k_)) v9 x9_2) ∧ Aside0 (Kd.V k66 66 w' w.heap.size (fun k_ => ((P0_ k_ ∨ P2_ k_) ∨ w.heap.size ≤ k_)) v10 x10_2) ∧ Aside0 (Kd.V k25 25 w' w.heap.size (fun k_ => ((P0_ k_ ∨ P2_ k_) ∨ w.heap.size ≤ k_)) v11 x11_2) ∧ Aside0 (Kd.V k66 66 w' w.heap.size (fun k_ => ((P0_ k_ ∨ P2_ k_) ∨ w.heap.size ≤ k_)) v12 x12_2) ∧ Aside0 (Below w.heap.size w w'))
     case atStart => exact ⟨(l0), (l2), (l0), (l2), (0), (by first | rfl | (simp; done) | (simp [*]; done)), H', ⟨Nat.le_refl _⟩, ⟨by (with_reducible repeat (first | apply Kd.V_alloc | apply Kd.V_drewN | apply Kd.V_drew)); exact HO_0.out⟩, ⟨by (with_reducible repeat (first | apply Kd.V_alloc | apply Kd.V_drewN | apply Kd.V_drew)); exact HO_2.out⟩, ⟨by (with_reducible repeat (first | apply Kd.V_alloc | apply Kd.V_drewN | apply Kd.V_drew)); exact HO_0.out⟩, ⟨by (with_reducible repeat (first | apply Kd.V_alloc | apply Kd.V_drewN | apply Kd.V_drew)); exact HO_2.out⟩, ⟨by (with_reducible repeat (first | apply Kd.V_alloc | apply Kd.V_drewN | apply Kd.V_drew)); exact HO_0.out⟩, ⟨by (with_reducible repeat (first | apply Kd.V_alloc | apply Kd.V_drewN | apply Kd.V_drew)); exact HO_2.out⟩, ⟨by repeat (with_reducible first | exact HB.out | apply below_alloc | apply pw_below_drewN | apply below_drew1)⟩⟩
     case round =>
      clear H'
      try clear c1
      try clear c2
      try clear p2
      try clear c3
      try clear c7
      try clear c8
      try clear c8b0
      try clear c8b1
      try clear c10
      try clear c10b0
      try clear c10b1
      try clear c11
      try clear c12
      try clear c16
      try clear p2
      obtain ⟨x9_2, x10_2, x11_2, x12_2, x51_2, rfl, HA, HK2, HO_0, HO_2, HO_9, HO_10, HO_11, HO_12, HB⟩ := hrel
      cases gk with
      | zero => exact absurd HA.out (by simp [handshakerlaw22_AfterOwn.l0])
      | succ k2 =>
       have H := HA.out
       clear HA
       simp only [handshakerlaw22_AfterOwn.l0] at H
       by_cases c19 : x51_2 < (l3.length : Int)
       · rw [if_pos c19] at H
         have c19b0 : decide (x51_2 < (l3.length : Int)) = true := decide_eq_true c19
         clear c19
         by_cases c20 : 0 ≤ x51_2
         · rw [if_pos c20] at H
           have c20b0 : decide (0 ≤ x51_2) = true := decide_eq_true c20
           clear c20
           by_cases c21 : x51_2 < (l3.length : Int)
           · rw [if_pos c21] at H
             have c21b0 : decide (x51_2 < (l3.length : Int)) = true := decide_eq_true c21
             clear c21
             replace H := Option.bind_eq_some_iff.mp H
             obtain ⟨⟨t604, t607, t610⟩, A220, H⟩ := H
             replace H : (if (rd l3 x51_2) = a1 then ((after_Do.f k2 x9_2 a1 x10_2).bind fun bt611 => (if t610 = bt611.2.2 then (handshakerlaw22_AfterOwn.j2 k2 l0 a1 l2 bt611.1 bt611.2.1 t604 t607 l3 (l3.length : Int) x51_2) else (some false))) else (handshakerlaw22_AfterOwn.j2 k2 l0 a1 l2 x9_2 x10_2 t604 t607 l3 (l3.length : Int) x51_2)) = some r := H
             have A22 := Aside0.mk A220
             clear A220
             have HC23 := Aside0.mk H
             clear H
             have p603 : 0 ≤ (x51_2 : Int) := of_decide_eq_true (by first | (with_reducible assumption) | assumption)
             have q603 : x51_2 < (l3.length : Int) := of_decide_eq_true (by first | (with_reducible assumption) | assumption)
             obtain ⟨ad603, e603, hx603_0⟩ := Kd.at_int HR3.out x51_2 p603 q603
             cases e603
             replace hx603_0 := (HB.out.cell (World.block_lt_of_cell? w _ hx603_0)).trans hx603_0
             replace p603 := eq_true p603
             replace q603 := eq_true q603
             obtain ⟨Ao24, co24, eo24⟩ := Kd.V_slice HO_11.out
             subst eo24
             obtain ⟨Ao25, co25, eo25⟩ := Kd.V_slice HO_12.out
             subst eo25
             go_upto_if 67 with (first | ((with_reducible refine gate_callee (f := 16) rfl ?_); refine goesL_ (some 59) rfl rfl Try.func16 (by kernel_rfl) rfl #[.slice Ao24 x11_2.length co24, .int .i64 (rd l3 x51_2), .slice Ao25 x12_2.length co25] rfl (by (try simp only [List.map_toArray, List.map_cons, List.map_nil]); first | done | rfl) ?_; (with_reducible refine (after_Do.calls k2 (fun k_ => ((P0_ k_ ∨ P2_ k_) ∨ w.heap.size ≤ k_)) _ _ x11_2 (rd l3 x51_2) (fun k_ => ((P0_ k_ ∨ P2_ k_) ∨ w.heap.size ≤ k_)) _ _ x12_2 t604 t607 t610 _ ?side1 ?side2 A22.out).mono ?_); (case side1 => exact HO_11.out); (case side2 => exact HO_12.out); rintro e w26 ⟨v605, v608, rfl, ho0, ho1, hb⟩; refine ⟨_, rfl, ?_⟩; have n0_ := Aside0.mk (Kd.V_below (by (with_reducible repeat (first | apply Kd.V_alloc | apply Kd.V_drewN | apply Kd.V_drew)); exact HO_0.out) hb); have n1_ := Aside0.mk (Kd.V_below (by (with_reducible repeat (first | apply Kd.V_alloc | apply Kd.V_drewN | apply Kd.V_drew)); exact HO_2.out) hb); have n2_ := Aside0.mk (Kd.V_below (by (with_reducible repeat (first | apply Kd.V_alloc | apply Kd.V_drewN | apply Kd.V_drew)); exact HO_9.out) hb); have n3_ := Aside0.mk (Kd.V_below (by (with_reducible repeat (first | apply Kd.V_alloc | apply Kd.V_drewN | apply Kd.V_drew)); exact HO_10.out) hb); have n4_ := Aside0.mk (Kd.V_below (by (with_reducible repeat (first | apply Kd.V_alloc | apply Kd.V_drewN | apply Kd.V_drew)); exact HO_11.out) hb); have n5_ := Aside0.mk (Kd.V_below (by (with_reducible repeat (first | apply Kd.V_alloc | apply Kd.V_drewN | apply Kd.V_drew)); exact HO_12.out) hb); have n6_ := Aside0.mk (Kd.V_lower (Kd.V_mono (ok' := fun k_ => ((P0_ k_ ∨ P2_ k_) ∨ w.heap.size ≤ k_)) ho0 (fun k_ hk_ => Or.elim hk_ (fun hs_ => Or.elim hs_ (fun hs_ => hs_) (fun hs_ => hs_)) (fun hn_ => (.inr (Nat.le_trans bsz_ hn_))))) bsz_); have n7_ := Aside0.mk (Kd.V_lower (Kd.V_mono (ok' := fun k_ => ((P0_ k_ ∨ P2_ k_) ∨ w.heap.size ≤ k_)) ho1 (fun k_ hk_ => Or.elim hk_ (fun hs_ => Or.elim hs_ (fun hs_ => hs_) (fun hs_ => hs_)) (fun hn_ => (.inr (Nat.le_trans bsz_ hn_))))) bsz_); have n8_ := Aside0.mk (bst_ hb); clear HO_0; clear HO_2; clear HO_9; clear HO_10; clear HO_11; clear HO_12; clear HB; have HO_0 := n0_; have HO_2 := n1_; have HO_9 := n2_; have HO_10 := n3_; have HO_11 := n4_; have HO_12 := n5_; have HO606 := n6_; have HO609 := n7_; have HB := n8_; clear n0_ n1_ n2_ n3_ n4_ n5_ n6_ n7_ n8_; (try clear hb); (try clear hb2); (try clear hk); (try clear hi); (try clear ho0); (try clear ho1)))
             (try simp only [Act.put, List.setIfInBounds_toArray, List.set_cons_zero, List.set_cons_succ])
             go_cut [9, 10] (fun v9 v10 wc => ∃ (kq : Nat) (x9_22 : List (S25)) (x10_22 : List (S66)), Aside0 (handshakerlaw22_AfterOwn.j2 kq l0 a1 l2 x9_22 x10_22 t604 t607 l3 (l3.length : Int) x51_2 = some r) ∧ Aside0 (kq ≤ k2) ∧ Aside0 (Kd.V k25 25 wc w.heap.size (fun k_ => ((P0_ k_ ∨ P2_ k_) ∨ w.heap.size ≤ k_)) (.slice A0 l0.length c0) l0) ∧ Aside0 (Kd.V k66 66 wc w.heap.size (fun k_ => ((P0_ k_ ∨ P2_ k_) ∨ w.heap.size ≤ k_)) (.slice A2 l2.length c2) l2) ∧ Aside0 (Kd.V k25 25 wc w.heap.size (fun k_ => ((P0_ k_ ∨ P2_ k_) ∨ w.heap.size ≤ k_)) v9 x9_22) ∧ Aside0 (Kd.V k66 66 wc w.heap.size (fun k_ => ((P0_ k_ ∨ P2_ k_) ∨ w.heap.size ≤ k_)) v10 x10_22) ∧ Aside0 (Kd.V k25 25 wc w.heap.size (fun k_ => ((P0_ k_ ∨ P2_ k_) ∨ w.heap.size ≤ k_)) v605 t604) ∧ Aside0 (Kd.V k66 66 wc w.heap.size (fun k_ => ((P0_ k_ ∨ P2_ k_) ∨ w.heap.size ≤ k_)) v608 t607) ∧ Aside0 (Below w.heap.size w wc))
             case first =>
              have H := HC23.out
              clear HC23
              by_cases c27 : (rd l3 x51_2) = a1
              · rw [if_pos c27] at H
                have c27b0 : ((rd l3 x51_2) == a1) = true := beq_iff_eq.mpr c27
                have c27b1 : ((rd l3 x51_2) != a1) = false := bne_eq_false_iff_eq.mpr c27
                clear c27
                (first | rw [c27b0] | (simp only [i64_w, i32_w]; rw [c27b0]) | skip)
                replace H := Option.bind_eq_some_iff.mp H
                obtain ⟨⟨t611, t614, t617⟩, A280, H⟩ := H
                replace H : (if t610 = t617 then (handshakerlaw22_AfterOwn.j2 k2 l0 a1 l2 t611 t614 t604 t607 l3 (l3.length : Int) x51_2) else (some false)) = some r := H
                have A28 := Aside0.mk A280
                clear A280
                by_cases c29 : t610 = t617
                · rw [if_pos c29] at H
                  have c29b0 : (t610 == t617) = true := beq_iff_eq.mpr c29
                  have c29b1 : (t610 != t617) = false := bne_eq_false_iff_eq.mpr c29
                  clear c29
                  have H' := Aside0.mk H
                  clear H
                  obtain ⟨Ao30, co30, eo30⟩ := Kd.V_slice HO_9.out
                  subst eo30
                  obtain ⟨Ao31, co31, eo31⟩ := Kd.V_slice HO_10.out
                  subst eo31
                  go_wp2_with (first | ((with_reducible refine gate_callee (f := 16) rfl ?_); refine goesL_ (some 72) rfl rfl Try.func16 (by kernel_rfl) rfl #[.slice Ao30 x9_2.length co30, .int .i64 a1, .slice Ao31 x10_2.length co31] rfl (by (try simp only [List.map_toArray, List.map_cons, List.map_nil]); first | done | rfl) ?_; (with_reducible refine (after_Do.calls k2 (fun k_ => ((P0_ k_ ∨ P2_ k_) ∨ w.heap.size ≤ k_)) _ _ x9_2 a1 (fun k_ => ((P0_ k_ ∨ P2_ k_) ∨ w.heap.size ≤ k_)) _ _ x10_2 t611 t614 t617 _ ?side1 ?side2 A28.out).mono ?_); (case side1 => exact HO_9.out); (case side2 => exact HO_10.out); rintro e w32 ⟨v612, v615, rfl, ho0, ho1, hb⟩; refine ⟨_, rfl, ?_⟩; have n0_ := Aside0.mk (Kd.V_below (by (with_reducible repeat (first | apply Kd.V_alloc | apply Kd.V_drewN | apply Kd.V_drew)); exact HO_0.out) hb); have n1_ := Aside0.mk (Kd.V_below (by (with_reducible repeat (first | apply Kd.V_alloc | apply Kd.V_drewN | apply Kd.V_drew)); exact HO_2.out) hb); have n2_ := Aside0.mk (Kd.V_below (by (with_reducible repeat (first | apply Kd.V_alloc | apply Kd.V_drewN | apply Kd.V_drew)); exact HO_9.out) hb); have n3_ := Aside0.mk (Kd.V_below (by (with_reducible repeat (first | apply Kd.V_alloc | apply Kd.V_drewN | apply Kd.V_drew)); exact HO_10.out) hb); have n4_ := Aside0.mk (Kd.V_below (by (with_reducible repeat (first | apply Kd.V_alloc | apply Kd.V_drewN | apply Kd.V_drew)); exact HO_11.out) hb); have n5_ := Aside0.mk (Kd.V_below (by (with_reducible repeat (first | apply Kd.V_alloc | apply Kd.V_drewN | apply Kd.V_drew)); exact HO_12.out) hb); have n6_ := Aside0.mk (Kd.V_below (by (with_reducible repeat (first | apply Kd.V_alloc | apply Kd.V_drewN | apply Kd.V_drew)); exact HO606.out) hb); have n7_ := Aside0.mk (Kd.V_below (by (with_reducible repeat (first | apply Kd.V_alloc | apply Kd.V_drewN | apply Kd.V_drew)); exact HO609.out) hb); have n8_ := Aside0.mk (Kd.V_lower (Kd.V_mono (ok' := fun k_ => ((P0_ k_ ∨ P2_ k_) ∨ w.heap.size ≤ k_)) ho0 (fun k_ hk_ => Or.elim hk_ (fun hs_ => Or.elim hs_ (fun hs_ => hs_) (fun hs_ => hs_)) (fun hn_ => (.inr (Nat.le_trans bsz_ hn_))))) bsz_); have n9_ := Aside0.mk (Kd.V_lower (Kd.V_mono (ok' := fun k_ => ((P0_ k_ ∨ P2_ k_) ∨ w.heap.size ≤ k_)) ho1 (fun k_ hk_ => Or.elim hk_ (fun hs_ => Or.elim hs_ (fun hs_ => hs_) (fun hs_ => hs_)) (fun hn_ => (.inr (Nat.le_trans bsz_ hn_))))) bsz_); have n10_ := Aside0.mk (bst_ hb); clear HO_0; clear HO_2; clear HO_9; clear HO_10; clear HO_11; clear HO_12; clear HO606; clear HO609; clear HB; have HO_0 := n0_; have HO_2 := n1_; have HO_9 := n2_; have HO_10 := n3_; have HO_11 := n4_; have HO_12 := n5_; have HO606 := n6_; have HO609 := n7_; have HO613 := n8_; have HO616 := n9_; have HB := n10_; clear n0_ n1_ n2_ n3_ n4_ n5_ n6_ n7_ n8_ n9_ n10_; (try clear hb); (try clear hb2); (try clear hk); (try clear hi); (try clear ho0); (try clear ho1)))
                  go_meet
                  case rel => exact ⟨_, (t611), (t614), H', ⟨by have := HJ4.out; have := HK2.out; first | omega | exact Nat.le_refl _⟩, ⟨by (with_reducible repeat (first | apply Kd.V_alloc | apply Kd.V_drewN | apply Kd.V_drew)); exact HO_0.out⟩, ⟨by (with_reducible repeat (first | apply Kd.V_alloc | apply Kd.V_drewN | apply Kd.V_drew)); exact HO_2.out⟩, ⟨by (with_reducible repeat (first | apply Kd.V_alloc | apply Kd.V_drewN | apply Kd.V_drew)); exact HO613.out⟩, ⟨by (with_reducible repeat (first | apply Kd.V_alloc | apply Kd.V_drewN | apply Kd.V_drew)); exact HO616.out⟩, ⟨by (with_reducible repeat (first | apply Kd.V_alloc | apply Kd.V_drewN | apply Kd.V_drew)); exact HO606.out⟩, ⟨by (with_reducible repeat (first | apply Kd.V_alloc | apply Kd.V_drewN | apply Kd.V_drew)); exact HO609.out⟩, ⟨by repeat (with_reducible first | exact HB.out | apply below_alloc | apply pw_below_drewN | apply below_drew1)⟩⟩
                · rw [if_neg c29] at H
                  have c29b0 : (t610 == t617) = false := beq_eq_false_iff_ne.mpr c29
                  have c29b1 : (t610 != t617) = true := bne_iff_ne.mpr c29
                  exact absurd (Option.some.inj H) (by rw [HT.out]; decide)
              · rw [if_neg c27] at H
                have c27b0 : ((rd l3 x51_2) == a1) = false := beq_eq_false_iff_ne.mpr c27
                have c27b1 : ((rd l3 x51_2) != a1) = true := bne_iff_ne.mpr c27
                (first | rw [c27b0] | (simp only [i64_w, i32_w]; rw [c27b0]) | skip)
                have H' := Aside0.mk H
                clear H
                go_wp2
                go_meet
                case rel => exact ⟨_, (x9_2), (x10_2), H', ⟨by have := HJ4.out; have := HK2.out; first | omega | exact Nat.le_refl _⟩, ⟨by (with_reducible repeat (first | apply Kd.V_alloc | apply Kd.V_drewN | apply Kd.V_drew)); exact HO_0.out⟩, ⟨by (with_reducible repeat (first | apply Kd.V_alloc | apply Kd.V_drewN | apply Kd.V_drew)); exact HO_2.out⟩, ⟨by (with_reducible repeat (first | apply Kd.V_alloc | apply Kd.V_drewN | apply Kd.V_drew)); exact HO_9.out⟩, ⟨by (with_reducible repeat (first | apply Kd.V_alloc | apply Kd.V_drewN | apply Kd.V_drew)); exact HO_10.out⟩, ⟨by (with_reducible repeat (first | apply Kd.V_alloc | apply Kd.V_drewN | apply Kd.V_drew)); exact HO606.out⟩, ⟨by (with_reducible repeat (first | apply Kd.V_alloc | apply Kd.V_drewN | apply Kd.V_drew)); exact HO609.out⟩, ⟨by repeat (with_reducible first | exact HB.out | apply below_alloc | apply pw_below_drewN | apply below_drew1)⟩⟩
             case rest =>
              clear HC23
              try clear c1
              try clear c2
              try clear p2
              try clear c3
              try clear p6
              try clear q6
              try clear hx6
              try clear c7
              try clear c8
              try clear c8b0
              try clear c8b1
              try clear c10
              try clear c10b0
              try clear c10b1
              try clear c11
              try clear c12
              try clear c16
              try clear c19
              try clear c19b0
              try clear c20
              try clear c20b0
              try clear c21
              try clear c21b0
              try clear c27
              try clear c27b0
              try clear c27b1
              try clear c29
              try clear c29b0
              try clear c29b1
              try clear hx603_0
              try clear p2
              try clear p603
              try clear q603
              obtain ⟨kq, x9_22, x10_22, HA, HJ22, HO_0, HO_2, HO_9, HO_10, HO_11, HO_12, HB⟩ := hcut
              cases kq with
              | zero => exact absurd HA.out (by simp [handshakerlaw22_AfterOwn.j2])
              | succ kj22 =>
               have H := HA.out
               clear HA
               simp only [handshakerlaw22_AfterOwn.j2] at H
               have H' := Aside0.mk H
               clear H
               go_wp2
               go_loopg [83] kj22 (fun kq v83 w' => ∃ (x83_4 : Int), v83 = .int .i64 x83_4 ∧ Aside0 (handshakerlaw22_AfterOwn.l1 kq l0 a1 l2 x9_22 x10_22 t604 t607 l3 (l3.length : Int) x51_2 (l2.length : Int) x83_4 = some r) ∧ Aside0 (kq ≤ kj22) ∧ Aside0 (Kd.V k25 25 w' w.heap.size (fun k_ => ((P0_ k_ ∨ P2_ k_) ∨ w.heap.size ≤ k_)) (.slice A0 l0.length c0) l0) ∧ Aside0 (Kd.V k66 66 w' w.heap.size (fun k_ => ((P0_ k_ ∨ P2_ k_) ∨ w.heap.size ≤ k_)) (.slice A2 l2.length c2) l2) ∧ Aside0 (Kd.V k25 25 w' w.heap.size (fun k_ => ((P0_ k_ ∨ P2_ k_) ∨ w.heap.size ≤ k_)) u9 x9_22) ∧ Aside0 (Kd.V k66 66 w' w.heap.size (fun k_ => ((P0_ k_ ∨ P2_ k_) ∨ w.heap.size ≤ k_)) u10 x10_22) ∧ Aside0 (Kd.V k25 25 w' w.heap.size (fun k_ => ((P0_ k_ ∨ P2_ k_) ∨ w.heap.size ≤ k_)) v605 t604) ∧ Aside0 (Kd.V k66 66 w' w.heap.size (fun k_ => ((P0_ k_ ∨ P2_ k_) ∨ w.heap.size ≤ k_)) v608 t607) ∧ Aside0 (Below w.heap.size w w'))
               case atStart => exact ⟨(0), (by first | rfl | (simp; done) | (simp [*]; done)), H', ⟨Nat.le_refl _⟩, ⟨by (with_reducible repeat (first | apply Kd.V_alloc | apply Kd.V_drewN | apply Kd.V_drew)); exact HO_0.out⟩, ⟨by (with_reducible repeat (first | apply Kd.V_alloc | apply Kd.V_drewN | apply Kd.V_drew)); exact HO_2.out⟩, ⟨by (with_reducible repeat (first | apply Kd.V_alloc | apply Kd.V_drewN | apply Kd.V_drew)); exact HO_9.out⟩, ⟨by (with_reducible repeat (first | apply Kd.V_alloc | apply Kd.V_drewN | apply Kd.V_drew)); exact HO_10.out⟩, ⟨by (with_reducible repeat (first | apply Kd.V_alloc | apply Kd.V_drewN | apply Kd.V_drew)); exact HO_11.out⟩, ⟨by (with_reducible repeat (first | apply Kd.V_alloc | apply Kd.V_drewN | apply Kd.V_drew)); exact HO_12.out⟩, ⟨by repeat (with_reducible first | exact HB.out | apply below_alloc | apply pw_below_drewN | apply below_drew1)⟩⟩
               case round =>
                clear H'
                try clear c1
                try clear c2
                try clear p2
                try clear c3
                try clear p6
                try clear q6
                try clear hx6
                try clear c7
                try clear c8
                try clear c8b0
                try clear c8b1
                try clear c10
                try clear c10b0
                try clear c10b1
                try clear c11
                try clear c12
                try clear c16
                try clear c19
                try clear c19b0
                try clear c20
                try clear c20b0
                try clear c21
                try clear c21b0
                try clear c27
                try clear c27b0
                try clear c27b1
                try clear c29
                try clear c29b0
                try clear c29b1
                try clear hx603_0
                try clear p2
                try clear p6
                try clear p603
                try clear q6
                try clear q603
                obtain ⟨x83_4, rfl, HA, HK4, HO_0, HO_2, HO_9, HO_10, HO_11, HO_12, HB⟩ := hrel
                cases gk with
                | zero => exact absurd HA.out (by simp [handshakerlaw22_AfterOwn.l1])
                | succ k4 =>
                 have H := HA.out
                 clear HA
                 simp only [handshakerlaw22_AfterOwn.l1] at H
                 by_cases c33 : x83_4 < (l2.length : Int)
                 · rw [if_pos c33] at H
                   have c33b0 : decide (x83_4 < (l2.length : Int)) = true := decide_eq_true c33
                   clear c33
                   have HC34 := Aside0.mk H
                   clear H
                   go_upto_region 18 with (fail)
                   go_cut [94] (fun v94 wc => ∃ (kq : Nat) (x94_33 : Bool), v94 = .bool x94_33 ∧ Aside0 (handshakerlaw22_AfterOwn.j4 kq l0 a1 l2 x9_22 x10_22 t604 t607 x83_4 l3 (l3.length : Int) x51_2 (l2.length : Int) x83_4 x94_33 = some r) ∧ Aside0 (kq ≤ k4) ∧ Aside0 (Kd.V k25 25 wc w.heap.size (fun k_ => ((P0_ k_ ∨ P2_ k_) ∨ w.heap.size ≤ k_)) (.slice A0 l0.length c0) l0) ∧ Aside0 (Kd.V k66 66 wc w.heap.size (fun k_ => ((P0_ k_ ∨ P2_ k_) ∨ w.heap.size ≤ k_)) (.slice A2 l2.length c2) l2) ∧ Aside0 (Kd.V k25 25 wc w.heap.size (fun k_ => ((P0_ k_ ∨ P2_ k_) ∨ w.heap.size ≤ k_)) u9 x9_22) ∧ Aside0 (Kd.V k66 66 wc w.heap.size (fun k_ => ((P0_ k_ ∨ P2_ k_) ∨ w.heap.size ≤ k_)) u10 x10_22) ∧ Aside0 (Kd.V k25 25 wc w.heap.size (fun k_ => ((P0_ k_ ∨ P2_ k_) ∨ w.heap.size ≤ k_)) v605 t604) ∧ Aside0 (Kd.V k66 66 wc w.heap.size (fun k_ => ((P0_ k_ ∨ P2_ k_) ∨ w.heap.size ≤ k_)) v608 t607) ∧ Aside0 (Below w.heap.size w wc))
                   case first =>
                    have H := HC34.out
                    clear HC34
                    replace H := Option.bind_eq_some_iff.mp H
                    obtain ⟨t618, A350, H⟩ := H
                    replace H : (if t618 = a1 then (handshakerlaw22_AfterOwn.j4 k4 l0 a1 l2 x9_22 x10_22 t604 t607 x83_4 l3 (l3.length : Int) x51_2 (l2.length : Int) x83_4 (a1 == 0)) else (handshakerlaw22_AfterOwn.j4 k4 l0 a1 l2 x9_22 x10_22 t604 t607 x83_4 l3 (l3.length : Int) x51_2 (l2.length : Int) x83_4 true)) = some r := H
                    have A35 := Aside0.mk A350
                    clear A350
                    by_cases c36 : t618 = a1
                    · rw [if_pos c36] at H
                      have c36b0 : (t618 == a1) = true := beq_iff_eq.mpr c36
                      have c36b1 : (t618 != a1) = false := bne_eq_false_iff_eq.mpr c36
                      clear c36
                      (first | rw [c36b0] | (simp only [i64_w, i32_w]; rw [c36b0]) | skip)
                      have H' := Aside0.mk H
                      clear H
                      go_wp2_with (first | ((with_reducible refine gate_callee (f := 24) rfl ?_); refine goesL_ (some 88) rfl rfl Try.func24 (by kernel_rfl) rfl #[.slice A0 l0.length c0, .int .i64 x83_4] rfl (by (try simp only [List.map_toArray, List.map_cons, List.map_nil]); first | done | rfl) ?_; (with_reducible refine (after_Holder.calls k4 _ _ l0 x83_4 t618 _ ?side1 ?side2 A35.out).mono ?_); (case side1 => repeat (first | exact (Kd.V_reads' HO_0.out).2.2 | with_reducible first | refine Kd.C_alloc ?_ _ | refine Kd.C_drewN ?_ _ | refine Kd.C_drew ?_)); (case side2 => exact (Kd.V_reads' HO_0.out).2.1); rintro e w37 ⟨rfl, hb⟩; refine ⟨_, rfl, ?_⟩; have n0_ := Aside0.mk (Kd.V_below (by (with_reducible repeat (first | apply Kd.V_alloc | apply Kd.V_drewN | apply Kd.V_drew)); exact HO_0.out) hb); have n1_ := Aside0.mk (Kd.V_below (by (with_reducible repeat (first | apply Kd.V_alloc | apply Kd.V_drewN | apply Kd.V_drew)); exact HO_2.out) hb); have n2_ := Aside0.mk (Kd.V_below (by (with_reducible repeat (first | apply Kd.V_alloc | apply Kd.V_drewN | apply Kd.V_drew)); exact HO_9.out) hb); have n3_ := Aside0.mk (Kd.V_below (by (with_reducible repeat (first | apply Kd.V_alloc | apply Kd.V_drewN | apply Kd.V_drew)); exact HO_10.out) hb); have n4_ := Aside0.mk (Kd.V_below (by (with_reducible repeat (first | apply Kd.V_alloc | apply Kd.V_drewN | apply Kd.V_drew)); exact HO_11.out) hb); have n5_ := Aside0.mk (Kd.V_below (by (with_reducible repeat (first | apply Kd.V_alloc | apply Kd.V_drewN | apply Kd.V_drew)); exact HO_12.out) hb); have n6_ := Aside0.mk (bst_ hb); clear HO_0; clear HO_2; clear HO_9; clear HO_10; clear HO_11; clear HO_12; clear HB; have HO_0 := n0_; have HO_2 := n1_; have HO_9 := n2_; have HO_10 := n3_; have HO_11 := n4_; have HO_12 := n5_; have HB := n6_; clear n0_ n1_ n2_ n3_ n4_ n5_ n6_; (try clear hb); (try clear hb2); (try clear hk); (try clear hi)))
                      go_meet
                      case rel => exact ⟨_, ((a1 == 0)), (by first | rfl | (simp; done) | (simp [*]; done)), H', ⟨by have := HJ4.out; have := HK2.out; have := HJ22.out; have := HK4.out; first | omega | exact Nat.le_refl _⟩, ⟨by (with_reducible repeat (first | apply Kd.V_alloc | apply Kd.V_drewN | apply Kd.V_drew)); exact HO_0.out⟩, ⟨by (with_reducible repeat (first | apply Kd.V_alloc | apply Kd.V_drewN | apply Kd.V_drew)); exact HO_2.out⟩, ⟨by (with_reducible repeat (first | apply Kd.V_alloc | apply Kd.V_drewN | apply Kd.V_drew)); exact HO_9.out⟩, ⟨by (with_reducible repeat (first | apply Kd.V_alloc | apply Kd.V_drewN | apply Kd.V_drew)); exact HO_10.out⟩, ⟨by (with_reducible repeat (first | apply Kd.V_alloc | apply Kd.V_drewN | apply Kd.V_drew)); exact HO_11.out⟩, ⟨by (with_reducible repeat (first | apply Kd.V_alloc | apply Kd.V_drewN | apply Kd.V_drew)); exact HO_12.out⟩, ⟨by repeat (with_reducible first | exact HB.out | apply below_alloc | apply pw_below_drewN | apply below_drew1)⟩⟩
                    · rw [if_neg c36] at H
                      have c36b0 : (t618 == a1) = false := beq_eq_false_iff_ne.mpr c36
                      have c36b1 : (t618 != a1) = true := bne_iff_ne.mpr c36
                      (first | rw [c36b0] | (simp only [i64_w, i32_w]; rw [c36b0]) | skip)
                      have H' := Aside0.mk H
                      clear H
                      go_wp2_with (first | ((with_reducible refine gate_callee (f := 24) rfl ?_); refine goesL_ (some 88) rfl rfl Try.func24 (by kernel_rfl) rfl #[.slice A0 l0.length c0, .int .i64 x83_4] rfl (by (try simp only [List.map_toArray, List.map_cons, List.map_nil]); first | done | rfl) ?_; (with_reducible refine (after_Holder.calls k4 _ _ l0 x83_4 t618 _ ?side1 ?side2 A35.out).mono ?_); (case side1 => repeat (first | exact (Kd.V_reads' HO_0.out).2.2 | with_reducible first | refine Kd.C_alloc ?_ _ | refine Kd.C_drewN ?_ _ | refine Kd.C_drew ?_)); (case side2 => exact (Kd.V_reads' HO_0.out).2.1); rintro e w38 ⟨rfl, hb⟩; refine ⟨_, rfl, ?_⟩; have n0_ := Aside0.mk (Kd.V_below (by (with_reducible repeat (first | apply Kd.V_alloc | apply Kd.V_drewN | apply Kd.V_drew)); exact HO_0.out) hb); have n1_ := Aside0.mk (Kd.V_below (by (with_reducible repeat (first | apply Kd.V_alloc | apply Kd.V_drewN | apply Kd.V_drew)); exact HO_2.out) hb); have n2_ := Aside0.mk (Kd.V_below (by (with_reducible repeat (first | apply Kd.V_alloc | apply Kd.V_drewN | apply Kd.V_drew)); exact HO_9.out) hb); have n3_ := Aside0.mk (Kd.V_below (by (with_reducible repeat (first | apply Kd.V_alloc | apply Kd.V_drewN | apply Kd.V_drew)); exact HO_10.out) hb); have n4_ := Aside0.mk (Kd.V_below (by (with_reducible repeat (first | apply Kd.V_alloc | apply Kd.V_drewN | apply Kd.V_drew)); exact HO_11.out) hb); have n5_ := Aside0.mk (Kd.V_below (by (with_reducible repeat (first | apply Kd.V_alloc | apply Kd.V_drewN | apply Kd.V_drew)); exact HO_12.out) hb); have n6_ := Aside0.mk (bst_ hb); clear HO_0; clear HO_2; clear HO_9; clear HO_10; clear HO_11; clear HO_12; clear HB; have HO_0 := n0_; have HO_2 := n1_; have HO_9 := n2_; have HO_10 := n3_; have HO_11 := n4_; have HO_12 := n5_; have HB := n6_; clear n0_ n1_ n2_ n3_ n4_ n5_ n6_; (try clear hb); (try clear hb2); (try clear hk); (try clear hi)))
                      go_meet
                      case rel => exact ⟨_, (true), (by first | rfl | (simp; done) | (simp [*]; done)), H', ⟨by have := HJ4.out; have := HK2.out; have := HJ22.out; have := HK4.out; first | omega | exact Nat.le_refl _⟩, ⟨by (with_reducible repeat (first | apply Kd.V_alloc | apply Kd.V_drewN | apply Kd.V_drew)); exact HO_0.out⟩, ⟨by (with_reducible repeat (first | apply Kd.V_alloc | apply Kd.V_drewN | apply Kd.V_drew)); exact HO_2.out⟩, ⟨by (with_reducible repeat (first | apply Kd.V_alloc | apply Kd.V_drewN | apply Kd.V_drew)); exact HO_9.out⟩, ⟨by (with_reducible repeat (first | apply Kd.V_alloc | apply Kd.V_drewN | apply Kd.V_drew)); exact HO_10.out⟩, ⟨by (with_reducible repeat (first | apply Kd.V_alloc | apply Kd.V_drewN | apply Kd.V_drew)); exact HO_11.out⟩, ⟨by (with_reducible repeat (first | apply Kd.V_alloc | apply Kd.V_drewN | apply Kd.V_drew)); exact HO_12.out⟩, ⟨by repeat (with_reducible first | exact HB.out | apply below_alloc | apply pw_below_drewN | apply below_drew1)⟩⟩
                   case rest =>
                    clear HC34
                    try clear c1
                    try clear c2
                    try clear p2
                    try clear c3
                    try clear p6
                    try clear q6
                    try clear hx6
                    try clear c7
                    try clear c8
                    try clear c8b0
                    try clear c8b1
                    try clear c10
                    try clear c10b0
                    try clear c10b1
                    try clear c11
                    try clear c12
                    try clear c16
                    try clear c19
                    try clear c19b0
                    try clear c20
                    try clear c20b0
                    try clear c21
                    try clear c21b0
                    try clear c24
                    try clear c27
                    try clear c27b0
                    try clear c27b1
                    try clear c29
                    try clear c29b0
                    try clear c29b1
                    try clear c33
                    try clear c33b0
                    try clear c36
                    try clear c36b0
                    try clear c36b1
                    try clear hx603_0
                    try clear p2
                    try clear p6
                    try clear p603
                    try clear q6
                    try clear q603
                    obtain ⟨kq, x94_33, rfl, HA, HJ33, HO_0, HO_2, HO_9, HO_10, HO_11, HO_12, HB⟩ := hcut
                    cases kq with
                    | zero => exact absurd HA.out (by simp [handshakerlaw22_AfterOwn.j4])
                    | succ kj33 =>
                     have H := HA.out
                     clear HA
                     simp only [handshakerlaw22_AfterOwn.j4] at H
                     by_cases c39 : x94_33 = true
                     · subst c39
                       have H1 : (handshakerlaw22_AfterOwn.l1 kj33 l0 a1 l2 x9_22 x10_22 t604 t607 l3 (l3.length : Int) x51_2 (l2.length : Int) (wrap64 (x83_4 + 1))) = some r := by rw [if_pos rfl] at H; exact H
                       clear H
                       have H := H1
                       clear H1
                       have H' := Aside0.mk H
                       clear H
                       go_wp2
                       go_roundg kj33
                       case measure => have := HJ4.out; have := HK2.out; have := HJ22.out; have := HK4.out; have := HJ33.out; omega
                       case rel => exact ⟨(wrap64 (x83_4 + 1)), (by first | rfl | (simp; done) | (simp [*]; done)), H', ⟨by have := HJ4.out; have := HK2.out; have := HJ22.out; have := HK4.out; have := HJ33.out; omega⟩, ⟨by (with_reducible repeat (first | apply Kd.V_alloc | apply Kd.V_drewN | apply Kd.V_drew)); exact HO_0.out⟩, ⟨by (with_reducible repeat (first | apply Kd.V_alloc | apply Kd.V_drewN | apply Kd.V_drew)); exact HO_2.out⟩, ⟨by (with_reducible repeat (first | apply Kd.V_alloc | apply Kd.V_drewN | apply Kd.V_drew)); exact HO_9.out⟩, ⟨by (with_reducible repeat (first | apply Kd.V_alloc | apply Kd.V_drewN | apply Kd.V_drew)); exact HO_10.out⟩, ⟨by (with_reducible repeat (first | apply Kd.V_alloc | apply Kd.V_drewN | apply Kd.V_drew)); exact HO_11.out⟩, ⟨by (with_reducible repeat (first | apply Kd.V_alloc | apply Kd.V_drewN | apply Kd.V_drew)); exact HO_12.out⟩, ⟨by repeat (with_reducible first | exact HB.out | apply below_alloc | apply pw_below_drewN | apply below_drew1)⟩⟩
                     · replace c39 := Bool.eq_false_iff.mpr c39
                       subst c39
                       have H1 : ((after_See.f kj33 t604 a1 t607 x83_4).bind fun bt619 => ((heap_Get.f x10_22 x83_4).bind fun bt621 => (if bt619.1 = bt621.1 then (if bt619.2 = bt621.2 then (handshakerlaw22_AfterOwn.l1 kj33 l0 a1 l2 x9_22 x10_22 t604 t607 l3 (l3.length : Int) x51_2 (l2.length : Int) (wrap64 (x83_4 + 1))) else (some false)) else (some false)))) = some r := by rw [if_neg (show ¬ (false = true) by decide)] at H; exact H
                       clear H
                       have H := H1
                       clear H1
                       replace H := Option.bind_eq_some_iff.mp H
                       obtain ⟨⟨t619, t620⟩, A400, H⟩ := H
                       replace H : ((heap_Get.f x10_22 x83_4).bind fun bt621 => (if t619 = bt621.1 then (if t620 = bt621.2 then (handshakerlaw22_AfterOwn.l1 kj33 l0 a1 l2 x9_22 x10_22 t604 t607 l3 (l3.length : Int) x51_2 (l2.length : Int) (wrap64 (x83_4 + 1))) else (some false)) else (some false))) = some r := H
                       have A40 := Aside0.mk A400
                       clear A400
                       replace H := Option.bind_eq_some_iff.mp H
                       obtain ⟨⟨t621, t622⟩, A410, H⟩ := H
                       replace H : (if t619 = t621 then (if t620 = t622 then (handshakerlaw22_AfterOwn.l1 kj33 l0 a1 l2 x9_22 x10_22 t604 t607 l3 (l3.length : Int) x51_2 (l2.length : Int) (wrap64 (x83_4 + 1))) else (some false)) else (some false)) = some r := H
                       have A41 := Aside0.mk A410
                       clear A410
                       by_cases c42 : t619 = t621
                       · rw [if_pos c42] at H
                         have c42b0 : (t619 == t621) = true := beq_iff_eq.mpr c42
                         have c42b1 : (t619 != t621) = false := bne_eq_false_iff_eq.mpr c42
                         clear c42
                         by_cases c43 : t620 = t622
                         · rw [if_pos c43] at H
                           have c43b0 : (t620 == t622) = true := beq_iff_eq.mpr c43
                           have c43b1 : (t620 != t622) = false := bne_eq_false_iff_eq.mpr c43
                           clear c43
                           have H' := Aside0.mk H
                           clear H
                           obtain ⟨Ao44, co44, eo44⟩ := Kd.V_slice HO_11.out
                           subst eo44
                           obtain ⟨Ao45, co45, eo45⟩ := Kd.V_slice HO_12.out
                           subst eo45
                           go_wp2_with (first | ((with_reducible refine gate_callee (f := 20) rfl ?_); refine goesL_ (some 100) rfl rfl Try.func20 (by kernel_rfl) rfl #[.slice Ao44 t604.length co44, .int .i64 a1, .slice Ao45 t607.length co45, .int .i64 x83_4] rfl (by (try simp only [List.map_toArray, List.map_cons, List.map_nil]); first | done | rfl) ?_; (with_reducible refine (after_See.calls kj33 _ _ t604 a1 _ _ t607 x83_4 t619 t620 _ ?side1 ?side2 ?side3 ?side4 A40.out).mono ?_); (case side1 => repeat (first | exact (Kd.V_reads' HO_11.out).2.2 | with_reducible first | refine Kd.C_alloc ?_ _ | refine Kd.C_drewN ?_ _ | refine Kd.C_drew ?_)); (case side2 => exact (Kd.V_reads' HO_11.out).2.1); (case side3 => repeat (first | exact (Kd.V_reads' HO_12.out).2.2 | with_reducible first | refine Kd.C_alloc ?_ _ | refine Kd.C_drewN ?_ _ | refine Kd.C_drew ?_)); (case side4 => exact (Kd.V_reads' HO_12.out).2.1); rintro e w46 ⟨rfl, hb⟩; refine ⟨_, rfl, ?_⟩; have n0_ := Aside0.mk (Kd.V_below (by (with_reducible repeat (first | apply Kd.V_alloc | apply Kd.V_drewN | apply Kd.V_drew)); exact HO_0.out) hb); have n1_ := Aside0.mk (Kd.V_below (by (with_reducible repeat (first | apply Kd.V_alloc | apply Kd.V_drewN | apply Kd.V_drew)); exact HO_2.out) hb); have n2_ := Aside0.mk (Kd.V_below (by (with_reducible repeat (first | apply Kd.V_alloc | apply Kd.V_drewN | apply Kd.V_drew)); exact HO_9.out) hb); have n3_ := Aside0.mk (Kd.V_below (by (with_reducible repeat (first | apply Kd.V_alloc | apply Kd.V_drewN | apply Kd.V_drew)); exact HO_10.out) hb); have n4_ := Aside0.mk (Kd.V_below (by (with_reducible repeat (first | apply Kd.V_alloc | apply Kd.V_drewN | apply Kd.V_drew)); exact HO_11.out) hb); have n5_ := Aside0.mk (Kd.V_below (by (with_reducible repeat (first | apply Kd.V_alloc | apply Kd.V_drewN | apply Kd.V_drew)); exact HO_12.out) hb); have n6_ := Aside0.mk (bst_ hb); clear HO_0; clear HO_2; clear HO_9; clear HO_10; clear HO_11; clear HO_12; clear HB; have HO_0 := n0_; have HO_2 := n1_; have HO_9 := n2_; have HO_10 := n3_; have HO_11 := n4_; have HO_12 := n5_; have HB := n6_; clear n0_ n1_ n2_ n3_ n4_ n5_ n6_; (try clear hb); (try clear hb2); (try clear hk); (try clear hi); obtain ⟨Ao47, co47, eo47⟩ := Kd.V_slice HO_10.out; subst eo47) | ((with_reducible refine gate_callee (f := 28) rfl ?_); refine goesL_ (some 106) rfl rfl Try.func28 (by kernel_rfl) rfl #[.slice Ao47 x10_22.length co47, .int .i64 x83_4] rfl (by (try simp only [List.map_toArray, List.map_cons, List.map_nil]); first | done | rfl) ?_; (with_reducible refine (heap_Get.calls _ _ x10_22 x83_4 t621 t622 _ ?side1 ?side2 A41.out).mono ?_); (case side1 => repeat (first | exact (Kd.V_reads' HO_10.out).2.2 | with_reducible first | refine Kd.C_alloc ?_ _ | refine Kd.C_drewN ?_ _ | refine Kd.C_drew ?_)); (case side2 => exact (Kd.V_reads' HO_10.out).2.1); rintro e w48 ⟨rfl, hb⟩; refine ⟨_, rfl, ?_⟩; have n0_ := Aside0.mk (Kd.V_below (by (with_reducible repeat (first | apply Kd.V_alloc | apply Kd.V_drewN | apply Kd.V_drew)); exact HO_0.out) hb); have n1_ := Aside0.mk (Kd.V_below (by (with_reducible repeat (first | apply Kd.V_alloc | apply Kd.V_drewN | apply Kd.V_drew)); exact HO_2.out) hb); have n2_ := Aside0.mk (Kd.V_below (by (with_reducible repeat (first | apply Kd.V_alloc | apply Kd.V_drewN | apply Kd.V_drew)); exact HO_9.out) hb); have n3_ := Aside0.mk (Kd.V_below (by (with_reducible repeat (first | apply Kd.V_alloc | apply Kd.V_drewN | apply Kd.V_drew)); exact HO_10.out) hb); have n4_ := Aside0.mk (Kd.V_below (by (with_reducible repeat (first | apply Kd.V_alloc | apply Kd.V_drewN | apply Kd.V_drew)); exact HO_11.out) hb); have n5_ := Aside0.mk (Kd.V_below (by (with_reducible repeat (first | apply Kd.V_alloc | apply Kd.V_drewN | apply Kd.V_drew)); exact HO_12.out) hb); have n6_ := Aside0.mk (bst_ hb); clear HO_0; clear HO_2; clear HO_9; clear HO_10; clear HO_11; clear HO_12; clear HB; have HO_0 := n0_; have HO_2 := n1_; have HO_9 := n2_; have HO_10 := n3_; have HO_11 := n4_; have HO_12 := n5_; have HB := n6_; clear n0_ n1_ n2_ n3_ n4_ n5_ n6_; (try clear hb); (try clear hb2); (try clear hk); (try clear hi)))
                           go_roundg kj33
                           case measure => have := HJ4.out; have := HK2.out; have := HJ22.out; have := HK4.out; have := HJ33.out; omega
                           case rel => exact ⟨(wrap64 (x83_4 + 1)), (by first | rfl | (simp; done) | (simp [*]; done)), H', ⟨by have := HJ4.out; have := HK2.out; have := HJ22.out; have := HK4.out; have := HJ33.out; omega⟩, ⟨by (with_reducible repeat (first | apply Kd.V_alloc | apply Kd.V_drewN | apply Kd.V_drew)); exact HO_0.out⟩, ⟨by (with_reducible repeat (first | apply Kd.V_alloc | apply Kd.V_drewN | apply Kd.V_drew)); exact HO_2.out⟩, ⟨by (with_reducible repeat (first | apply Kd.V_alloc | apply Kd.V_drewN | apply Kd.V_drew)); exact HO_9.out⟩, ⟨by (with_reducible repeat (first | apply Kd.V_alloc | apply Kd.V_drewN | apply Kd.V_drew)); exact HO_10.out⟩, ⟨by (with_reducible repeat (first | apply Kd.V_alloc | apply Kd.V_drewN | apply Kd.V_drew)); exact HO_11.out⟩, ⟨by (with_reducible repeat (first | apply Kd.V_alloc | apply Kd.V_drewN | apply Kd.V_drew)); exact HO_12.out⟩, ⟨by repeat (with_reducible first | exact HB.out | apply below_alloc | apply pw_below_drewN | apply below_drew1)⟩⟩
                         · rw [if_neg c43] at H
                           have c43b0 : (t620 == t622) = false := beq_eq_false_iff_ne.mpr c43
                           have c43b1 : (t620 != t622) = true := bne_iff_ne.mpr c43
                           exact absurd (Option.some.inj H) (by rw [HT.out]; decide)
                       · rw [if_neg c42] at H
                         have c42b0 : (t619 == t621) = false := beq_eq_false_iff_ne.mpr c42
                         have c42b1 : (t619 != t621) = true := bne_iff_ne.mpr c42
                         exact absurd (Option.some.inj H) (by rw [HT.out]; decide)
                 · rw [if_neg c33] at H
                   have c33b0 : decide (x83_4 < (l2.length : Int)) = false := decide_eq_false c33
                   clear c33
                   have H' := Aside0.mk H
                   clear H
                   go_wp2
                   go_roundg k4
                   case measure => have := HJ4.out; have := HK2.out; have := HJ22.out; have := HK4.out; omega
                   case rel => exact ⟨(x9_22), (x10_22), (t604), (t607), (wrap64 (x51_2 + 1)), (by first | rfl | (simp; done) | (simp [*]; done)), H', ⟨by have := HJ4.out; have := HK2.out; have := HJ22.out; have := HK4.out; omega⟩, ⟨by (with_reducible repeat (first | apply Kd.V_alloc | apply Kd.V_drewN | apply Kd.V_drew)); exact HO_0.out⟩, ⟨by (with_reducible repeat (first | apply Kd.V_alloc | apply Kd.V_drewN | apply Kd.V_drew)); exact HO_2.out⟩, ⟨by (with_reducible repeat (first | apply Kd.V_alloc | apply Kd.V_drewN | apply Kd.V_drew)); exact HO_9.out⟩, ⟨by (with_reducible repeat (first | apply Kd.V_alloc | apply Kd.V_drewN | apply Kd.V_drew)); exact HO_10.out⟩, ⟨by (with_reducible repeat (first | apply Kd.V_alloc | apply Kd.V_drewN | apply Kd.V_drew)); exact HO_11.out⟩, ⟨by (with_reducible repeat (first | apply Kd.V_alloc | apply Kd.V_drewN | apply Kd.V_drew)); exact HO_12.out⟩, ⟨by repeat (with_reducible first | exact HB.out | apply below_alloc | apply pw_below_drewN | apply below_drew1)⟩⟩
           · rw [if_neg c21] at H
             exact absurd H (by simp)
         · rw [if_neg c20] at H
           exact absurd H (by simp)
       · rw [if_neg c19] at H
         have c19b0 : decide (x51_2 < (l3.length : Int)) = false := decide_eq_false c19
         clear c19
         replace H := Option.bind_eq_some_iff.mp H
         obtain ⟨t602, A490, H⟩ := H
         replace H : (some t602) = some r := H
         have A49 := Aside0.mk A490
         clear A490
         obtain rfl := Option.some.inj H
         go_wp2_with (first | ((with_reducible refine gate_callee (f := 12) rfl ?_); refine goesL_ (some 119) rfl rfl Try.func12 (by kernel_rfl) rfl #[] rfl (by (try simp only [List.map_toArray, List.map_cons, List.map_nil]); first | done | rfl) ?_; (with_reducible refine (handshakerlaw22_awake.calls k2  t602 _ A49.out).mono ?_); rintro e w50 ⟨rfl, hb⟩; refine ⟨_, rfl, ?_⟩; have n0_ := Aside0.mk (Kd.V_below (by (with_reducible repeat (first | apply Kd.V_alloc | apply Kd.V_drewN | apply Kd.V_drew)); exact HO_0.out) hb); have n1_ := Aside0.mk (Kd.V_below (by (with_reducible repeat (first | apply Kd.V_alloc | apply Kd.V_drewN | apply Kd.V_drew)); exact HO_2.out) hb); have n2_ := Aside0.mk (Kd.V_below (by (with_reducible repeat (first | apply Kd.V_alloc | apply Kd.V_drewN | apply Kd.V_drew)); exact HO_9.out) hb); have n3_ := Aside0.mk (Kd.V_below (by (with_reducible repeat (first | apply Kd.V_alloc | apply Kd.V_drewN | apply Kd.V_drew)); exact HO_10.out) hb); have n4_ := Aside0.mk (Kd.V_below (by (with_reducible repeat (first | apply Kd.V_alloc | apply Kd.V_drewN | apply Kd.V_drew)); exact HO_11.out) hb); have n5_ := Aside0.mk (Kd.V_below (by (with_reducible repeat (first | apply Kd.V_alloc | apply Kd.V_drewN | apply Kd.V_drew)); exact HO_12.out) hb); have n6_ := Aside0.mk (bst_ hb); clear HO_0; clear HO_2; clear HO_9; clear HO_10; clear HO_11; clear HO_12; clear HB; have HO_0 := n0_; have HO_2 := n1_; have HO_9 := n2_; have HO_10 := n3_; have HO_11 := n4_; have HO_12 := n5_; have HB := n6_; clear n0_ n1_ n2_ n3_ n4_ n5_ n6_; (try clear hb); (try clear hb2); (try clear hk); (try clear hi)))
         go_ret
         exact ⟨by first | rfl | (simp [errW_none, errW_some] <;> rfl) | (simp [*, errW_none, errW_some] <;> rfl), by repeat (with_reducible first | exact HB.out | apply below_alloc | apply pw_below_drewN | apply below_drew1)⟩

/-- THE ONE PURE STATEMENT of handshakerlaw22_AfterOwn. -/
def handshakerlaw22_AfterOwn.Pure : Prop := ∀ (l0 : List (S25)) (a1 : Int) (l2 : List (S66)) (l3 : List Int), l0.length ≤ maxLen → l0.length * 32 ≤ 140737488351232 → (∀ y ∈ l0, wfS25 y) → (Lit.int .i64 a1).wf = true → l2.length ≤ maxLen → l2.length * 16 ≤ 140737488351232 → (∀ y ∈ l2, wfS66 y) → l3.length ≤ maxLen → l3.length * 8 ≤ 140737488351232 → (∀ y ∈ l3, (Lit.int .i64 y).wf = true) → ∃ k, handshakerlaw22_AfterOwn.f k l0 a1 l2 l3 = some true

end Go.Proofs.Ytihcnbhcemkncaa.A
