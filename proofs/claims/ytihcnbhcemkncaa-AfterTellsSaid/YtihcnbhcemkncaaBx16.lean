-- PRINTED by print.py (a twelfth state) out of the translation. Not trusted: Lean checks it.
import Derived.Test.YtihcnbhcemkncaaBx0
import Derived.Test.YtihcnbhcemkncaaBx3
import Derived.Test.YtihcnbhcemkncaaBx4
import Derived.Test.YtihcnbhcemkncaaBx5
import Derived.Test.YtihcnbhcemkncaaBx6
import Derived.Test.YtihcnbhcemkncaaBx7
import Derived.Test.YtihcnbhcemkncaaBx8
import Derived.Test.YtihcnbhcemkncaaBx10
import Derived.Test.YtihcnbhcemkncaaBx11
import Derived.Test.YtihcnbhcemkncaaBx13
import Derived.Test.YtihcnbhcemkncaaBx14
import Derived.Test.YtihcnbhcemkncaaBx15
namespace Go.Proofs.Ytihcnbhcemkncaa.B
open Go.Proofs.Ytihcnbhcemkncaa.Ho
open Go.RowKit Go.Proofs.YtihcnbhcemkncaaW.PrintWords Go.Proofs.YtihcnbhcemkncaaW.PrintLast Go.Proofs.YtihcnbhcemkncaaW.PrintMore
attribute [local go_sem] max2_int min2_int max_two min_two max_three min_three max_four min_four   -- for this text's walks alone
set_option linter.unusedVariables false
set_option linter.unusedSimpArgs false

/-! ### handshakerlaw22_AfterTells: function 3 -/
mutual
def handshakerlaw22_AfterTells.j0 : Nat → List (S25) → Int → Int → List (S66) → List Int → Bool → Int → List (S61) → Option (Bool)
 | 0, _, _, _, _, _, _, _, _ => none
 | k + 1, x0, x2, x3, x4, x5, x52, x419000, x419001 => if x52 = true then ((handshakerlaw22_awake.f k).bind fun t424 => (some t424)) else ((handshakerlaw22_Refs.f k x0).bind fun t425 => ((after_Defer.f k x0 x419000 x419001).bind fun bt428 => ((handshakerlaw22_Refs.f k (([(⟨x419000, x419001⟩ : S25)] : List (S25)))).bind fun t435 => (if 0 < (t435.length : Int) then ((handshakerref22_Defer.f k t425 ((rd_T39 t435 0).f0) ((rd_T39 t435 0).f1)).bind fun bt439 => ((after_Do.f k x0 x2 x4).bind fun bt443 => ((handshakerref22_Do.f k t425 x2 x4).bind fun bt450 => ((after_All.f k x0 x4 x5).bind fun bt457 => ((handshakerref22_All.f k t425 x4 x5).bind fun bt464 => ((after_See.f k x0 x2 x4 x3).bind fun bt471 => ((handshakerref22_See.f k t425 x2 x4 x3).bind fun bt473 => ((after_Right.f k x0).bind fun t475 => ((handshakerref22_Right.f k t425).bind fun t476 => (if t475 = true then (if t476 = true then ((after_Holder.f k x0 x3).bind fun t477 => ((handshakerref22_Holder.f k t425 x3).bind fun t478 => (if t477 = t478 then (if bt471.1 = bt473.1 then (handshakerlaw22_AfterTells.j1 k bt428.1 bt428.2 bt439.1 bt439.2 bt443.1 bt443.2.1 bt443.2.2 bt450.1 bt450.2.1 bt450.2.2 bt457.1 bt457.2.1 bt457.2.2 bt464.1 bt464.2.1 bt464.2.2 (bt471.2 != bt473.2)) else (handshakerlaw22_AfterTells.j1 k bt428.1 bt428.2 bt439.1 bt439.2 bt443.1 bt443.2.1 bt443.2.2 bt450.1 bt450.2.1 bt450.2.2 bt457.1 bt457.2.1 bt457.2.2 bt464.1 bt464.2.1 bt464.2.2 true)) else (handshakerlaw22_AfterTells.j1 k bt428.1 bt428.2 bt439.1 bt439.2 bt443.1 bt443.2.1 bt443.2.2 bt450.1 bt450.2.1 bt450.2.2 bt457.1 bt457.2.1 bt457.2.2 bt464.1 bt464.2.1 bt464.2.2 true)))) else (handshakerlaw22_AfterTells.j1 k bt428.1 bt428.2 bt439.1 bt439.2 bt443.1 bt443.2.1 bt443.2.2 bt450.1 bt450.2.1 bt450.2.2 bt457.1 bt457.2.1 bt457.2.2 bt464.1 bt464.2.1 bt464.2.2 true)) else (if t476 = true then (handshakerlaw22_AfterTells.j1 k bt428.1 bt428.2 bt439.1 bt439.2 bt443.1 bt443.2.1 bt443.2.2 bt450.1 bt450.2.1 bt450.2.2 bt457.1 bt457.2.1 bt457.2.2 bt464.1 bt464.2.1 bt464.2.2 true) else ((after_Holder.f k x0 x3).bind fun t479 => ((handshakerref22_Holder.f k t425 x3).bind fun t480 => (if t479 = t480 then (if bt471.1 = bt473.1 then (handshakerlaw22_AfterTells.j1 k bt428.1 bt428.2 bt439.1 bt439.2 bt443.1 bt443.2.1 bt443.2.2 bt450.1 bt450.2.1 bt450.2.2 bt457.1 bt457.2.1 bt457.2.2 bt464.1 bt464.2.1 bt464.2.2 (bt471.2 != bt473.2)) else (handshakerlaw22_AfterTells.j1 k bt428.1 bt428.2 bt439.1 bt439.2 bt443.1 bt443.2.1 bt443.2.2 bt450.1 bt450.2.1 bt450.2.2 bt457.1 bt457.2.1 bt457.2.2 bt464.1 bt464.2.1 bt464.2.2 true)) else (handshakerlaw22_AfterTells.j1 k bt428.1 bt428.2 bt439.1 bt439.2 bt443.1 bt443.2.1 bt443.2.2 bt450.1 bt450.2.1 bt450.2.2 bt457.1 bt457.2.1 bt457.2.2 bt464.1 bt464.2.1 bt464.2.2 true))))))))))))))) else (none)))))
def handshakerlaw22_AfterTells.j1 : Nat → List (S25) → Int → List (S39) → Int → List (S25) → List (S66) → Int → List (S39) → List (S66) → Int → List (S25) → List (S66) → Int → List (S39) → List (S66) → Int → Bool → Option (Bool)
 | 0, _, _, _, _, _, _, _, _, _, _, _, _, _, _, _, _, _ => none
 | k + 1, x14, x15, x16, x17, x18, x19, x20, x21, x22, x23, x24, x25, x26, x27, x28, x29, x143 => if x143 = true then (some false) else ((handshakerlaw22_Refs.f k x14).bind fun t481 => ((handshakerref22_Same.f k t481 x16).bind fun t484 => (if t484 = true then (if x15 = x17 then ((handshakerlaw22_Refs.f k x18).bind fun t485 => ((handshakerref22_Same.f k t485 x21).bind fun t488 => (if t488 = true then ((handshakerref02_Same.f k x19 x22).bind fun t489 => (if t489 = true then (if x20 = x23 then ((handshakerlaw22_Refs.f k x24).bind fun t490 => ((handshakerref22_Same.f k t490 x27).bind fun t493 => (if t493 = true then ((handshakerref02_Same.f k x25 x28).bind fun t494 => (if t494 = true then (if x26 = x29 then ((handshakerlaw22_awake.f k).bind fun t495 => (some t495)) else (some false)) else (some false))) else (some false)))) else (some false)) else (some false))) else (some false)))) else (some false)) else (some false))))
end
def handshakerlaw22_AfterTells.f (k : Nat) (l0 : List (S25)) (a1_0 : Int) (l1_1 : List (S61)) (a2 : Int) (a3 : Int) (l4 : List (S66)) (l5 : List Int) : Option (Bool) := (handshakerlaw22_small.f k l0).bind fun t419 => (if t419 = true then ((handshakerlaw22_small.f k (([(⟨a1_0, l1_1⟩ : S25)] : List (S25)))).bind fun t423 => (if t423 = true then (if (l4.length : Int) > 80 then (handshakerlaw22_AfterTells.j0 k l0 a2 a3 l4 l5 true a1_0 l1_1) else (handshakerlaw22_AfterTells.j0 k l0 a2 a3 l4 l5 (decide ((l5.length : Int) > 30)) a1_0 l1_1)) else (handshakerlaw22_AfterTells.j0 k l0 a2 a3 l4 l5 true a1_0 l1_1))) else (handshakerlaw22_AfterTells.j0 k l0 a2 a3 l4 l5 true a1_0 l1_1))
theorem handshakerlaw22_AfterTells.mono_l : ∀ k, (∀ y0 y1 y2 y3 y4 y5 y6 y7, LeO (handshakerlaw22_AfterTells.j0 k y0 y1 y2 y3 y4 y5 y6 y7) (handshakerlaw22_AfterTells.j0 (k + 1) y0 y1 y2 y3 y4 y5 y6 y7)) ∧ (∀ y0 y1 y2 y3 y4 y5 y6 y7 y8 y9 y10 y11 y12 y13 y14 y15 y16, LeO (handshakerlaw22_AfterTells.j1 k y0 y1 y2 y3 y4 y5 y6 y7 y8 y9 y10 y11 y12 y13 y14 y15 y16) (handshakerlaw22_AfterTells.j1 (k + 1) y0 y1 y2 y3 y4 y5 y6 y7 y8 y9 y10 y11 y12 y13 y14 y15 y16))
 | 0 => ⟨fun _ _ _ _ _ _ _ _ r h => by simp [handshakerlaw22_AfterTells.j0] at h, fun _ _ _ _ _ _ _ _ _ _ _ _ _ _ _ _ _ r h => by simp [handshakerlaw22_AfterTells.j1] at h⟩
 | k + 1 => by
  obtain ⟨ih0, ih1⟩ := handshakerlaw22_AfterTells.mono_l k
  refine ⟨?_, ?_⟩
  · intro y0 y1 y2 y3 y4 y5 y6 y7
    unfold handshakerlaw22_AfterTells.j0
    repeat' first
    | (with_reducible exact ih0 _ _ _ _ _ _ _ _)
    | (with_reducible exact ih1 _ _ _ _ _ _ _ _ _ _ _ _ _ _ _ _ _)
    | (with_reducible exact after_All.mono _ _ _ _)
    | (with_reducible exact after_Defer.mono _ _ _ _)
    | (with_reducible exact after_Do.mono _ _ _ _)
    | (with_reducible exact after_Holder.mono _ _ _)
    | (with_reducible exact after_Right.mono _ _)
    | (with_reducible exact after_See.mono _ _ _ _ _)
    | (with_reducible exact handshakerlaw22_Refs.mono _ _)
    | (with_reducible exact handshakerlaw22_awake.mono _)
    | (with_reducible exact handshakerlaw22_small.mono _ _)
    | (with_reducible exact handshakerref02_Same.mono _ _ _)
    | (with_reducible exact handshakerref22_All.mono _ _ _ _)
    | (with_reducible exact handshakerref22_Defer.mono _ _ _ _)
    | (with_reducible exact handshakerref22_Do.mono _ _ _ _)
    | (with_reducible exact handshakerref22_Holder.mono _ _ _)
    | (with_reducible exact handshakerref22_Right.mono _ _)
    | (with_reducible exact handshakerref22_Same.mono _ _ _)
    | (with_reducible exact handshakerref22_See.mono _ _ _ _ _)
    | (with_reducible exact LeO.refl _)
    | (with_reducible exact LeO.none _)
    | (with_reducible refine LeO.ite ?_ ?_)
    | (with_reducible refine LeO.bind ?_ (fun _ => ?_))
    | exact ih0 _ _ _ _ _ _ _ _
    | exact ih1 _ _ _ _ _ _ _ _ _ _ _ _ _ _ _ _ _
    | exact after_All.mono _ _ _ _
    | exact after_Defer.mono _ _ _ _
    | exact after_Do.mono _ _ _ _
    | exact after_Holder.mono _ _ _
    | exact after_Right.mono _ _
    | exact after_See.mono _ _ _ _ _
    | exact handshakerlaw22_Refs.mono _ _
    | exact handshakerlaw22_awake.mono _
    | exact handshakerlaw22_small.mono _ _
    | exact handshakerref02_Same.mono _ _ _
    | exact handshakerref22_All.mono _ _ _ _
    | exact handshakerref22_Defer.mono _ _ _ _
    | exact handshakerref22_Do.mono _ _ _ _
    | exact handshakerref22_Holder.mono _ _ _
    | exact handshakerref22_Right.mono _ _
    | exact handshakerref22_Same.mono _ _ _
    | exact handshakerref22_See.mono _ _ _ _ _
    | exact LeO.none _
    | refine LeO.ite ?_ ?_
    | refine LeO.bind ?_ (fun _ => ?_)
  · intro y0 y1 y2 y3 y4 y5 y6 y7 y8 y9 y10 y11 y12 y13 y14 y15 y16
    unfold handshakerlaw22_AfterTells.j1
    repeat' first
    | (with_reducible exact ih0 _ _ _ _ _ _ _ _)
    | (with_reducible exact ih1 _ _ _ _ _ _ _ _ _ _ _ _ _ _ _ _ _)
    | (with_reducible exact after_All.mono _ _ _ _)
    | (with_reducible exact after_Defer.mono _ _ _ _)
    | (with_reducible exact after_Do.mono _ _ _ _)
    | (with_reducible exact after_Holder.mono _ _ _)
    | (with_reducible exact after_Right.mono _ _)
    | (with_reducible exact after_See.mono _ _ _ _ _)
    | (with_reducible exact handshakerlaw22_Refs.mono _ _)
    | (with_reducible exact handshakerlaw22_awake.mono _)
    | (with_reducible exact handshakerlaw22_small.mono _ _)
    | (with_reducible exact handshakerref02_Same.mono _ _ _)
    | (with_reducible exact handshakerref22_All.mono _ _ _ _)
    | (with_reducible exact handshakerref22_Defer.mono _ _ _ _)
    | (with_reducible exact handshakerref22_Do.mono _ _ _ _)
    | (with_reducible exact handshakerref22_Holder.mono _ _ _)
    | (with_reducible exact handshakerref22_Right.mono _ _)
    | (with_reducible exact handshakerref22_Same.mono _ _ _)
    | (with_reducible exact handshakerref22_See.mono _ _ _ _ _)
    | (with_reducible exact LeO.refl _)
    | (with_reducible exact LeO.none _)
    | (with_reducible refine LeO.ite ?_ ?_)
    | (with_reducible refine LeO.bind ?_ (fun _ => ?_))
    | exact ih0 _ _ _ _ _ _ _ _
    | exact ih1 _ _ _ _ _ _ _ _ _ _ _ _ _ _ _ _ _
    | exact after_All.mono _ _ _ _
    | exact after_Defer.mono _ _ _ _
    | exact after_Do.mono _ _ _ _
    | exact after_Holder.mono _ _ _
    | exact after_Right.mono _ _
    | exact after_See.mono _ _ _ _ _
    | exact handshakerlaw22_Refs.mono _ _
    | exact handshakerlaw22_awake.mono _
    | exact handshakerlaw22_small.mono _ _
    | exact handshakerref02_Same.mono _ _ _
    | exact handshakerref22_All.mono _ _ _ _
    | exact handshakerref22_Defer.mono _ _ _ _
    | exact handshakerref22_Do.mono _ _ _ _
    | exact handshakerref22_Holder.mono _ _ _
    | exact handshakerref22_Right.mono _ _
    | exact handshakerref22_Same.mono _ _ _
    | exact handshakerref22_See.mono _ _ _ _ _
    | exact LeO.none _
    | refine LeO.ite ?_ ?_
    | refine LeO.bind ?_ (fun _ => ?_)
theorem handshakerlaw22_AfterTells.mono : ∀ a0 a1 a2 a3 a4 a5 a6 k, LeO (handshakerlaw22_AfterTells.f k a0 a1 a2 a3 a4 a5 a6) (handshakerlaw22_AfterTells.f (k + 1) a0 a1 a2 a3 a4 a5 a6) := by
 intro a0 a1 a2 a3 a4 a5 a6 k
 obtain ⟨ih0, ih1⟩ := handshakerlaw22_AfterTells.mono_l k
 unfold handshakerlaw22_AfterTells.f
 repeat' first
  | (with_reducible exact ih0 _ _ _ _ _ _ _ _)
  | (with_reducible exact ih1 _ _ _ _ _ _ _ _ _ _ _ _ _ _ _ _ _)
  | (with_reducible exact after_All.mono _ _ _ _)
  | (with_reducible exact after_Defer.mono _ _ _ _)
  | (with_reducible exact after_Do.mono _ _ _ _)
  | (with_reducible exact after_Holder.mono _ _ _)
  | (with_reducible exact after_Right.mono _ _)
  | (with_reducible exact after_See.mono _ _ _ _ _)
  | (with_reducible exact handshakerlaw22_Refs.mono _ _)
  | (with_reducible exact handshakerlaw22_awake.mono _)
  | (with_reducible exact handshakerlaw22_small.mono _ _)
  | (with_reducible exact handshakerref02_Same.mono _ _ _)
  | (with_reducible exact handshakerref22_All.mono _ _ _ _)
  | (with_reducible exact handshakerref22_Defer.mono _ _ _ _)
  | (with_reducible exact handshakerref22_Do.mono _ _ _ _)
  | (with_reducible exact handshakerref22_Holder.mono _ _ _)
  | (with_reducible exact handshakerref22_Right.mono _ _)
  | (with_reducible exact handshakerref22_Same.mono _ _ _)
  | (with_reducible exact handshakerref22_See.mono _ _ _ _ _)
  | (with_reducible exact LeO.refl _)
  | (with_reducible exact LeO.none _)
  | (with_reducible refine LeO.ite ?_ ?_)
  | (with_reducible refine LeO.bind ?_ (fun _ => ?_))
  | exact ih0 _ _ _ _ _ _ _ _
  | exact ih1 _ _ _ _ _ _ _ _ _ _ _ _ _ _ _ _ _
  | exact after_All.mono _ _ _ _
  | exact after_Defer.mono _ _ _ _
  | exact after_Do.mono _ _ _ _
  | exact after_Holder.mono _ _ _
  | exact after_Right.mono _ _
  | exact after_See.mono _ _ _ _ _
  | exact handshakerlaw22_Refs.mono _ _
  | exact handshakerlaw22_awake.mono _
  | exact handshakerlaw22_small.mono _ _
  | exact handshakerref02_Same.mono _ _ _
  | exact handshakerref22_All.mono _ _ _ _
  | exact handshakerref22_Defer.mono _ _ _ _
  | exact handshakerref22_Do.mono _ _ _ _
  | exact handshakerref22_Holder.mono _ _ _
  | exact handshakerref22_Right.mono _ _
  | exact handshakerref22_Same.mono _ _ _
  | exact handshakerref22_See.mono _ _ _ _ _
  | exact LeO.none _
  | refine LeO.ite ?_ ?_
  | refine LeO.bind ?_ (fun _ => ?_)
set_option maxHeartbeats 8000000 in
set_option maxRecDepth 100000 in
theorem handshakerlaw22_AfterTells.calls (k : Nat) (P0_ : Nat → Prop) (A0 : Option Addr) (c0 : Nat) (l0 : List (S25)) (a1_0 : Int) (P1_1_ : Nat → Prop) (A1_1 : Option Addr) (c1_1 : Nat) (l1_1 : List (S61)) (a2 : Int) (a3 : Int) (P4_ : Nat → Prop) (A4 : Option Addr) (c4 : Nat) (l4 : List (S66)) (A5 : Option Addr) (c5 : Nat) (l5 : List Int) (r : Bool) (w : World) (HT : Aside0 (r = true)) (hs0 : Kd.V k25 25 w w.heap.size (fun k_ => P0_ k_) (.slice A0 l0.length c0) l0) (hs1_1 : Kd.V k61 61 w w.heap.size (fun k_ => P1_1_ k_) (.slice A1_1 l1_1.length c1_1) l1_1) (hs4 : Kd.V k66 66 w w.heap.size (fun k_ => P4_ k_) (.slice A4 l4.length c4) l4) (hr5 : Kd.C (Kd.int .i64) w A5 l5.length l5) (hc5 : l5.length ≤ c5) (h : handshakerlaw22_AfterTells.f k l0 a1_0 l1_1 a2 a3 l4 l5 = some r) :
 Calls Try.prog 3 #[.slice A0 l0.length c0, .agg #[.int .i64 a1_0, .slice A1_1 l1_1.length c1_1], .int .i64 a2, .int .i64 a3, .slice A4 l4.length c4, .slice A5 l5.length c5] w fun e w' => e = .returned (.bool r) ∧ Below w.heap.size w w' := by
 have hu25 := Try.underlying25
 have hu39 := Try.underlying39
 have HO0 := Aside0.mk (show Kd.V k25 25 w w.heap.size (fun k_ => ((P0_ k_ ∨ P1_1_ k_ ∨ P4_ k_) ∨ w.heap.size ≤ k_)) (.slice A0 l0.length c0) l0 from Kd.V_mono hs0 (fun k_ hk => .inl (.inl hk)))
 have HO1_1 := Aside0.mk (show Kd.V k61 61 w w.heap.size (fun k_ => ((P0_ k_ ∨ P1_1_ k_ ∨ P4_ k_) ∨ w.heap.size ≤ k_)) (.slice A1_1 l1_1.length c1_1) l1_1 from Kd.V_mono hs1_1 (fun k_ hk => .inl (.inr (.inl hk))))
 have HO4 := Aside0.mk (show Kd.V k66 66 w w.heap.size (fun k_ => ((P0_ k_ ∨ P1_1_ k_ ∨ P4_ k_) ∨ w.heap.size ≤ k_)) (.slice A4 l4.length c4) l4 from Kd.V_mono hs4 (fun k_ hk => .inl (.inr (.inr hk))))
 have HR5 := Aside0.mk hr5
 have HC5 := Aside0.mk hc5
 clear hr5 hc5
 have HB := Aside0.mk (Below.refl w.heap.size w)
 have H : ((handshakerlaw22_small.f k l0).bind fun t419 => (if t419 = true then ((handshakerlaw22_small.f k (([(⟨a1_0, l1_1⟩ : S25)] : List (S25)))).bind fun t423 => (if t423 = true then (if (l4.length : Int) > 80 then (handshakerlaw22_AfterTells.j0 k l0 a2 a3 l4 l5 true a1_0 l1_1) else (handshakerlaw22_AfterTells.j0 k l0 a2 a3 l4 l5 (decide ((l5.length : Int) > 30)) a1_0 l1_1)) else (handshakerlaw22_AfterTells.j0 k l0 a2 a3 l4 l5 true a1_0 l1_1))) else (handshakerlaw22_AfterTells.j0 k l0 a2 a3 l4 l5 true a1_0 l1_1))) = some r := h
 clear h
 have HC7 := Aside0.mk H
 clear H
 go_enter Try.func3, Try.ntmps3
 go_upto_region 1 with (first | ((with_reducible refine gate_dst (N := 7) rfl ?_); (try (refine gate_guard (by rfl) ?_; dsimp only)); refine box_event ?hg (N := 7) ?hd (cs := #[.int .i64 a1_0, .slice A1_1 l1_1.length c1_1]) (t := 25) ?hr ?_; (case hd => rfl); (case hg => rfl); (case hr => first | (go_simp; done) | (go_simp; rfl)); intro gb418 hg w8 hbox hb; replace HO0 := Aside0.mk (Kd.V_below (Kd.V_elderB (vq_ HO0) gb418 (Nat.le_of_eq hg.symm)) hb); replace HO1_1 := Aside0.mk (Kd.V_below (Kd.V_elderB (vq_ HO1_1) gb418 (Nat.le_of_eq hg.symm)) hb); replace HO4 := Aside0.mk (Kd.V_below (Kd.V_elderB (vq_ HO4) gb418 (Nat.le_of_eq hg.symm)) hb); replace BK418 := Aside0.mk (hbox); replace GW418 := Aside0.mk ((by rw [hg]; exact bsz_ : w.heap.size ≤ gb418)); replace HB := Aside0.mk (bst_ hb); replace GE418 := GW418; clear hb hbox hg))
 (try simp only [Act.put, List.setIfInBounds_toArray, List.set_cons_zero, List.set_cons_succ])
 go_cut [52] (fun v52 wc => ∃ (kq : Nat) (x52_6 : Bool), v52 = .bool x52_6 ∧ Aside0 (handshakerlaw22_AfterTells.j0 kq l0 a2 a3 l4 l5 x52_6 a1_0 l1_1 = some r) ∧ Aside0 (kq ≤ k) ∧ Aside0 (Kd.V k25 25 wc w.heap.size (fun k_ => ((P0_ k_ ∨ P1_1_ k_ ∨ P4_ k_) ∨ w.heap.size ≤ k_) ∧ k_ ≠ gb418) (.slice A0 l0.length c0) l0) ∧ Aside0 (Kd.V k66 66 wc w.heap.size (fun k_ => ((P0_ k_ ∨ P1_1_ k_ ∨ P4_ k_) ∨ w.heap.size ≤ k_) ∧ k_ ≠ gb418) (.slice A4 l4.length c4) l4) ∧ Aside0 (Kd.V k61 61 wc w.heap.size (fun k_ => ((P0_ k_ ∨ P1_1_ k_ ∨ P4_ k_) ∨ w.heap.size ≤ k_) ∧ k_ ≠ gb418) (.slice A1_1 l1_1.length c1_1) l1_1) ∧ Aside0 (wc.heap[gb418]? = some (.cells #[.int .i64 a1_0, (.slice A1_1 l1_1.length c1_1)] 25 (0, 0))) ∧ Aside0 (Below w.heap.size w wc))
 case first =>
  have H := HC7.out
  clear HC7
  replace H := Option.bind_eq_some_iff.mp H
  obtain ⟨t419, A90, H⟩ := H
  have A9 := Aside0.mk A90
  clear A90
  by_cases c10 : t419 = true
  · subst c10
    rw [if_pos rfl] at H
    obtain ⟨y420, hy420⟩ : ∃ y_ : List (S25), y_ = (([(⟨a1_0, l1_1⟩ : S25)] : List (S25))) := ⟨_, rfl⟩
    replace H : ((handshakerlaw22_small.f k y420).bind fun t423 => (if t423 = true then (if (l4.length : Int) > 80 then (handshakerlaw22_AfterTells.j0 k l0 a2 a3 l4 l5 true a1_0 l1_1) else (handshakerlaw22_AfterTells.j0 k l0 a2 a3 l4 l5 (decide ((l5.length : Int) > 30)) a1_0 l1_1)) else (handshakerlaw22_AfterTells.j0 k l0 a2 a3 l4 l5 true a1_0 l1_1))) = some r := by first | (rw [hy420]; with_reducible exact H) | (have H2_ := (Option.bind_some _ _).symm.trans H; rw [hy420]; with_reducible exact H2_) | (have H2_ := (Option.bind_some _ _).symm.trans H; with_reducible exact H2_) | with_reducible exact H | (rw [hy420]; exact H) | exact H
    have Ny420 := Aside0.mk hy420
    clear hy420
    replace H := Option.bind_eq_some_iff.mp H
    obtain ⟨t423, A110, H⟩ := H
    have A11 := Aside0.mk A110
    clear A110
    by_cases c12 : t423 = true
    · subst c12
      rw [if_pos rfl] at H
      by_cases c13 : (l4.length : Int) > 80
      · rw [if_pos c13] at H
        have c13b0 : decide (80 < (l4.length : Int)) = true := decide_eq_true c13
        have c13b1 : decide (80 < l4.length) = true := decide_eq_true (by omega)
        clear c13
        (first | rw [c13b0] | (simp only [i64_w, i32_w]; rw [c13b0]) | skip)
        have H' := Aside0.mk H
        clear H
        go_wp2_with (first | ((with_reducible refine gate_callee (f := 11) rfl ?_); refine goesL_ (some 35) rfl rfl Try.func11 (by kernel_rfl) rfl #[.slice A0 l0.length c0] rfl mp_ ?_; (with_reducible refine (handshakerlaw22_small.calls k _ _ l0 true _ ?side1 ?side2 A9.out).mono ?_); (case side1 => repeat (first | exact (Kd.V_reads' HO0.out).2.2 | with_reducible first | refine Kd.C_alloc ?_ _ | refine Kd.C_drewN ?_ _ | refine Kd.C_drew ?_)); (case side2 => exact (Kd.V_reads' HO0.out).2.1); rintro e w14 ⟨rfl, hb⟩; refine ⟨_, rfl, ?_⟩; replace HO0 := vb_ HO0 hb; replace HO1_1 := vb_ HO1_1 hb; replace HO4 := vb_ HO4 hb; replace BK418 := bb_ BK418 hb; replace HB := Aside0.mk (below_step bsw_ hb); (try clear hb); (try clear hb2); (try clear hk); (try clear hi); have hcz15_0 : w14.cell? ⟨gb418, 0, none⟩ = some (.int .i64 a1_0) := (blk_cell BK418.out 0).trans rfl; have hcz15_1 : w14.cell? ⟨gb418, 1, none⟩ = some (.slice A1_1 l1_1.length c1_1) := (blk_cell BK418.out 1).trans rfl; have hfz15_0 := blk_frozen BK418.out 0; have hfz15_1 := blk_frozen BK418.out 1) | ((with_reducible refine gate_dst (N := 39) rfl ?_); (try (refine gate_guard (by rfl) ?_; dsimp only)); refine Kd.N_lit k25 _ 25 ?hg (N' := 39) ?hd (xs := ([(⟨a1_0, l1_1⟩ : S25)] : List (S25))) (inner := [.int .i64 a1_0, .slice A1_1 l1_1.length c1_1]) (ok := (fun k_ => ((P0_ k_ ∨ P1_1_ k_ ∨ P4_ k_) ∨ w.heap.size ≤ k_) ∧ k_ ≠ gb418)) (okp := (fun k_ => ((P0_ k_ ∨ P1_1_ k_ ∨ P4_ k_) ∨ w.heap.size ≤ k_) ∧ k_ ≠ gb418)) ?hr ?hp (fun _ hk => hk) ((show ∀ k_, w14.heap.size ≤ k_ → (fun k_ => ((P0_ k_ ∨ P1_1_ k_ ∨ P4_ k_) ∨ w.heap.size ≤ k_) ∧ k_ ≠ gb418) k_ from fun k_ hk => ⟨(.inr (Nat.le_trans (below_size bsw_) hk)), Kd.freshB (g := gb418) (o := .cells #[.int .i64 a1_0, .slice A1_1 l1_1.length c1_1] 25 (0, 0)) (bq_ BK418) k_ hk⟩) _ (Nat.le_refl _)) (Below.refl _ _) (Nat.le_refl _) (by simp) ?_; (case hd => rfl); (case hg => rfl); (case hr => first | (go_simp; done) | (go_simp; rfl)); (case hp => exact (Reps.c2 (show Kd.FK k25 _ _ (⟨a1_0, l1_1⟩ : S25) [.int .i64 a1_0, .slice A1_1 l1_1.length c1_1] from (k25_mkF _ _ (⟨a1_0, l1_1⟩ : S25) (Kd.V_reads' (Kd.V_mono (ok' := (fun k_ => ((P0_ k_ ∨ P1_1_ k_ ∨ P4_ k_) ∨ w.heap.size ≤ k_) ∧ k_ ≠ gb418)) (HO1_1.out) (fun k_ hk => ⟨hk.1, hk.2⟩))).2.1 (Kd.V_F (Kd.V_mono (ok' := (fun k_ => ((P0_ k_ ∨ P1_1_ k_ ∨ P4_ k_) ∨ w.heap.size ≤ k_) ∧ k_ ≠ gb418)) (HO1_1.out) (fun k_ hk => ⟨hk.1, hk.2⟩))))) (Reps.none _ _))); intro v421 w16 ho17 hb hg_ hnew_; clear hg_ hnew_; (first | rw [← Ny420.out] at ho17 | (simp only [Int.reduceToNat] at ho17; rw [← Ny420.out] at ho17)); replace HO0 := Aside0.mk (Kd.V_elder' (vq_ HO0) (Kd.N_base ho17) hb); replace HO1_1 := Aside0.mk (Kd.V_elder' (vq_ HO1_1) (Kd.N_base ho17) hb); replace HO4 := Aside0.mk (Kd.V_elder' (vq_ HO4) (Kd.N_base ho17) hb); replace HO422 := Aside0.mk (Kd.N_lower ho17 (below_size bsw_)); replace BK418 := bb_ BK418 hb; replace HB := Aside0.mk (below_step bsw_ hb); clear hb ho17; obtain ⟨Ao18, co18, eo18⟩ := Kd.N_slice HO422.out; subst eo18) | (go_at_call 11; (with_reducible refine (handshakerlaw22_small.calls k _ _ y420 true _ ?side1 ?side2 A11.out).mono ?_); (case side1 => repeat (first | exact (Kd.N_reads' HO422.out).2.2 | with_reducible first | refine Kd.C_alloc ?_ _ | refine Kd.C_drewN ?_ _ | refine Kd.C_drew ?_)); (case side2 => exact (Kd.N_reads' HO422.out).2.1); rintro e w19 ⟨rfl, hb⟩; replace HO0 := vb_ HO0 hb; replace HO1_1 := vb_ HO1_1 hb; replace HO4 := vb_ HO4 hb; replace HO422 := nb_ HO422 hb; replace BK418 := bb_ BK418 hb; replace HB := Aside0.mk (below_step bsw_ hb); (try clear hb); (try clear hb2); (try clear hk); (try clear hi)))
        go_meet
        case rel => exact ⟨_, (true), (by first | rfl | (simp; done) | (simp [*]; done)), H', ⟨by first | omega | exact Nat.le_refl _⟩, ⟨Kd.V_mono (vq_ HO0) (fun _ hk => ⟨hk.1.1, hk.1.2⟩)⟩, ⟨Kd.V_mono (vq_ HO4) (fun _ hk => ⟨hk.1.1, hk.1.2⟩)⟩, ⟨Kd.V_mono (vq_ HO1_1) (fun _ hk => ⟨hk.1.1, hk.1.2⟩)⟩, ⟨bq_ BK418⟩, ⟨bsw_⟩⟩
      · rw [if_neg c13] at H
        have c13b0 : decide (80 < (l4.length : Int)) = false := decide_eq_false c13
        have c13b1 : decide (80 < l4.length) = false := decide_eq_false (by omega)
        clear c13
        (first | rw [c13b0] | (simp only [i64_w, i32_w]; rw [c13b0]) | skip)
        have H' := Aside0.mk H
        clear H
        go_wp2_with (first | ((with_reducible refine gate_callee (f := 11) rfl ?_); refine goesL_ (some 35) rfl rfl Try.func11 (by kernel_rfl) rfl #[.slice A0 l0.length c0] rfl mp_ ?_; (with_reducible refine (handshakerlaw22_small.calls k _ _ l0 true _ ?side1 ?side2 A9.out).mono ?_); (case side1 => repeat (first | exact (Kd.V_reads' HO0.out).2.2 | with_reducible first | refine Kd.C_alloc ?_ _ | refine Kd.C_drewN ?_ _ | refine Kd.C_drew ?_)); (case side2 => exact (Kd.V_reads' HO0.out).2.1); rintro e w20 ⟨rfl, hb⟩; refine ⟨_, rfl, ?_⟩; replace HO0 := vb_ HO0 hb; replace HO1_1 := vb_ HO1_1 hb; replace HO4 := vb_ HO4 hb; replace BK418 := bb_ BK418 hb; replace HB := Aside0.mk (below_step bsw_ hb); (try clear hb); (try clear hb2); (try clear hk); (try clear hi); have hcz21_0 : w20.cell? ⟨gb418, 0, none⟩ = some (.int .i64 a1_0) := (blk_cell BK418.out 0).trans rfl; have hcz21_1 : w20.cell? ⟨gb418, 1, none⟩ = some (.slice A1_1 l1_1.length c1_1) := (blk_cell BK418.out 1).trans rfl; have hfz21_0 := blk_frozen BK418.out 0; have hfz21_1 := blk_frozen BK418.out 1) | ((with_reducible refine gate_dst (N := 39) rfl ?_); (try (refine gate_guard (by rfl) ?_; dsimp only)); refine Kd.N_lit k25 _ 25 ?hg (N' := 39) ?hd (xs := ([(⟨a1_0, l1_1⟩ : S25)] : List (S25))) (inner := [.int .i64 a1_0, .slice A1_1 l1_1.length c1_1]) (ok := (fun k_ => ((P0_ k_ ∨ P1_1_ k_ ∨ P4_ k_) ∨ w.heap.size ≤ k_) ∧ k_ ≠ gb418)) (okp := (fun k_ => ((P0_ k_ ∨ P1_1_ k_ ∨ P4_ k_) ∨ w.heap.size ≤ k_) ∧ k_ ≠ gb418)) ?hr ?hp (fun _ hk => hk) ((show ∀ k_, w20.heap.size ≤ k_ → (fun k_ => ((P0_ k_ ∨ P1_1_ k_ ∨ P4_ k_) ∨ w.heap.size ≤ k_) ∧ k_ ≠ gb418) k_ from fun k_ hk => ⟨(.inr (Nat.le_trans (below_size bsw_) hk)), Kd.freshB (g := gb418) (o := .cells #[.int .i64 a1_0, .slice A1_1 l1_1.length c1_1] 25 (0, 0)) (bq_ BK418) k_ hk⟩) _ (Nat.le_refl _)) (Below.refl _ _) (Nat.le_refl _) (by simp) ?_; (case hd => rfl); (case hg => rfl); (case hr => first | (go_simp; done) | (go_simp; rfl)); (case hp => exact (Reps.c2 (show Kd.FK k25 _ _ (⟨a1_0, l1_1⟩ : S25) [.int .i64 a1_0, .slice A1_1 l1_1.length c1_1] from (k25_mkF _ _ (⟨a1_0, l1_1⟩ : S25) (Kd.V_reads' (Kd.V_mono (ok' := (fun k_ => ((P0_ k_ ∨ P1_1_ k_ ∨ P4_ k_) ∨ w.heap.size ≤ k_) ∧ k_ ≠ gb418)) (HO1_1.out) (fun k_ hk => ⟨hk.1, hk.2⟩))).2.1 (Kd.V_F (Kd.V_mono (ok' := (fun k_ => ((P0_ k_ ∨ P1_1_ k_ ∨ P4_ k_) ∨ w.heap.size ≤ k_) ∧ k_ ≠ gb418)) (HO1_1.out) (fun k_ hk => ⟨hk.1, hk.2⟩))))) (Reps.none _ _))); intro v421 w22 ho23 hb hg_ hnew_; clear hg_ hnew_; (first | rw [← Ny420.out] at ho23 | (simp only [Int.reduceToNat] at ho23; rw [← Ny420.out] at ho23)); replace HO0 := Aside0.mk (Kd.V_elder' (vq_ HO0) (Kd.N_base ho23) hb); replace HO1_1 := Aside0.mk (Kd.V_elder' (vq_ HO1_1) (Kd.N_base ho23) hb); replace HO4 := Aside0.mk (Kd.V_elder' (vq_ HO4) (Kd.N_base ho23) hb); replace HO422 := Aside0.mk (Kd.N_lower ho23 (below_size bsw_)); replace BK418 := bb_ BK418 hb; replace HB := Aside0.mk (below_step bsw_ hb); clear hb ho23; obtain ⟨Ao24, co24, eo24⟩ := Kd.N_slice HO422.out; subst eo24) | (go_at_call 11; (with_reducible refine (handshakerlaw22_small.calls k _ _ y420 true _ ?side1 ?side2 A11.out).mono ?_); (case side1 => repeat (first | exact (Kd.N_reads' HO422.out).2.2 | with_reducible first | refine Kd.C_alloc ?_ _ | refine Kd.C_drewN ?_ _ | refine Kd.C_drew ?_)); (case side2 => exact (Kd.N_reads' HO422.out).2.1); rintro e w25 ⟨rfl, hb⟩; replace HO0 := vb_ HO0 hb; replace HO1_1 := vb_ HO1_1 hb; replace HO4 := vb_ HO4 hb; replace HO422 := nb_ HO422 hb; replace BK418 := bb_ BK418 hb; replace HB := Aside0.mk (below_step bsw_ hb); (try clear hb); (try clear hb2); (try clear hk); (try clear hi)))
        go_meet
        case rel => exact ⟨_, (decide ((l5.length : Int) > 30)), (by first | rfl | (simp; done) | (simp [*]; done)), H', ⟨by first | omega | exact Nat.le_refl _⟩, ⟨Kd.V_mono (vq_ HO0) (fun _ hk => ⟨hk.1.1, hk.1.2⟩)⟩, ⟨Kd.V_mono (vq_ HO4) (fun _ hk => ⟨hk.1.1, hk.1.2⟩)⟩, ⟨Kd.V_mono (vq_ HO1_1) (fun _ hk => ⟨hk.1.1, hk.1.2⟩)⟩, ⟨bq_ BK418⟩, ⟨bsw_⟩⟩
    · replace c12 := Bool.eq_false_iff.mpr c12
      subst c12
      rw [if_neg (show ¬ (false = true) by decide)] at H
      have H' := Aside0.mk H
      clear H
      go_wp2_with (first | ((with_reducible refine gate_callee (f := 11) rfl ?_); refine goesL_ (some 35) rfl rfl Try.func11 (by kernel_rfl) rfl #[.slice A0 l0.length c0] rfl mp_ ?_; (with_reducible refine (handshakerlaw22_small.calls k _ _ l0 true _ ?side1 ?side2 A9.out).mono ?_); (case side1 => repeat (first | exact (Kd.V_reads' HO0.out).2.2 | with_reducible first | refine Kd.C_alloc ?_ _ | refine Kd.C_drewN ?_ _ | refine Kd.C_drew ?_)); (case side2 => exact (Kd.V_reads' HO0.out).2.1); rintro e w26 ⟨rfl, hb⟩; refine ⟨_, rfl, ?_⟩; replace HO0 := vb_ HO0 hb; replace HO1_1 := vb_ HO1_1 hb; replace HO4 := vb_ HO4 hb; replace BK418 := bb_ BK418 hb; replace HB := Aside0.mk (below_step bsw_ hb); (try clear hb); (try clear hb2); (try clear hk); (try clear hi); have hcz27_0 : w26.cell? ⟨gb418, 0, none⟩ = some (.int .i64 a1_0) := (blk_cell BK418.out 0).trans rfl; have hcz27_1 : w26.cell? ⟨gb418, 1, none⟩ = some (.slice A1_1 l1_1.length c1_1) := (blk_cell BK418.out 1).trans rfl; have hfz27_0 := blk_frozen BK418.out 0; have hfz27_1 := blk_frozen BK418.out 1) | ((with_reducible refine gate_dst (N := 39) rfl ?_); (try (refine gate_guard (by rfl) ?_; dsimp only)); refine Kd.N_lit k25 _ 25 ?hg (N' := 39) ?hd (xs := ([(⟨a1_0, l1_1⟩ : S25)] : List (S25))) (inner := [.int .i64 a1_0, .slice A1_1 l1_1.length c1_1]) (ok := (fun k_ => ((P0_ k_ ∨ P1_1_ k_ ∨ P4_ k_) ∨ w.heap.size ≤ k_) ∧ k_ ≠ gb418)) (okp := (fun k_ => ((P0_ k_ ∨ P1_1_ k_ ∨ P4_ k_) ∨ w.heap.size ≤ k_) ∧ k_ ≠ gb418)) ?hr ?hp (fun _ hk => hk) ((show ∀ k_, w26.heap.size ≤ k_ → (fun k_ => ((P0_ k_ ∨ P1_1_ k_ ∨ P4_ k_) ∨ w.heap.size ≤ k_) ∧ k_ ≠ gb418) k_ from fun k_ hk => ⟨(.inr (Nat.le_trans (below_size bsw_) hk)), Kd.freshB (g := gb418) (o := .cells #[.int .i64 a1_0, .slice A1_1 l1_1.length c1_1] 25 (0, 0)) (bq_ BK418) k_ hk⟩) _ (Nat.le_refl _)) (Below.refl _ _) (Nat.le_refl _) (by simp) ?_; (case hd => rfl); (case hg => rfl); (case hr => first | (go_simp; done) | (go_simp; rfl)); (case hp => exact (Reps.c2 (show Kd.FK k25 _ _ (⟨a1_0, l1_1⟩ : S25) [.int .i64 a1_0, .slice A1_1 l1_1.length c1_1] from (k25_mkF _ _ (⟨a1_0, l1_1⟩ : S25) (Kd.V_reads' (Kd.V_mono (ok' := (fun k_ => ((P0_ k_ ∨ P1_1_ k_ ∨ P4_ k_) ∨ w.heap.size ≤ k_) ∧ k_ ≠ gb418)) (HO1_1.out) (fun k_ hk => ⟨hk.1, hk.2⟩))).2.1 (Kd.V_F (Kd.V_mono (ok' := (fun k_ => ((P0_ k_ ∨ P1_1_ k_ ∨ P4_ k_) ∨ w.heap.size ≤ k_) ∧ k_ ≠ gb418)) (HO1_1.out) (fun k_ hk => ⟨hk.1, hk.2⟩))))) (Reps.none _ _))); intro v421 w28 ho29 hb hg_ hnew_; clear hg_ hnew_; (first | rw [← Ny420.out] at ho29 | (simp only [Int.reduceToNat] at ho29; rw [← Ny420.out] at ho29)); replace HO0 := Aside0.mk (Kd.V_elder' (vq_ HO0) (Kd.N_base ho29) hb); replace HO1_1 := Aside0.mk (Kd.V_elder' (vq_ HO1_1) (Kd.N_base ho29) hb); replace HO4 := Aside0.mk (Kd.V_elder' (vq_ HO4) (Kd.N_base ho29) hb); replace HO422 := Aside0.mk (Kd.N_lower ho29 (below_size bsw_)); replace BK418 := bb_ BK418 hb; replace HB := Aside0.mk (below_step bsw_ hb); clear hb ho29; obtain ⟨Ao30, co30, eo30⟩ := Kd.N_slice HO422.out; subst eo30) | (go_at_call 11; (with_reducible refine (handshakerlaw22_small.calls k _ _ y420 false _ ?side1 ?side2 A11.out).mono ?_); (case side1 => repeat (first | exact (Kd.N_reads' HO422.out).2.2 | with_reducible first | refine Kd.C_alloc ?_ _ | refine Kd.C_drewN ?_ _ | refine Kd.C_drew ?_)); (case side2 => exact (Kd.N_reads' HO422.out).2.1); rintro e w31 ⟨rfl, hb⟩; replace HO0 := vb_ HO0 hb; replace HO1_1 := vb_ HO1_1 hb; replace HO4 := vb_ HO4 hb; replace HO422 := nb_ HO422 hb; replace BK418 := bb_ BK418 hb; replace HB := Aside0.mk (below_step bsw_ hb); (try clear hb); (try clear hb2); (try clear hk); (try clear hi)))
      go_meet
      case rel => exact ⟨_, (true), (by first | rfl | (simp; done) | (simp [*]; done)), H', ⟨by first | omega | exact Nat.le_refl _⟩, ⟨Kd.V_mono (vq_ HO0) (fun _ hk => ⟨hk.1.1, hk.1.2⟩)⟩, ⟨Kd.V_mono (vq_ HO4) (fun _ hk => ⟨hk.1.1, hk.1.2⟩)⟩, ⟨Kd.V_mono (vq_ HO1_1) (fun _ hk => ⟨hk.1.1, hk.1.2⟩)⟩, ⟨bq_ BK418⟩, ⟨bsw_⟩⟩
  · replace c10 := Bool.eq_false_iff.mpr c10
    subst c10
    rw [if_neg (show ¬ (false = true) by decide)] at H
    have H' := Aside0.mk H
    clear H
    go_wp2_with (first | ((with_reducible refine gate_callee (f := 11) rfl ?_); refine goesL_ (some 35) rfl rfl Try.func11 (by kernel_rfl) rfl #[.slice A0 l0.length c0] rfl mp_ ?_; (with_reducible refine (handshakerlaw22_small.calls k _ _ l0 false _ ?side1 ?side2 A9.out).mono ?_); (case side1 => repeat (first | exact (Kd.V_reads' HO0.out).2.2 | with_reducible first | refine Kd.C_alloc ?_ _ | refine Kd.C_drewN ?_ _ | refine Kd.C_drew ?_)); (case side2 => exact (Kd.V_reads' HO0.out).2.1); rintro e w32 ⟨rfl, hb⟩; refine ⟨_, rfl, ?_⟩; replace HO0 := vb_ HO0 hb; replace HO1_1 := vb_ HO1_1 hb; replace HO4 := vb_ HO4 hb; replace BK418 := bb_ BK418 hb; replace HB := Aside0.mk (below_step bsw_ hb); (try clear hb); (try clear hb2); (try clear hk); (try clear hi)))
    go_meet
    case rel => exact ⟨_, (true), (by first | rfl | (simp; done) | (simp [*]; done)), H', ⟨by first | omega | exact Nat.le_refl _⟩, ⟨vq_ HO0⟩, ⟨vq_ HO4⟩, ⟨vq_ HO1_1⟩, ⟨bq_ BK418⟩, ⟨bsw_⟩⟩
 case rest =>
  clear HC7
  try clear c1
  try clear c2
  try clear p2
  try clear c3
  try clear c4
  try clear c5
  try clear c10
  try clear c11
  try clear c12
  try clear c13
  try clear c13b0
  try clear c13b1
  try clear hcz15_0
  try clear hcz15_1
  try clear hcz21_0
  try clear hcz21_1
  try clear hcz27_0
  try clear hcz27_1
  try clear hfz15_0
  try clear hfz15_1
  try clear hfz21_0
  try clear hfz21_1
  try clear hfz27_0
  try clear hfz27_1
  obtain ⟨kq, x52_6, rfl, HA, HJ6, HO_0, HO_4, HO_419001, BK418, HB⟩ := hcut
  cases kq with
  | zero => exact absurd HA.out (by simp [handshakerlaw22_AfterTells.j0])
  | succ kj6 =>
   have H := HA.out
   clear HA
   simp only [handshakerlaw22_AfterTells.j0] at H
   by_cases c33 : x52_6 = true
   · subst c33
     rw [if_pos rfl] at H
     replace H := Option.bind_eq_some_iff.mp H
     obtain ⟨t424, A340, H⟩ := H
     have A34 := Aside0.mk A340
     clear A340
     obtain rfl := Option.some.inj H
     go_wp2_with (first | ((with_reducible refine gate_callee (f := 12) rfl ?_); refine goesL_ (some 53) rfl rfl Try.func12 (by kernel_rfl) rfl #[] rfl mp_ ?_; (with_reducible refine (handshakerlaw22_awake.calls kj6  t424 _ A34.out).mono ?_); rintro e w35 ⟨rfl, hb⟩; refine ⟨_, rfl, ?_⟩; replace HO_0 := vb_ HO_0 hb; replace HO_4 := vb_ HO_4 hb; replace HO_419001 := vb_ HO_419001 hb; replace BK418 := bb_ BK418 hb; replace HB := Aside0.mk (below_step bsw_ hb); (try clear hb); (try clear hb2); (try clear hk); (try clear hi)))
     go_ret
     exact ⟨by first | rfl | (simp [errW_none, errW_some] <;> rfl) | (simp [*, errW_none, errW_some] <;> rfl), bsw_⟩
   · replace c33 := Bool.eq_false_iff.mpr c33
     subst c33
     rw [if_neg (show ¬ (false = true) by decide)] at H
     replace H := Option.bind_eq_some_iff.mp H
     obtain ⟨t425, A360, H⟩ := H
     have A36 := Aside0.mk A360
     clear A360
     replace H := Option.bind_eq_some_iff.mp H
     obtain ⟨⟨t428, t431⟩, A370, H⟩ := H
     have A37 := Aside0.mk A370
     clear A370
     obtain ⟨y432, hy432⟩ : ∃ y_ : List (S25), y_ = (([(⟨a1_0, l1_1⟩ : S25)] : List (S25))) := ⟨_, rfl⟩
     replace H : ((handshakerlaw22_Refs.f kj6 y432).bind fun t435 => (if 0 < (t435.length : Int) then ((handshakerref22_Defer.f kj6 t425 ((rd_T39 t435 0).f0) ((rd_T39 t435 0).f1)).bind fun bt439 => ((after_Do.f kj6 l0 a2 l4).bind fun bt443 => ((handshakerref22_Do.f kj6 t425 a2 l4).bind fun bt450 => ((after_All.f kj6 l0 l4 l5).bind fun bt457 => ((handshakerref22_All.f kj6 t425 l4 l5).bind fun bt464 => ((after_See.f kj6 l0 a2 l4 a3).bind fun bt471 => ((handshakerref22_See.f kj6 t425 a2 l4 a3).bind fun bt473 => ((after_Right.f kj6 l0).bind fun t475 => ((handshakerref22_Right.f kj6 t425).bind fun t476 => (if t475 = true then (if t476 = true then ((after_Holder.f kj6 l0 a3).bind fun t477 => ((handshakerref22_Holder.f kj6 t425 a3).bind fun t478 => (if t477 = t478 then (if bt471.1 = bt473.1 then (handshakerlaw22_AfterTells.j1 kj6 t428 t431 bt439.1 bt439.2 bt443.1 bt443.2.1 bt443.2.2 bt450.1 bt450.2.1 bt450.2.2 bt457.1 bt457.2.1 bt457.2.2 bt464.1 bt464.2.1 bt464.2.2 (bt471.2 != bt473.2)) else (handshakerlaw22_AfterTells.j1 kj6 t428 t431 bt439.1 bt439.2 bt443.1 bt443.2.1 bt443.2.2 bt450.1 bt450.2.1 bt450.2.2 bt457.1 bt457.2.1 bt457.2.2 bt464.1 bt464.2.1 bt464.2.2 true)) else (handshakerlaw22_AfterTells.j1 kj6 t428 t431 bt439.1 bt439.2 bt443.1 bt443.2.1 bt443.2.2 bt450.1 bt450.2.1 bt450.2.2 bt457.1 bt457.2.1 bt457.2.2 bt464.1 bt464.2.1 bt464.2.2 true)))) else (handshakerlaw22_AfterTells.j1 kj6 t428 t431 bt439.1 bt439.2 bt443.1 bt443.2.1 bt443.2.2 bt450.1 bt450.2.1 bt450.2.2 bt457.1 bt457.2.1 bt457.2.2 bt464.1 bt464.2.1 bt464.2.2 true)) else (if t476 = true then (handshakerlaw22_AfterTells.j1 kj6 t428 t431 bt439.1 bt439.2 bt443.1 bt443.2.1 bt443.2.2 bt450.1 bt450.2.1 bt450.2.2 bt457.1 bt457.2.1 bt457.2.2 bt464.1 bt464.2.1 bt464.2.2 true) else ((after_Holder.f kj6 l0 a3).bind fun t479 => ((handshakerref22_Holder.f kj6 t425 a3).bind fun t480 => (if t479 = t480 then (if bt471.1 = bt473.1 then (handshakerlaw22_AfterTells.j1 kj6 t428 t431 bt439.1 bt439.2 bt443.1 bt443.2.1 bt443.2.2 bt450.1 bt450.2.1 bt450.2.2 bt457.1 bt457.2.1 bt457.2.2 bt464.1 bt464.2.1 bt464.2.2 (bt471.2 != bt473.2)) else (handshakerlaw22_AfterTells.j1 kj6 t428 t431 bt439.1 bt439.2 bt443.1 bt443.2.1 bt443.2.2 bt450.1 bt450.2.1 bt450.2.2 bt457.1 bt457.2.1 bt457.2.2 bt464.1 bt464.2.1 bt464.2.2 true)) else (handshakerlaw22_AfterTells.j1 kj6 t428 t431 bt439.1 bt439.2 bt443.1 bt443.2.1 bt443.2.2 bt450.1 bt450.2.1 bt450.2.2 bt457.1 bt457.2.1 bt457.2.2 bt464.1 bt464.2.1 bt464.2.2 true))))))))))))))) else (none))) = some r := by first | (rw [hy432]; with_reducible exact H) | (have H2_ := (Option.bind_some _ _).symm.trans H; rw [hy432]; with_reducible exact H2_) | (have H2_ := (Option.bind_some _ _).symm.trans H; with_reducible exact H2_) | with_reducible exact H | (rw [hy432]; exact H) | exact H
     have Ny432 := Aside0.mk hy432
     clear hy432
     replace H := Option.bind_eq_some_iff.mp H
     obtain ⟨t435, A380, H⟩ := H
     have A38 := Aside0.mk A380
     clear A380
     by_cases c39 : 0 < (t435.length : Int)
     · rw [if_pos c39] at H
       have c39b0 : decide (0 < (t435.length : Int)) = true := decide_eq_true c39
       have c39b1 : decide (0 < t435.length) = true := decide_eq_true (by omega)
       clear c39
       replace H := Option.bind_eq_some_iff.mp H
       obtain ⟨⟨t439, t442⟩, A400, H⟩ := H
       have A40 := Aside0.mk A400
       clear A400
       replace H := Option.bind_eq_some_iff.mp H
       obtain ⟨⟨t443, t446, t449⟩, A410, H⟩ := H
       have A41 := Aside0.mk A410
       clear A410
       replace H := Option.bind_eq_some_iff.mp H
       obtain ⟨⟨t450, t453, t456⟩, A420, H⟩ := H
       have A42 := Aside0.mk A420
       clear A420
       replace H := Option.bind_eq_some_iff.mp H
       obtain ⟨⟨t457, t460, t463⟩, A430, H⟩ := H
       have A43 := Aside0.mk A430
       clear A430
       replace H := Option.bind_eq_some_iff.mp H
       obtain ⟨⟨t464, t467, t470⟩, A440, H⟩ := H
       have A44 := Aside0.mk A440
       clear A440
       replace H := Option.bind_eq_some_iff.mp H
       obtain ⟨⟨t471, t472⟩, A450, H⟩ := H
       have A45 := Aside0.mk A450
       clear A450
       replace H := Option.bind_eq_some_iff.mp H
       obtain ⟨⟨t473, t474⟩, A460, H⟩ := H
       have A46 := Aside0.mk A460
       clear A460
       have HC47 := Aside0.mk H
       clear H
       go_upto_region 12 with (first | ((with_reducible refine gate_callee (f := 13) rfl ?_); refine goesL_ (some 55) rfl rfl Try.func13 (by kernel_rfl) rfl #[.slice A0 l0.length c0] rfl mp_ ?_; (with_reducible refine (handshakerlaw22_Refs.calls kj6 _ _ l0 t425 _ ?side1 ?side2 A36.out).mono ?_); (case side1 => repeat (first | exact (Kd.V_reads' HO_0.out).2.2 | with_reducible first | refine Kd.C_alloc ?_ _ | refine Kd.C_drewN ?_ _ | refine Kd.C_drew ?_)); (case side2 => exact (Kd.V_reads' HO_0.out).2.1); rintro e w48 ⟨v426, rfl, ho0, hb⟩; refine ⟨_, rfl, ?_⟩; replace HO_0 := Aside0.mk (Kd.V_elder' (vq_ HO_0) (Kd.N_base (Kd.S_N ho0)) hb); replace HO_4 := Aside0.mk (Kd.V_elder' (vq_ HO_4) (Kd.N_base (Kd.S_N ho0)) hb); replace HO_419001 := Aside0.mk (Kd.V_elder' (vq_ HO_419001) (Kd.N_base (Kd.S_N ho0)) hb); replace HO427 := Aside0.mk (Kd.N_lower (Kd.N_mono (ok' := fun k_ => ((P0_ k_ ∨ P1_1_ k_ ∨ P4_ k_) ∨ w.heap.size ≤ k_) ∧ k_ ≠ gb418) (Kd.S_N (Kd.S_bound ho0)) (fun k_ hk_ => ⟨(.inr (Nat.le_trans (below_size bsw_) hk_.2.1)), (Kd.freshB (g := gb418) (o := .cells #[.int .i64 a1_0, .slice A1_1 l1_1.length c1_1] 25 (0, 0)) (bq_ BK418) k_ hk_.2.1)⟩)) (below_size bsw_)); replace BK418 := bb_ BK418 hb; replace HB := Aside0.mk (below_step bsw_ hb); (try clear hb); (try clear hb2); (try clear hk); (try clear hi); (try clear ho0); have hcz49_0 : w48.cell? ⟨gb418, 0, none⟩ = some (.int .i64 a1_0) := (blk_cell BK418.out 0).trans rfl; have hcz49_1 : w48.cell? ⟨gb418, 1, none⟩ = some (.slice A1_1 l1_1.length c1_1) := (blk_cell BK418.out 1).trans rfl; have hfz49_0 := blk_frozen BK418.out 0; have hfz49_1 := blk_frozen BK418.out 1) | ((with_reducible refine gate_callee (f := 14) rfl ?_); refine goesL_ (some 59) rfl rfl Try.func14 (by kernel_rfl) rfl #[.slice A0 l0.length c0, .agg #[.int .i64 a1_0, .slice A1_1 l1_1.length c1_1]] rfl mp_ ?_; (with_reducible refine (after_Defer.calls kj6 (fun k_ => ((((P0_ k_ ∨ P1_1_ k_ ∨ P4_ k_) ∨ w.heap.size ≤ k_) ∧ k_ ≠ gb418) ∧ some k_ ≠ (v426 : Value).ownBlock)) _ _ l0 a1_0 (fun k_ => ((((P0_ k_ ∨ P1_1_ k_ ∨ P4_ k_) ∨ w.heap.size ≤ k_) ∧ k_ ≠ gb418) ∧ some k_ ≠ (v426 : Value).ownBlock)) _ _ l1_1 t428 t431 _ ?side1 ?side2 A37.out).mono ?_); (case side1 => exact HO_0.out); (case side2 => exact HO_419001.out); rintro e w50 ⟨v429, rfl, ho0, hb⟩; refine ⟨_, rfl, ?_⟩; replace HO_0 := vb_ HO_0 hb; replace HO_4 := vb_ HO_4 hb; replace HO_419001 := vb_ HO_419001 hb; replace HO430 := Aside0.mk (Kd.V_lower (Kd.V_mono (ok' := fun k_ => ((P0_ k_ ∨ P1_1_ k_ ∨ P4_ k_) ∨ w.heap.size ≤ k_) ∧ some k_ ≠ (v426 : Value).ownBlock ∧ k_ ≠ gb418) ho0 (fun k_ hk_ => ⟨Or.elim hk_ (fun hs_ => Or.elim hs_ (fun hs_ => hs_.1.1) (fun hs_ => hs_.1.1)) (fun hn_ => (.inr (Nat.le_trans (below_size bsw_) hn_))), Or.elim hk_ (fun hs_ => Or.elim hs_ (fun hs_ => hs_.2) (fun hs_ => hs_.2)) (fun hn_ => (Kd.fresh' (Kd.N_lt (nq_ HO427)) k_ hn_)), Or.elim hk_ (fun hs_ => Or.elim hs_ (fun hs_ => hs_.1.2) (fun hs_ => hs_.1.2)) (fun hn_ => (Kd.freshB (g := gb418) (o := .cells #[.int .i64 a1_0, .slice A1_1 l1_1.length c1_1] 25 (0, 0)) (bq_ BK418) k_ hn_))⟩)) (below_size bsw_)); replace HO427 := nb_ HO427 hb; replace BK418 := bb_ BK418 hb; replace HB := Aside0.mk (below_step bsw_ hb); (try clear hb); (try clear hb2); (try clear hk); (try clear hi); (try clear ho0); have hcz51_0 : w50.cell? ⟨gb418, 0, none⟩ = some (.int .i64 a1_0) := (blk_cell BK418.out 0).trans rfl; have hcz51_1 : w50.cell? ⟨gb418, 1, none⟩ = some (.slice A1_1 l1_1.length c1_1) := (blk_cell BK418.out 1).trans rfl; have hfz51_0 := blk_frozen BK418.out 0; have hfz51_1 := blk_frozen BK418.out 1) | ((with_reducible refine gate_dst (N := 65) rfl ?_); (try (refine gate_guard (by rfl) ?_; dsimp only)); refine Kd.N_lit k25 _ 25 ?hg (N' := 65) ?hd (xs := ([(⟨a1_0, l1_1⟩ : S25)] : List (S25))) (inner := [.int .i64 a1_0, .slice A1_1 l1_1.length c1_1]) (ok := (fun k_ => ((P0_ k_ ∨ P1_1_ k_ ∨ P4_ k_) ∨ w.heap.size ≤ k_) ∧ some k_ ≠ (v426 : Value).ownBlock ∧ k_ ≠ gb418)) (okp := (fun k_ => ((P0_ k_ ∨ P1_1_ k_ ∨ P4_ k_) ∨ w.heap.size ≤ k_) ∧ some k_ ≠ (v426 : Value).ownBlock ∧ k_ ≠ gb418)) ?hr ?hp (fun _ hk => hk) ((show ∀ k_, w50.heap.size ≤ k_ → (fun k_ => ((P0_ k_ ∨ P1_1_ k_ ∨ P4_ k_) ∨ w.heap.size ≤ k_) ∧ some k_ ≠ (v426 : Value).ownBlock ∧ k_ ≠ gb418) k_ from fun k_ hk => ⟨(.inr (Nat.le_trans (below_size bsw_) hk)), Kd.fresh' (Kd.N_lt (nq_ HO427)) k_ hk, Kd.freshB (g := gb418) (o := .cells #[.int .i64 a1_0, .slice A1_1 l1_1.length c1_1] 25 (0, 0)) (bq_ BK418) k_ hk⟩) _ (Nat.le_refl _)) (Below.refl _ _) (Nat.le_refl _) (by simp) ?_; (case hd => rfl); (case hg => rfl); (case hr => first | (go_simp; done) | (go_simp; rfl)); (case hp => exact (Reps.c2 (show Kd.FK k25 _ _ (⟨a1_0, l1_1⟩ : S25) [.int .i64 a1_0, .slice A1_1 l1_1.length c1_1] from (k25_mkF _ _ (⟨a1_0, l1_1⟩ : S25) (Kd.V_reads' (Kd.V_mono (ok' := (fun k_ => ((P0_ k_ ∨ P1_1_ k_ ∨ P4_ k_) ∨ w.heap.size ≤ k_) ∧ some k_ ≠ (v426 : Value).ownBlock ∧ k_ ≠ gb418)) (HO_419001.out) (fun k_ hk => ⟨hk.1.1, ⟨hk.2, hk.1.2⟩⟩))).2.1 (Kd.V_F (Kd.V_mono (ok' := (fun k_ => ((P0_ k_ ∨ P1_1_ k_ ∨ P4_ k_) ∨ w.heap.size ≤ k_) ∧ some k_ ≠ (v426 : Value).ownBlock ∧ k_ ≠ gb418)) (HO_419001.out) (fun k_ hk => ⟨hk.1.1, ⟨hk.2, hk.1.2⟩⟩))))) (Reps.none _ _))); intro v433 w52 ho53 hb hg_ hnew_; clear hg_ hnew_; (first | rw [← Ny432.out] at ho53 | (simp only [Int.reduceToNat] at ho53; rw [← Ny432.out] at ho53)); replace HO_0 := Aside0.mk (Kd.V_elder' (vq_ HO_0) (Kd.N_base ho53) hb); replace HO_4 := Aside0.mk (Kd.V_elder' (vq_ HO_4) (Kd.N_base ho53) hb); replace HO_419001 := Aside0.mk (Kd.V_elder' (vq_ HO_419001) (Kd.N_base ho53) hb); replace HO427 := Aside0.mk (Kd.N_elder' (nq_ HO427) (Kd.N_base ho53) hb); replace HO430 := Aside0.mk (Kd.V_elder' (vq_ HO430) (Kd.N_base ho53) hb); replace HO434 := Aside0.mk (Kd.N_lower ho53 (below_size bsw_)); replace BK418 := bb_ BK418 hb; replace HB := Aside0.mk (below_step bsw_ hb); clear hb ho53; obtain ⟨Ao54, co54, eo54⟩ := Kd.N_slice HO434.out; subst eo54) | ((with_reducible refine gate_callee (f := 13) rfl ?_); refine goesL_ (some 66) rfl rfl Try.func13 (by kernel_rfl) rfl #[.slice Ao54 y432.length co54] rfl mp_ ?_; (with_reducible refine (handshakerlaw22_Refs.calls kj6 _ _ y432 t435 _ ?side1 ?side2 A38.out).mono ?_); (case side1 => repeat (first | exact (Kd.N_reads' HO434.out).2.2 | with_reducible first | refine Kd.C_alloc ?_ _ | refine Kd.C_drewN ?_ _ | refine Kd.C_drew ?_)); (case side2 => exact (Kd.N_reads' HO434.out).2.1); rintro e w55 ⟨v436, rfl, ho0, hb⟩; refine ⟨_, rfl, ?_⟩; replace HO_0 := Aside0.mk (Kd.V_elder' (vq_ HO_0) (Kd.N_base (Kd.S_N ho0)) hb); replace HO_4 := Aside0.mk (Kd.V_elder' (vq_ HO_4) (Kd.N_base (Kd.S_N ho0)) hb); replace HO_419001 := Aside0.mk (Kd.V_elder' (vq_ HO_419001) (Kd.N_base (Kd.S_N ho0)) hb); replace HO430 := Aside0.mk (Kd.V_elder' (vq_ HO430) (Kd.N_base (Kd.S_N ho0)) hb); replace HO437 := Aside0.mk (Kd.N_lower (Kd.N_mono (ok' := fun k_ => ((P0_ k_ ∨ P1_1_ k_ ∨ P4_ k_) ∨ w.heap.size ≤ k_) ∧ some k_ ≠ (v426 : Value).ownBlock ∧ some k_ ≠ (.slice Ao54 y432.length co54 : Value).ownBlock ∧ k_ ≠ gb418) (Kd.S_N (Kd.S_bound ho0)) (fun k_ hk_ => ⟨(.inr (Nat.le_trans (below_size bsw_) hk_.2.1)), (Kd.fresh' (Kd.N_lt (nq_ HO427)) k_ hk_.2.1), (Kd.fresh' (Kd.N_lt (nq_ HO434)) k_ hk_.2.1), (Kd.freshB (g := gb418) (o := .cells #[.int .i64 a1_0, .slice A1_1 l1_1.length c1_1] 25 (0, 0)) (bq_ BK418) k_ hk_.2.1)⟩)) (below_size bsw_)); replace HO427 := Aside0.mk (Kd.N_elder' (nq_ HO427) (Kd.N_base (Kd.S_N ho0)) hb); replace HO434 := Aside0.mk (Kd.N_elder' (nq_ HO434) (Kd.N_base (Kd.S_N ho0)) hb); replace BK418 := bb_ BK418 hb; replace HB := Aside0.mk (below_step bsw_ hb); (try clear hb); (try clear hb2); (try clear hk); (try clear hi); (try clear ho0); obtain ⟨Ao56, co56, eo56⟩ := Kd.N_slice HO437.out; subst eo56; have p438 : 0 ≤ (0 : Int) := (by omega); have q438 : 0 < (t435.length : Int) := oda_; obtain ⟨ad438, A438_1, c438_1, e438, hx438_0, hx438_1, hl438_1, hi438_1⟩ := at_T39 (Kd.N_reads' HO437.out).2.2 0 p438 q438; cases e438; obtain ⟨ce438, hce438, hMe438, hcc438⟩ := Kd.N_get HO437.out z39 0 p438 (by first | exact q438 | exact oda_ | (have e_ := (Kd.N_reads' HO437.out).1; omega)); obtain ⟨ua438_1, uc438_1, rfl, ul438_1, ge438_1⟩ := k39_openF hMe438; have hv438_1 := hcc438 1 _ rfl; rw [add_field _ _ 1 (by omega)] at hv438_1; replace hv438_1 := Option.some.inj (hv438_1.symm.trans hx438_1); injection hv438_1 with hva_ hvn_ hvc_; rw [hva_] at ge438_1; rw [hvc_] at ul438_1; have HL438_1 := Aside0.mk (show Kd.V k87 87 _ w.heap.size _ _ ((rd_T39 t435 0).f1) from Kd.V_mk ul438_1 ge438_1); clear hva_ hvn_ hvc_ ge438_1 ul438_1; clear hcc438 hce438; have qi438 : (0 < t435.length) = True := eq_true (by omega); (try rw [show ((0 : Int)).toNat = 0 from rfl] at hx438_0); (try rw [show 0 * 2 = 0 from rfl] at hx438_0); (try rw [Addr.add_zero'] at hx438_0); (try rw [show ((0 : Int)).toNat = 0 from rfl] at hx438_1); (try rw [show 0 * 2 = 0 from rfl] at hx438_1); (try rw [Addr.add_zero'] at hx438_1); have HR438_1 := Aside0.mk hi438_1; have HC438_1 := Aside0.mk hl438_1; clear hi438_1 hl438_1; replace p438 := eq_true p438; replace q438 := eq_true q438; obtain ⟨Ao57, co57, eo57⟩ := Kd.N_slice HO427.out; subst eo57) | ((with_reducible refine gate_callee (f := 15) rfl ?_); refine goesL_ (some 69) rfl rfl Try.func15 (by kernel_rfl) rfl #[.slice Ao57 t425.length co57, .agg #[.int .i64 ((rd_T39 t435 0).f0), .slice A438_1 ((rd_T39 t435 0).f1).length c438_1]] rfl mp_ ?_; (with_reducible refine (handshakerref22_Defer.calls kj6 (fun k_ => (((((P0_ k_ ∨ P1_1_ k_ ∨ P4_ k_) ∨ w.heap.size ≤ k_) ∧ k_ ≠ gb418) ∧ some k_ ≠ (.slice Ao54 y432.length co54 : Value).ownBlock) ∧ some k_ ≠ (.slice (some ad438) t435.length co56 : Value).ownBlock)) _ _ t425 ((rd_T39 t435 0).f0) (fun k_ => ((((P0_ k_ ∨ P1_1_ k_ ∨ P4_ k_) ∨ w.heap.size ≤ k_) ∧ (some k_ ≠ (.slice Ao57 t425.length co57 : Value).ownBlock ∧ (some k_ ≠ (.slice Ao54 y432.length co54 : Value).ownBlock ∧ k_ ≠ gb418))) ∧ some k_ ≠ (.slice (some ad438) t435.length co56 : Value).ownBlock)) _ _ ((rd_T39 t435 0).f1) t439 t442 _ ?side1 ?side2 A40.out).mono ?_); (case side1 => exact Kd.N_V (HO427.out)); (case side2 => exact HL438_1.out); rintro e w58 ⟨v440, rfl, ho0, hb⟩; refine ⟨_, rfl, ?_⟩; replace HO_0 := vb_ HO_0 hb; replace HO_4 := vb_ HO_4 hb; replace HO_419001 := vb_ HO_419001 hb; replace HO427 := nb_ HO427 hb; replace HO430 := vb_ HO430 hb; replace HL438_1 := vb_ HL438_1 hb; replace HO441 := Aside0.mk (Kd.V_lower (Kd.V_mono (ok' := fun k_ => ((P0_ k_ ∨ P1_1_ k_ ∨ P4_ k_) ∨ w.heap.size ≤ k_) ∧ some k_ ≠ (.slice Ao54 y432.length co54 : Value).ownBlock ∧ some k_ ≠ (.slice (some ad438) t435.length co56 : Value).ownBlock ∧ k_ ≠ gb418) ho0 (fun k_ hk_ => ⟨Or.elim hk_ (fun hs_ => Or.elim hs_ (fun hs_ => hs_.1.1.1) (fun hs_ => hs_.1.1)) (fun hn_ => (.inr (Nat.le_trans (below_size bsw_) hn_))), Or.elim hk_ (fun hs_ => Or.elim hs_ (fun hs_ => hs_.1.2) (fun hs_ => hs_.1.2.2.1)) (fun hn_ => (Kd.fresh' (Kd.N_lt (nq_ HO434)) k_ hn_)), Or.elim hk_ (fun hs_ => Or.elim hs_ (fun hs_ => hs_.2) (fun hs_ => hs_.2)) (fun hn_ => (Kd.fresh' (Kd.N_lt (nq_ HO437)) k_ hn_)), Or.elim hk_ (fun hs_ => Or.elim hs_ (fun hs_ => hs_.1.1.2) (fun hs_ => hs_.1.2.2.2)) (fun hn_ => (Kd.freshB (g := gb418) (o := .cells #[.int .i64 a1_0, .slice A1_1 l1_1.length c1_1] 25 (0, 0)) (bq_ BK418) k_ hn_))⟩)) (below_size bsw_)); replace HO434 := nb_ HO434 hb; replace HO437 := nb_ HO437 hb; replace BK418 := bb_ BK418 hb; replace HR438_1 := Aside0.mk (Kd.V_reads' HL438_1.out).2.2; replace HB := Aside0.mk (below_step bsw_ hb); (try clear hb); (try clear hb2); (try clear hk); (try clear hi); (try clear ho0)) | ((with_reducible refine gate_callee (f := 16) rfl ?_); refine goesL_ (some 76) rfl rfl Try.func16 (by kernel_rfl) rfl #[.slice A0 l0.length c0, .int .i64 a2, .slice A4 l4.length c4] rfl mp_ ?_; (with_reducible refine (after_Do.calls kj6 (fun k_ => ((((((P0_ k_ ∨ P1_1_ k_ ∨ P4_ k_) ∨ w.heap.size ≤ k_) ∧ k_ ≠ gb418) ∧ some k_ ≠ (.slice Ao57 t425.length co57 : Value).ownBlock) ∧ some k_ ≠ (.slice Ao54 y432.length co54 : Value).ownBlock) ∧ some k_ ≠ (.slice (some ad438) t435.length co56 : Value).ownBlock)) _ _ l0 a2 (fun k_ => ((((((P0_ k_ ∨ P1_1_ k_ ∨ P4_ k_) ∨ w.heap.size ≤ k_) ∧ k_ ≠ gb418) ∧ some k_ ≠ (.slice Ao57 t425.length co57 : Value).ownBlock) ∧ some k_ ≠ (.slice Ao54 y432.length co54 : Value).ownBlock) ∧ some k_ ≠ (.slice (some ad438) t435.length co56 : Value).ownBlock)) _ _ l4 t443 t446 t449 _ ?side1 ?side2 A41.out).mono ?_); (case side1 => exact HO_0.out); (case side2 => exact HO_4.out); rintro e w59 ⟨v444, v447, rfl, ho0, ho1, hb⟩; refine ⟨_, rfl, ?_⟩; replace HO_0 := vb_ HO_0 hb; replace HO_4 := vb_ HO_4 hb; replace HO_419001 := vb_ HO_419001 hb; replace HO430 := vb_ HO430 hb; replace HL438_1 := vb_ HL438_1 hb; replace HO441 := vb_ HO441 hb; replace HO445 := Aside0.mk (Kd.V_lower (Kd.V_mono (ok' := fun k_ => ((P0_ k_ ∨ P1_1_ k_ ∨ P4_ k_) ∨ w.heap.size ≤ k_) ∧ some k_ ≠ (.slice Ao57 t425.length co57 : Value).ownBlock ∧ some k_ ≠ (.slice Ao54 y432.length co54 : Value).ownBlock ∧ some k_ ≠ (.slice (some ad438) t435.length co56 : Value).ownBlock ∧ k_ ≠ gb418) ho0 (fun k_ hk_ => ⟨Or.elim hk_ (fun hs_ => Or.elim hs_ (fun hs_ => hs_.1.1.1.1) (fun hs_ => hs_.1.1.1.1)) (fun hn_ => (.inr (Nat.le_trans (below_size bsw_) hn_))), Or.elim hk_ (fun hs_ => Or.elim hs_ (fun hs_ => hs_.1.1.2) (fun hs_ => hs_.1.1.2)) (fun hn_ => (Kd.fresh' (Kd.N_lt (nq_ HO427)) k_ hn_)), Or.elim hk_ (fun hs_ => Or.elim hs_ (fun hs_ => hs_.1.2) (fun hs_ => hs_.1.2)) (fun hn_ => (Kd.fresh' (Kd.N_lt (nq_ HO434)) k_ hn_)), Or.elim hk_ (fun hs_ => Or.elim hs_ (fun hs_ => hs_.2) (fun hs_ => hs_.2)) (fun hn_ => (Kd.fresh' (Kd.N_lt (nq_ HO437)) k_ hn_)), Or.elim hk_ (fun hs_ => Or.elim hs_ (fun hs_ => hs_.1.1.1.2) (fun hs_ => hs_.1.1.1.2)) (fun hn_ => (Kd.freshB (g := gb418) (o := .cells #[.int .i64 a1_0, .slice A1_1 l1_1.length c1_1] 25 (0, 0)) (bq_ BK418) k_ hn_))⟩)) (below_size bsw_)); replace HO448 := Aside0.mk (Kd.V_lower (Kd.V_mono (ok' := fun k_ => ((P0_ k_ ∨ P1_1_ k_ ∨ P4_ k_) ∨ w.heap.size ≤ k_) ∧ some k_ ≠ (.slice Ao57 t425.length co57 : Value).ownBlock ∧ some k_ ≠ (.slice Ao54 y432.length co54 : Value).ownBlock ∧ some k_ ≠ (.slice (some ad438) t435.length co56 : Value).ownBlock ∧ k_ ≠ gb418) ho1 (fun k_ hk_ => ⟨Or.elim hk_ (fun hs_ => Or.elim hs_ (fun hs_ => hs_.1.1.1.1) (fun hs_ => hs_.1.1.1.1)) (fun hn_ => (.inr (Nat.le_trans (below_size bsw_) hn_))), Or.elim hk_ (fun hs_ => Or.elim hs_ (fun hs_ => hs_.1.1.2) (fun hs_ => hs_.1.1.2)) (fun hn_ => (Kd.fresh' (Kd.N_lt (nq_ HO427)) k_ hn_)), Or.elim hk_ (fun hs_ => Or.elim hs_ (fun hs_ => hs_.1.2) (fun hs_ => hs_.1.2)) (fun hn_ => (Kd.fresh' (Kd.N_lt (nq_ HO434)) k_ hn_)), Or.elim hk_ (fun hs_ => Or.elim hs_ (fun hs_ => hs_.2) (fun hs_ => hs_.2)) (fun hn_ => (Kd.fresh' (Kd.N_lt (nq_ HO437)) k_ hn_)), Or.elim hk_ (fun hs_ => Or.elim hs_ (fun hs_ => hs_.1.1.1.2) (fun hs_ => hs_.1.1.1.2)) (fun hn_ => (Kd.freshB (g := gb418) (o := .cells #[.int .i64 a1_0, .slice A1_1 l1_1.length c1_1] 25 (0, 0)) (bq_ BK418) k_ hn_))⟩)) (below_size bsw_)); replace HO427 := nb_ HO427 hb; replace HO434 := nb_ HO434 hb; replace HO437 := nb_ HO437 hb; replace BK418 := bb_ BK418 hb; replace HR438_1 := Aside0.mk (Kd.V_reads' HL438_1.out).2.2; replace HB := Aside0.mk (below_step bsw_ hb); (try clear hb); (try clear hb2); (try clear hk); (try clear hi); (try clear ho0); (try clear ho1)) | ((with_reducible refine gate_callee (f := 17) rfl ?_); refine goesL_ (some 84) rfl rfl Try.func17 (by kernel_rfl) rfl #[.slice Ao57 t425.length co57, .int .i64 a2, .slice A4 l4.length c4] rfl mp_ ?_; (with_reducible refine (handshakerref22_Do.calls kj6 (fun k_ => (((((P0_ k_ ∨ P1_1_ k_ ∨ P4_ k_) ∨ w.heap.size ≤ k_) ∧ k_ ≠ gb418) ∧ some k_ ≠ (.slice Ao54 y432.length co54 : Value).ownBlock) ∧ some k_ ≠ (.slice (some ad438) t435.length co56 : Value).ownBlock)) _ _ t425 a2 (fun k_ => ((((((P0_ k_ ∨ P1_1_ k_ ∨ P4_ k_) ∨ w.heap.size ≤ k_) ∧ k_ ≠ gb418) ∧ some k_ ≠ (.slice Ao57 t425.length co57 : Value).ownBlock) ∧ some k_ ≠ (.slice Ao54 y432.length co54 : Value).ownBlock) ∧ some k_ ≠ (.slice (some ad438) t435.length co56 : Value).ownBlock)) _ _ l4 t450 t453 t456 _ ?side1 ?side2 A42.out).mono ?_); (case side1 => exact Kd.N_V (HO427.out)); (case side2 => exact HO_4.out); rintro e w60 ⟨v451, v454, rfl, ho0, ho1, hb⟩; refine ⟨_, rfl, ?_⟩; replace HO_0 := vb_ HO_0 hb; replace HO_4 := vb_ HO_4 hb; replace HO_419001 := vb_ HO_419001 hb; replace HO427 := nb_ HO427 hb; replace HO430 := vb_ HO430 hb; replace HL438_1 := vb_ HL438_1 hb; replace HO441 := vb_ HO441 hb; replace HO445 := vb_ HO445 hb; replace HO448 := vb_ HO448 hb; replace HO452 := Aside0.mk (Kd.V_lower (Kd.V_mono (ok' := fun k_ => ((P0_ k_ ∨ P1_1_ k_ ∨ P4_ k_) ∨ w.heap.size ≤ k_) ∧ some k_ ≠ (.slice Ao54 y432.length co54 : Value).ownBlock ∧ some k_ ≠ (.slice (some ad438) t435.length co56 : Value).ownBlock ∧ k_ ≠ gb418) ho0 (fun k_ hk_ => ⟨Or.elim hk_ (fun hs_ => Or.elim hs_ (fun hs_ => hs_.1.1.1) (fun hs_ => hs_.1.1.1.1)) (fun hn_ => (.inr (Nat.le_trans (below_size bsw_) hn_))), Or.elim hk_ (fun hs_ => Or.elim hs_ (fun hs_ => hs_.1.2) (fun hs_ => hs_.1.2)) (fun hn_ => (Kd.fresh' (Kd.N_lt (nq_ HO434)) k_ hn_)), Or.elim hk_ (fun hs_ => Or.elim hs_ (fun hs_ => hs_.2) (fun hs_ => hs_.2)) (fun hn_ => (Kd.fresh' (Kd.N_lt (nq_ HO437)) k_ hn_)), Or.elim hk_ (fun hs_ => Or.elim hs_ (fun hs_ => hs_.1.1.2) (fun hs_ => hs_.1.1.1.2)) (fun hn_ => (Kd.freshB (g := gb418) (o := .cells #[.int .i64 a1_0, .slice A1_1 l1_1.length c1_1] 25 (0, 0)) (bq_ BK418) k_ hn_))⟩)) (below_size bsw_)); replace HO455 := Aside0.mk (Kd.V_lower (Kd.V_mono (ok' := fun k_ => ((P0_ k_ ∨ P1_1_ k_ ∨ P4_ k_) ∨ w.heap.size ≤ k_) ∧ some k_ ≠ (.slice Ao54 y432.length co54 : Value).ownBlock ∧ some k_ ≠ (.slice (some ad438) t435.length co56 : Value).ownBlock ∧ k_ ≠ gb418) ho1 (fun k_ hk_ => ⟨Or.elim hk_ (fun hs_ => Or.elim hs_ (fun hs_ => hs_.1.1.1) (fun hs_ => hs_.1.1.1.1)) (fun hn_ => (.inr (Nat.le_trans (below_size bsw_) hn_))), Or.elim hk_ (fun hs_ => Or.elim hs_ (fun hs_ => hs_.1.2) (fun hs_ => hs_.1.2)) (fun hn_ => (Kd.fresh' (Kd.N_lt (nq_ HO434)) k_ hn_)), Or.elim hk_ (fun hs_ => Or.elim hs_ (fun hs_ => hs_.2) (fun hs_ => hs_.2)) (fun hn_ => (Kd.fresh' (Kd.N_lt (nq_ HO437)) k_ hn_)), Or.elim hk_ (fun hs_ => Or.elim hs_ (fun hs_ => hs_.1.1.2) (fun hs_ => hs_.1.1.1.2)) (fun hn_ => (Kd.freshB (g := gb418) (o := .cells #[.int .i64 a1_0, .slice A1_1 l1_1.length c1_1] 25 (0, 0)) (bq_ BK418) k_ hn_))⟩)) (below_size bsw_)); replace HO434 := nb_ HO434 hb; replace HO437 := nb_ HO437 hb; replace BK418 := bb_ BK418 hb; replace HR438_1 := Aside0.mk (Kd.V_reads' HL438_1.out).2.2; replace HB := Aside0.mk (below_step bsw_ hb); (try clear hb); (try clear hb2); (try clear hk); (try clear hi); (try clear ho0); (try clear ho1)) | ((with_reducible refine gate_callee (f := 18) rfl ?_); refine goesL_ (some 92) rfl rfl Try.func18 (by kernel_rfl) rfl #[.slice A0 l0.length c0, .slice A4 l4.length c4, .slice A5 l5.length c5] rfl mp_ ?_; (with_reducible refine (after_All.calls kj6 (fun k_ => ((((((P0_ k_ ∨ P1_1_ k_ ∨ P4_ k_) ∨ w.heap.size ≤ k_) ∧ k_ ≠ gb418) ∧ some k_ ≠ (.slice Ao57 t425.length co57 : Value).ownBlock) ∧ some k_ ≠ (.slice Ao54 y432.length co54 : Value).ownBlock) ∧ some k_ ≠ (.slice (some ad438) t435.length co56 : Value).ownBlock)) _ _ l0 (fun k_ => ((((((P0_ k_ ∨ P1_1_ k_ ∨ P4_ k_) ∨ w.heap.size ≤ k_) ∧ k_ ≠ gb418) ∧ some k_ ≠ (.slice Ao57 t425.length co57 : Value).ownBlock) ∧ some k_ ≠ (.slice Ao54 y432.length co54 : Value).ownBlock) ∧ some k_ ≠ (.slice (some ad438) t435.length co56 : Value).ownBlock)) _ _ l4 _ _ l5 t457 t460 t463 _ ?side1 ?side2 ?side3 ?side4 A43.out).mono ?_); (case side1 => exact HO_0.out); (case side2 => exact HO_4.out); (case side3 => repeat (first | exact (Kd.C_below HR5.out HB.out) | with_reducible first | refine Kd.C_alloc ?_ _ | refine Kd.C_drewN ?_ _ | refine Kd.C_drew ?_)); (case side4 => exact HC5.out); rintro e w61 ⟨v458, v461, rfl, ho0, ho1, hb⟩; refine ⟨_, rfl, ?_⟩; replace HO_0 := vb_ HO_0 hb; replace HO_4 := vb_ HO_4 hb; replace HO_419001 := vb_ HO_419001 hb; replace HO430 := vb_ HO430 hb; replace HL438_1 := vb_ HL438_1 hb; replace HO441 := vb_ HO441 hb; replace HO445 := vb_ HO445 hb; replace HO448 := vb_ HO448 hb; replace HO452 := vb_ HO452 hb; replace HO455 := vb_ HO455 hb; replace HO459 := Aside0.mk (Kd.V_lower (Kd.V_mono (ok' := fun k_ => ((P0_ k_ ∨ P1_1_ k_ ∨ P4_ k_) ∨ w.heap.size ≤ k_) ∧ some k_ ≠ (.slice Ao57 t425.length co57 : Value).ownBlock ∧ some k_ ≠ (.slice Ao54 y432.length co54 : Value).ownBlock ∧ some k_ ≠ (.slice (some ad438) t435.length co56 : Value).ownBlock ∧ k_ ≠ gb418) ho0 (fun k_ hk_ => ⟨Or.elim hk_ (fun hs_ => Or.elim hs_ (fun hs_ => hs_.1.1.1.1) (fun hs_ => hs_.1.1.1.1)) (fun hn_ => (.inr (Nat.le_trans (below_size bsw_) hn_))), Or.elim hk_ (fun hs_ => Or.elim hs_ (fun hs_ => hs_.1.1.2) (fun hs_ => hs_.1.1.2)) (fun hn_ => (Kd.fresh' (Kd.N_lt (nq_ HO427)) k_ hn_)), Or.elim hk_ (fun hs_ => Or.elim hs_ (fun hs_ => hs_.1.2) (fun hs_ => hs_.1.2)) (fun hn_ => (Kd.fresh' (Kd.N_lt (nq_ HO434)) k_ hn_)), Or.elim hk_ (fun hs_ => Or.elim hs_ (fun hs_ => hs_.2) (fun hs_ => hs_.2)) (fun hn_ => (Kd.fresh' (Kd.N_lt (nq_ HO437)) k_ hn_)), Or.elim hk_ (fun hs_ => Or.elim hs_ (fun hs_ => hs_.1.1.1.2) (fun hs_ => hs_.1.1.1.2)) (fun hn_ => (Kd.freshB (g := gb418) (o := .cells #[.int .i64 a1_0, .slice A1_1 l1_1.length c1_1] 25 (0, 0)) (bq_ BK418) k_ hn_))⟩)) (below_size bsw_)); replace HO462 := Aside0.mk (Kd.V_lower (Kd.V_mono (ok' := fun k_ => ((P0_ k_ ∨ P1_1_ k_ ∨ P4_ k_) ∨ w.heap.size ≤ k_) ∧ some k_ ≠ (.slice Ao57 t425.length co57 : Value).ownBlock ∧ some k_ ≠ (.slice Ao54 y432.length co54 : Value).ownBlock ∧ some k_ ≠ (.slice (some ad438) t435.length co56 : Value).ownBlock ∧ k_ ≠ gb418) ho1 (fun k_ hk_ => ⟨Or.elim hk_ (fun hs_ => Or.elim hs_ (fun hs_ => hs_.1.1.1.1) (fun hs_ => hs_.1.1.1.1)) (fun hn_ => (.inr (Nat.le_trans (below_size bsw_) hn_))), Or.elim hk_ (fun hs_ => Or.elim hs_ (fun hs_ => hs_.1.1.2) (fun hs_ => hs_.1.1.2)) (fun hn_ => (Kd.fresh' (Kd.N_lt (nq_ HO427)) k_ hn_)), Or.elim hk_ (fun hs_ => Or.elim hs_ (fun hs_ => hs_.1.2) (fun hs_ => hs_.1.2)) (fun hn_ => (Kd.fresh' (Kd.N_lt (nq_ HO434)) k_ hn_)), Or.elim hk_ (fun hs_ => Or.elim hs_ (fun hs_ => hs_.2) (fun hs_ => hs_.2)) (fun hn_ => (Kd.fresh' (Kd.N_lt (nq_ HO437)) k_ hn_)), Or.elim hk_ (fun hs_ => Or.elim hs_ (fun hs_ => hs_.1.1.1.2) (fun hs_ => hs_.1.1.1.2)) (fun hn_ => (Kd.freshB (g := gb418) (o := .cells #[.int .i64 a1_0, .slice A1_1 l1_1.length c1_1] 25 (0, 0)) (bq_ BK418) k_ hn_))⟩)) (below_size bsw_)); replace HO427 := nb_ HO427 hb; replace HO434 := nb_ HO434 hb; replace HO437 := nb_ HO437 hb; replace BK418 := bb_ BK418 hb; replace HR438_1 := Aside0.mk (Kd.V_reads' HL438_1.out).2.2; replace HB := Aside0.mk (below_step bsw_ hb); (try clear hb); (try clear hb2); (try clear hk); (try clear hi); (try clear ho0); (try clear ho1)) | ((with_reducible refine gate_callee (f := 19) rfl ?_); refine goesL_ (some 100) rfl rfl Try.func19 (by kernel_rfl) rfl #[.slice Ao57 t425.length co57, .slice A4 l4.length c4, .slice A5 l5.length c5] rfl mp_ ?_; (with_reducible refine (handshakerref22_All.calls kj6 (fun k_ => (((((P0_ k_ ∨ P1_1_ k_ ∨ P4_ k_) ∨ w.heap.size ≤ k_) ∧ k_ ≠ gb418) ∧ some k_ ≠ (.slice Ao54 y432.length co54 : Value).ownBlock) ∧ some k_ ≠ (.slice (some ad438) t435.length co56 : Value).ownBlock)) _ _ t425 (fun k_ => ((((((P0_ k_ ∨ P1_1_ k_ ∨ P4_ k_) ∨ w.heap.size ≤ k_) ∧ k_ ≠ gb418) ∧ some k_ ≠ (.slice Ao57 t425.length co57 : Value).ownBlock) ∧ some k_ ≠ (.slice Ao54 y432.length co54 : Value).ownBlock) ∧ some k_ ≠ (.slice (some ad438) t435.length co56 : Value).ownBlock)) _ _ l4 _ _ l5 t464 t467 t470 _ ?side1 ?side2 ?side3 ?side4 A44.out).mono ?_); (case side1 => exact Kd.N_V (HO427.out)); (case side2 => exact HO_4.out); (case side3 => repeat (first | exact (Kd.C_below HR5.out HB.out) | with_reducible first | refine Kd.C_alloc ?_ _ | refine Kd.C_drewN ?_ _ | refine Kd.C_drew ?_)); (case side4 => exact HC5.out); rintro e w62 ⟨v465, v468, rfl, ho0, ho1, hb⟩; refine ⟨_, rfl, ?_⟩; replace HO_0 := vb_ HO_0 hb; replace HO_4 := vb_ HO_4 hb; replace HO_419001 := vb_ HO_419001 hb; replace HO427 := nb_ HO427 hb; replace HO430 := vb_ HO430 hb; replace HL438_1 := vb_ HL438_1 hb; replace HO441 := vb_ HO441 hb; replace HO445 := vb_ HO445 hb; replace HO448 := vb_ HO448 hb; replace HO452 := vb_ HO452 hb; replace HO455 := vb_ HO455 hb; replace HO459 := vb_ HO459 hb; replace HO462 := vb_ HO462 hb; replace HO466 := Aside0.mk (Kd.V_lower (Kd.V_mono (ok' := fun k_ => ((P0_ k_ ∨ P1_1_ k_ ∨ P4_ k_) ∨ w.heap.size ≤ k_) ∧ some k_ ≠ (.slice Ao54 y432.length co54 : Value).ownBlock ∧ some k_ ≠ (.slice (some ad438) t435.length co56 : Value).ownBlock ∧ k_ ≠ gb418) ho0 (fun k_ hk_ => ⟨Or.elim hk_ (fun hs_ => Or.elim hs_ (fun hs_ => hs_.1.1.1) (fun hs_ => hs_.1.1.1.1)) (fun hn_ => (.inr (Nat.le_trans (below_size bsw_) hn_))), Or.elim hk_ (fun hs_ => Or.elim hs_ (fun hs_ => hs_.1.2) (fun hs_ => hs_.1.2)) (fun hn_ => (Kd.fresh' (Kd.N_lt (nq_ HO434)) k_ hn_)), Or.elim hk_ (fun hs_ => Or.elim hs_ (fun hs_ => hs_.2) (fun hs_ => hs_.2)) (fun hn_ => (Kd.fresh' (Kd.N_lt (nq_ HO437)) k_ hn_)), Or.elim hk_ (fun hs_ => Or.elim hs_ (fun hs_ => hs_.1.1.2) (fun hs_ => hs_.1.1.1.2)) (fun hn_ => (Kd.freshB (g := gb418) (o := .cells #[.int .i64 a1_0, .slice A1_1 l1_1.length c1_1] 25 (0, 0)) (bq_ BK418) k_ hn_))⟩)) (below_size bsw_)); replace HO469 := Aside0.mk (Kd.V_lower (Kd.V_mono (ok' := fun k_ => ((P0_ k_ ∨ P1_1_ k_ ∨ P4_ k_) ∨ w.heap.size ≤ k_) ∧ some k_ ≠ (.slice Ao54 y432.length co54 : Value).ownBlock ∧ some k_ ≠ (.slice (some ad438) t435.length co56 : Value).ownBlock ∧ k_ ≠ gb418) ho1 (fun k_ hk_ => ⟨Or.elim hk_ (fun hs_ => Or.elim hs_ (fun hs_ => hs_.1.1.1) (fun hs_ => hs_.1.1.1.1)) (fun hn_ => (.inr (Nat.le_trans (below_size bsw_) hn_))), Or.elim hk_ (fun hs_ => Or.elim hs_ (fun hs_ => hs_.1.2) (fun hs_ => hs_.1.2)) (fun hn_ => (Kd.fresh' (Kd.N_lt (nq_ HO434)) k_ hn_)), Or.elim hk_ (fun hs_ => Or.elim hs_ (fun hs_ => hs_.2) (fun hs_ => hs_.2)) (fun hn_ => (Kd.fresh' (Kd.N_lt (nq_ HO437)) k_ hn_)), Or.elim hk_ (fun hs_ => Or.elim hs_ (fun hs_ => hs_.1.1.2) (fun hs_ => hs_.1.1.1.2)) (fun hn_ => (Kd.freshB (g := gb418) (o := .cells #[.int .i64 a1_0, .slice A1_1 l1_1.length c1_1] 25 (0, 0)) (bq_ BK418) k_ hn_))⟩)) (below_size bsw_)); replace HO434 := nb_ HO434 hb; replace HO437 := nb_ HO437 hb; replace BK418 := bb_ BK418 hb; replace HR438_1 := Aside0.mk (Kd.V_reads' HL438_1.out).2.2; replace HB := Aside0.mk (below_step bsw_ hb); (try clear hb); (try clear hb2); (try clear hk); (try clear hi); (try clear ho0); (try clear ho1)) | ((with_reducible refine gate_callee (f := 20) rfl ?_); refine goesL_ (some 109) rfl rfl Try.func20 (by kernel_rfl) rfl #[.slice A0 l0.length c0, .int .i64 a2, .slice A4 l4.length c4, .int .i64 a3] rfl mp_ ?_; (with_reducible refine (after_See.calls kj6 _ _ l0 a2 _ _ l4 a3 t471 t472 _ ?side1 ?side2 ?side3 ?side4 A45.out).mono ?_); (case side1 => repeat (first | exact (Kd.V_reads' HO_0.out).2.2 | with_reducible first | refine Kd.C_alloc ?_ _ | refine Kd.C_drewN ?_ _ | refine Kd.C_drew ?_)); (case side2 => exact (Kd.V_reads' HO_0.out).2.1); (case side3 => repeat (first | exact (Kd.V_reads' HO_4.out).2.2 | with_reducible first | refine Kd.C_alloc ?_ _ | refine Kd.C_drewN ?_ _ | refine Kd.C_drew ?_)); (case side4 => exact (Kd.V_reads' HO_4.out).2.1); rintro e w63 ⟨rfl, hb⟩; refine ⟨_, rfl, ?_⟩; replace HO_0 := vb_ HO_0 hb; replace HO_4 := vb_ HO_4 hb; replace HO_419001 := vb_ HO_419001 hb; replace HO427 := nb_ HO427 hb; replace HO430 := vb_ HO430 hb; replace HO434 := nb_ HO434 hb; replace HO437 := nb_ HO437 hb; replace HL438_1 := vb_ HL438_1 hb; replace HO441 := vb_ HO441 hb; replace HO445 := vb_ HO445 hb; replace HO448 := vb_ HO448 hb; replace HO452 := vb_ HO452 hb; replace HO455 := vb_ HO455 hb; replace HO459 := vb_ HO459 hb; replace HO462 := vb_ HO462 hb; replace HO466 := vb_ HO466 hb; replace HO469 := vb_ HO469 hb; replace BK418 := bb_ BK418 hb; replace HR438_1 := Aside0.mk (Kd.V_reads' HL438_1.out).2.2; replace HB := Aside0.mk (below_step bsw_ hb); (try clear hb); (try clear hb2); (try clear hk); (try clear hi)) | ((with_reducible refine gate_callee (f := 21) rfl ?_); refine goesL_ (some 117) rfl rfl Try.func21 (by kernel_rfl) rfl #[.slice Ao57 t425.length co57, .int .i64 a2, .slice A4 l4.length c4, .int .i64 a3] rfl mp_ ?_; (with_reducible refine (handshakerref22_See.calls kj6 _ _ t425 a2 _ _ l4 a3 t473 t474 _ ?side1 ?side2 ?side3 ?side4 A46.out).mono ?_); (case side1 => repeat (first | exact (Kd.N_reads' HO427.out).2.2 | with_reducible first | refine Kd.C_alloc ?_ _ | refine Kd.C_drewN ?_ _ | refine Kd.C_drew ?_)); (case side2 => exact (Kd.N_reads' HO427.out).2.1); (case side3 => repeat (first | exact (Kd.V_reads' HO_4.out).2.2 | with_reducible first | refine Kd.C_alloc ?_ _ | refine Kd.C_drewN ?_ _ | refine Kd.C_drew ?_)); (case side4 => exact (Kd.V_reads' HO_4.out).2.1); rintro e w64 ⟨rfl, hb⟩; refine ⟨_, rfl, ?_⟩; replace HO_0 := vb_ HO_0 hb; replace HO_4 := vb_ HO_4 hb; replace HO_419001 := vb_ HO_419001 hb; replace HO427 := nb_ HO427 hb; replace HO430 := vb_ HO430 hb; replace HO434 := nb_ HO434 hb; replace HO437 := nb_ HO437 hb; replace HL438_1 := vb_ HL438_1 hb; replace HO441 := vb_ HO441 hb; replace HO445 := vb_ HO445 hb; replace HO448 := vb_ HO448 hb; replace HO452 := vb_ HO452 hb; replace HO455 := vb_ HO455 hb; replace HO459 := vb_ HO459 hb; replace HO462 := vb_ HO462 hb; replace HO466 := vb_ HO466 hb; replace HO469 := vb_ HO469 hb; replace BK418 := bb_ BK418 hb; replace HR438_1 := Aside0.mk (Kd.V_reads' HL438_1.out).2.2; replace HB := Aside0.mk (below_step bsw_ hb); (try clear hb); (try clear hb2); (try clear hk); (try clear hi)))
       (try simp only [Act.put, List.setIfInBounds_toArray, List.set_cons_zero, List.set_cons_succ])
       go_cut [143] (fun v143 wc => ∃ (kq : Nat) (x143_46 : Bool), v143 = .bool x143_46 ∧ Aside0 (handshakerlaw22_AfterTells.j1 kq t428 t431 t439 t442 t443 t446 t449 t450 t453 t456 t457 t460 t463 t464 t467 t470 x143_46 = some r) ∧ Aside0 (kq ≤ kj6) ∧ Aside0 (Kd.V k25 25 wc w.heap.size (fun k_ => ((P0_ k_ ∨ P1_1_ k_ ∨ P4_ k_) ∨ w.heap.size ≤ k_) ∧ k_ ≠ gb418) v429 t428) ∧ Aside0 (Kd.V k39 39 wc w.heap.size (fun k_ => ((P0_ k_ ∨ P1_1_ k_ ∨ P4_ k_) ∨ w.heap.size ≤ k_) ∧ k_ ≠ gb418) v440 t439) ∧ Aside0 (Kd.V k25 25 wc w.heap.size (fun k_ => ((P0_ k_ ∨ P1_1_ k_ ∨ P4_ k_) ∨ w.heap.size ≤ k_) ∧ k_ ≠ gb418) v444 t443) ∧ Aside0 (Kd.V k66 66 wc w.heap.size (fun k_ => ((P0_ k_ ∨ P1_1_ k_ ∨ P4_ k_) ∨ w.heap.size ≤ k_) ∧ k_ ≠ gb418) v447 t446) ∧ Aside0 (Kd.V k39 39 wc w.heap.size (fun k_ => ((P0_ k_ ∨ P1_1_ k_ ∨ P4_ k_) ∨ w.heap.size ≤ k_) ∧ k_ ≠ gb418) v451 t450) ∧ Aside0 (Kd.V k66 66 wc w.heap.size (fun k_ => ((P0_ k_ ∨ P1_1_ k_ ∨ P4_ k_) ∨ w.heap.size ≤ k_) ∧ k_ ≠ gb418) v454 t453) ∧ Aside0 (Kd.V k25 25 wc w.heap.size (fun k_ => ((P0_ k_ ∨ P1_1_ k_ ∨ P4_ k_) ∨ w.heap.size ≤ k_) ∧ k_ ≠ gb418) v458 t457) ∧ Aside0 (Kd.V k66 66 wc w.heap.size (fun k_ => ((P0_ k_ ∨ P1_1_ k_ ∨ P4_ k_) ∨ w.heap.size ≤ k_) ∧ k_ ≠ gb418) v461 t460) ∧ Aside0 (Kd.V k39 39 wc w.heap.size (fun k_ => ((P0_ k_ ∨ P1_1_ k_ ∨ P4_ k_) ∨ w.heap.size ≤ k_) ∧ k_ ≠ gb418) v465 t464) ∧ Aside0 (Kd.V k66 66 wc w.heap.size (fun k_ => ((P0_ k_ ∨ P1_1_ k_ ∨ P4_ k_) ∨ w.heap.size ≤ k_) ∧ k_ ≠ gb418) v468 t467) ∧ Aside0 (Kd.V k61 61 wc w.heap.size (fun k_ => ((P0_ k_ ∨ P1_1_ k_ ∨ P4_ k_) ∨ w.heap.size ≤ k_) ∧ k_ ≠ gb418) (.slice A1_1 l1_1.length c1_1) l1_1) ∧ Aside0 (wc.heap[gb418]? = some (.cells #[.int .i64 a1_0, (.slice A1_1 l1_1.length c1_1)] 25 (0, 0))) ∧ Aside0 (Kd.C k87 wc A438_1 ((rd_T39 t435 0).f1).length ((rd_T39 t435 0).f1)) ∧ Aside0 (Below w.heap.size w wc))
       case first =>
        have H := HC47.out
        clear HC47
        replace H := Option.bind_eq_some_iff.mp H
        obtain ⟨t475, A650, H⟩ := H
        have A65 := Aside0.mk A650
        clear A650
        replace H := Option.bind_eq_some_iff.mp H
        obtain ⟨t476, A660, H⟩ := H
        have A66 := Aside0.mk A660
        clear A660
        by_cases c67 : t475 = true
        · subst c67
          rw [if_pos rfl] at H
          by_cases c68 : t476 = true
          · subst c68
            rw [if_pos rfl] at H
            replace H := Option.bind_eq_some_iff.mp H
            obtain ⟨t477, A690, H⟩ := H
            have A69 := Aside0.mk A690
            clear A690
            replace H := Option.bind_eq_some_iff.mp H
            obtain ⟨t478, A700, H⟩ := H
            have A70 := Aside0.mk A700
            clear A700
            by_cases c71 : t477 = t478
            · rw [if_pos c71] at H
              have c71b0 : (t477 == t478) = true := beq_iff_eq.mpr c71
              have c71b1 : (t477 != t478) = false := bne_eq_false_iff_eq.mpr c71
              clear c71
              (first | rw [c71b0] | (simp only [i64_w, i32_w]; rw [c71b0]) | skip)
              by_cases c72 : t471 = t473
              · rw [if_pos c72] at H
                have c72b0 : (t471 == t473) = true := beq_iff_eq.mpr c72
                have c72b1 : (t471 != t473) = false := bne_eq_false_iff_eq.mpr c72
                clear c72
                have H' := Aside0.mk H
                clear H
                go_wp2_with (first | ((with_reducible refine gate_callee (f := 22) rfl ?_); refine goesL_ (some 121) rfl rfl Try.func22 (by kernel_rfl) rfl #[.slice A0 l0.length c0] rfl mp_ ?_; (with_reducible refine (after_Right.calls kj6 _ _ l0 true _ ?side1 ?side2 A65.out).mono ?_); (case side1 => repeat (first | exact (Kd.V_reads' HO_0.out).2.2 | with_reducible first | refine Kd.C_alloc ?_ _ | refine Kd.C_drewN ?_ _ | refine Kd.C_drew ?_)); (case side2 => exact (Kd.V_reads' HO_0.out).2.1); rintro e w73 ⟨rfl, hb⟩; refine ⟨_, rfl, ?_⟩; replace HO_0 := vb_ HO_0 hb; replace HO_4 := vb_ HO_4 hb; replace HO_419001 := vb_ HO_419001 hb; replace HO427 := nb_ HO427 hb; replace HO430 := vb_ HO430 hb; replace HO434 := nb_ HO434 hb; replace HO437 := nb_ HO437 hb; replace HL438_1 := vb_ HL438_1 hb; replace HO441 := vb_ HO441 hb; replace HO445 := vb_ HO445 hb; replace HO448 := vb_ HO448 hb; replace HO452 := vb_ HO452 hb; replace HO455 := vb_ HO455 hb; replace HO459 := vb_ HO459 hb; replace HO462 := vb_ HO462 hb; replace HO466 := vb_ HO466 hb; replace HO469 := vb_ HO469 hb; replace BK418 := bb_ BK418 hb; replace HR438_1 := Aside0.mk (Kd.V_reads' HL438_1.out).2.2; replace HB := Aside0.mk (below_step bsw_ hb); (try clear hb); (try clear hb2); (try clear hk); (try clear hi)) | ((with_reducible refine gate_callee (f := 23) rfl ?_); refine goesL_ (some 123) rfl rfl Try.func23 (by kernel_rfl) rfl #[.slice Ao57 t425.length co57] rfl mp_ ?_; (with_reducible refine (handshakerref22_Right.calls kj6 _ _ t425 true _ ?side1 ?side2 A66.out).mono ?_); (case side1 => repeat (first | exact (Kd.N_reads' HO427.out).2.2 | with_reducible first | refine Kd.C_alloc ?_ _ | refine Kd.C_drewN ?_ _ | refine Kd.C_drew ?_)); (case side2 => exact (Kd.N_reads' HO427.out).2.1); rintro e w74 ⟨rfl, hb⟩; refine ⟨_, rfl, ?_⟩; replace HO_0 := vb_ HO_0 hb; replace HO_4 := vb_ HO_4 hb; replace HO_419001 := vb_ HO_419001 hb; replace HO427 := nb_ HO427 hb; replace HO430 := vb_ HO430 hb; replace HO434 := nb_ HO434 hb; replace HO437 := nb_ HO437 hb; replace HL438_1 := vb_ HL438_1 hb; replace HO441 := vb_ HO441 hb; replace HO445 := vb_ HO445 hb; replace HO448 := vb_ HO448 hb; replace HO452 := vb_ HO452 hb; replace HO455 := vb_ HO455 hb; replace HO459 := vb_ HO459 hb; replace HO462 := vb_ HO462 hb; replace HO466 := vb_ HO466 hb; replace HO469 := vb_ HO469 hb; replace BK418 := bb_ BK418 hb; replace HR438_1 := Aside0.mk (Kd.V_reads' HL438_1.out).2.2; replace HB := Aside0.mk (below_step bsw_ hb); (try clear hb); (try clear hb2); (try clear hk); (try clear hi)) | (go_at_call 24; (with_reducible refine (after_Holder.calls kj6 _ _ l0 a3 t477 _ ?side1 ?side2 A69.out).mono ?_); (case side1 => repeat (first | exact (Kd.V_reads' HO_0.out).2.2 | with_reducible first | refine Kd.C_alloc ?_ _ | refine Kd.C_drewN ?_ _ | refine Kd.C_drew ?_)); (case side2 => exact (Kd.V_reads' HO_0.out).2.1); rintro e w75 ⟨rfl, hb⟩; replace HO_0 := vb_ HO_0 hb; replace HO_4 := vb_ HO_4 hb; replace HO_419001 := vb_ HO_419001 hb; replace HO427 := nb_ HO427 hb; replace HO430 := vb_ HO430 hb; replace HO434 := nb_ HO434 hb; replace HO437 := nb_ HO437 hb; replace HL438_1 := vb_ HL438_1 hb; replace HO441 := vb_ HO441 hb; replace HO445 := vb_ HO445 hb; replace HO448 := vb_ HO448 hb; replace HO452 := vb_ HO452 hb; replace HO455 := vb_ HO455 hb; replace HO459 := vb_ HO459 hb; replace HO462 := vb_ HO462 hb; replace HO466 := vb_ HO466 hb; replace HO469 := vb_ HO469 hb; replace BK418 := bb_ BK418 hb; replace HR438_1 := Aside0.mk (Kd.V_reads' HL438_1.out).2.2; replace HB := Aside0.mk (below_step bsw_ hb); (try clear hb); (try clear hb2); (try clear hk); (try clear hi)) | (go_at_call 25; (with_reducible refine (handshakerref22_Holder.calls kj6 _ _ t425 a3 t478 _ ?side1 ?side2 A70.out).mono ?_); (case side1 => repeat (first | exact (Kd.N_reads' HO427.out).2.2 | with_reducible first | refine Kd.C_alloc ?_ _ | refine Kd.C_drewN ?_ _ | refine Kd.C_drew ?_)); (case side2 => exact (Kd.N_reads' HO427.out).2.1); rintro e w76 ⟨rfl, hb⟩; replace HO_0 := vb_ HO_0 hb; replace HO_4 := vb_ HO_4 hb; replace HO_419001 := vb_ HO_419001 hb; replace HO427 := nb_ HO427 hb; replace HO430 := vb_ HO430 hb; replace HO434 := nb_ HO434 hb; replace HO437 := nb_ HO437 hb; replace HL438_1 := vb_ HL438_1 hb; replace HO441 := vb_ HO441 hb; replace HO445 := vb_ HO445 hb; replace HO448 := vb_ HO448 hb; replace HO452 := vb_ HO452 hb; replace HO455 := vb_ HO455 hb; replace HO459 := vb_ HO459 hb; replace HO462 := vb_ HO462 hb; replace HO466 := vb_ HO466 hb; replace HO469 := vb_ HO469 hb; replace BK418 := bb_ BK418 hb; replace HR438_1 := Aside0.mk (Kd.V_reads' HL438_1.out).2.2; replace HB := Aside0.mk (below_step bsw_ hb); (try clear hb); (try clear hb2); (try clear hk); (try clear hi)))
                go_meet
                case rel => exact ⟨_, ((t472 != t474)), (by first | rfl | (simp; done) | (simp [*]; done)), H', ⟨by have := HJ6.out; first | omega | exact Nat.le_refl _⟩, ⟨Kd.V_mono (vq_ HO430) (fun _ hk => ⟨hk.1.1.1, hk.1.1.2.2⟩)⟩, ⟨Kd.V_mono (vq_ HO441) (fun _ hk => ⟨hk.1, hk.2.2.2⟩)⟩, ⟨Kd.V_mono (vq_ HO445) (fun _ hk => ⟨hk.1, hk.2.2.2.2⟩)⟩, ⟨Kd.V_mono (vq_ HO448) (fun _ hk => ⟨hk.1, hk.2.2.2.2⟩)⟩, ⟨Kd.V_mono (vq_ HO452) (fun _ hk => ⟨hk.1, hk.2.2.2⟩)⟩, ⟨Kd.V_mono (vq_ HO455) (fun _ hk => ⟨hk.1, hk.2.2.2⟩)⟩, ⟨Kd.V_mono (vq_ HO459) (fun _ hk => ⟨hk.1, hk.2.2.2.2⟩)⟩, ⟨Kd.V_mono (vq_ HO462) (fun _ hk => ⟨hk.1, hk.2.2.2.2⟩)⟩, ⟨Kd.V_mono (vq_ HO466) (fun _ hk => ⟨hk.1, hk.2.2.2⟩)⟩, ⟨Kd.V_mono (vq_ HO469) (fun _ hk => ⟨hk.1, hk.2.2.2⟩)⟩, ⟨Kd.V_mono (vq_ HO_419001) (fun _ hk => ⟨hk.1.1.1.1, hk.1.1.1.2⟩)⟩, ⟨bq_ BK418⟩, ⟨by repeat (first | (with_reducible exact HR438_1.out) | (with_reducible refine Kd.C_alloc ?_ _) | (with_reducible refine Kd.C_drewN ?_ _) | (with_reducible refine Kd.C_drew ?_) | exact HR438_1.out)⟩, ⟨bsw_⟩⟩
              · rw [if_neg c72] at H
                have c72b0 : (t471 == t473) = false := beq_eq_false_iff_ne.mpr c72
                have c72b1 : (t471 != t473) = true := bne_iff_ne.mpr c72
                have H' := Aside0.mk H
                clear H
                go_wp2_with (first | ((with_reducible refine gate_callee (f := 22) rfl ?_); refine goesL_ (some 121) rfl rfl Try.func22 (by kernel_rfl) rfl #[.slice A0 l0.length c0] rfl mp_ ?_; (with_reducible refine (after_Right.calls kj6 _ _ l0 true _ ?side1 ?side2 A65.out).mono ?_); (case side1 => repeat (first | exact (Kd.V_reads' HO_0.out).2.2 | with_reducible first | refine Kd.C_alloc ?_ _ | refine Kd.C_drewN ?_ _ | refine Kd.C_drew ?_)); (case side2 => exact (Kd.V_reads' HO_0.out).2.1); rintro e w77 ⟨rfl, hb⟩; refine ⟨_, rfl, ?_⟩; replace HO_0 := vb_ HO_0 hb; replace HO_4 := vb_ HO_4 hb; replace HO_419001 := vb_ HO_419001 hb; replace HO427 := nb_ HO427 hb; replace HO430 := vb_ HO430 hb; replace HO434 := nb_ HO434 hb; replace HO437 := nb_ HO437 hb; replace HL438_1 := vb_ HL438_1 hb; replace HO441 := vb_ HO441 hb; replace HO445 := vb_ HO445 hb; replace HO448 := vb_ HO448 hb; replace HO452 := vb_ HO452 hb; replace HO455 := vb_ HO455 hb; replace HO459 := vb_ HO459 hb; replace HO462 := vb_ HO462 hb; replace HO466 := vb_ HO466 hb; replace HO469 := vb_ HO469 hb; replace BK418 := bb_ BK418 hb; replace HR438_1 := Aside0.mk (Kd.V_reads' HL438_1.out).2.2; replace HB := Aside0.mk (below_step bsw_ hb); (try clear hb); (try clear hb2); (try clear hk); (try clear hi)) | ((with_reducible refine gate_callee (f := 23) rfl ?_); refine goesL_ (some 123) rfl rfl Try.func23 (by kernel_rfl) rfl #[.slice Ao57 t425.length co57] rfl mp_ ?_; (with_reducible refine (handshakerref22_Right.calls kj6 _ _ t425 true _ ?side1 ?side2 A66.out).mono ?_); (case side1 => repeat (first | exact (Kd.N_reads' HO427.out).2.2 | with_reducible first | refine Kd.C_alloc ?_ _ | refine Kd.C_drewN ?_ _ | refine Kd.C_drew ?_)); (case side2 => exact (Kd.N_reads' HO427.out).2.1); rintro e w78 ⟨rfl, hb⟩; refine ⟨_, rfl, ?_⟩; replace HO_0 := vb_ HO_0 hb; replace HO_4 := vb_ HO_4 hb; replace HO_419001 := vb_ HO_419001 hb; replace HO427 := nb_ HO427 hb; replace HO430 := vb_ HO430 hb; replace HO434 := nb_ HO434 hb; replace HO437 := nb_ HO437 hb; replace HL438_1 := vb_ HL438_1 hb; replace HO441 := vb_ HO441 hb; replace HO445 := vb_ HO445 hb; replace HO448 := vb_ HO448 hb; replace HO452 := vb_ HO452 hb; replace HO455 := vb_ HO455 hb; replace HO459 := vb_ HO459 hb; replace HO462 := vb_ HO462 hb; replace HO466 := vb_ HO466 hb; replace HO469 := vb_ HO469 hb; replace BK418 := bb_ BK418 hb; replace HR438_1 := Aside0.mk (Kd.V_reads' HL438_1.out).2.2; replace HB := Aside0.mk (below_step bsw_ hb); (try clear hb); (try clear hb2); (try clear hk); (try clear hi)) | (go_at_call 24; (with_reducible refine (after_Holder.calls kj6 _ _ l0 a3 t477 _ ?side1 ?side2 A69.out).mono ?_); (case side1 => repeat (first | exact (Kd.V_reads' HO_0.out).2.2 | with_reducible first | refine Kd.C_alloc ?_ _ | refine Kd.C_drewN ?_ _ | refine Kd.C_drew ?_)); (case side2 => exact (Kd.V_reads' HO_0.out).2.1); rintro e w79 ⟨rfl, hb⟩; replace HO_0 := vb_ HO_0 hb; replace HO_4 := vb_ HO_4 hb; replace HO_419001 := vb_ HO_419001 hb; replace HO427 := nb_ HO427 hb; replace HO430 := vb_ HO430 hb; replace HO434 := nb_ HO434 hb; replace HO437 := nb_ HO437 hb; replace HL438_1 := vb_ HL438_1 hb; replace HO441 := vb_ HO441 hb; replace HO445 := vb_ HO445 hb; replace HO448 := vb_ HO448 hb; replace HO452 := vb_ HO452 hb; replace HO455 := vb_ HO455 hb; replace HO459 := vb_ HO459 hb; replace HO462 := vb_ HO462 hb; replace HO466 := vb_ HO466 hb; replace HO469 := vb_ HO469 hb; replace BK418 := bb_ BK418 hb; replace HR438_1 := Aside0.mk (Kd.V_reads' HL438_1.out).2.2; replace HB := Aside0.mk (below_step bsw_ hb); (try clear hb); (try clear hb2); (try clear hk); (try clear hi)) | (go_at_call 25; (with_reducible refine (handshakerref22_Holder.calls kj6 _ _ t425 a3 t478 _ ?side1 ?side2 A70.out).mono ?_); (case side1 => repeat (first | exact (Kd.N_reads' HO427.out).2.2 | with_reducible first | refine Kd.C_alloc ?_ _ | refine Kd.C_drewN ?_ _ | refine Kd.C_drew ?_)); (case side2 => exact (Kd.N_reads' HO427.out).2.1); rintro e w80 ⟨rfl, hb⟩; replace HO_0 := vb_ HO_0 hb; replace HO_4 := vb_ HO_4 hb; replace HO_419001 := vb_ HO_419001 hb; replace HO427 := nb_ HO427 hb; replace HO430 := vb_ HO430 hb; replace HO434 := nb_ HO434 hb; replace HO437 := nb_ HO437 hb; replace HL438_1 := vb_ HL438_1 hb; replace HO441 := vb_ HO441 hb; replace HO445 := vb_ HO445 hb; replace HO448 := vb_ HO448 hb; replace HO452 := vb_ HO452 hb; replace HO455 := vb_ HO455 hb; replace HO459 := vb_ HO459 hb; replace HO462 := vb_ HO462 hb; replace HO466 := vb_ HO466 hb; replace HO469 := vb_ HO469 hb; replace BK418 := bb_ BK418 hb; replace HR438_1 := Aside0.mk (Kd.V_reads' HL438_1.out).2.2; replace HB := Aside0.mk (below_step bsw_ hb); (try clear hb); (try clear hb2); (try clear hk); (try clear hi)))
                go_meet
                case rel => exact ⟨_, (true), (by first | rfl | (simp; done) | (simp [*]; done)), H', ⟨by have := HJ6.out; first | omega | exact Nat.le_refl _⟩, ⟨Kd.V_mono (vq_ HO430) (fun _ hk => ⟨hk.1.1.1, hk.1.1.2.2⟩)⟩, ⟨Kd.V_mono (vq_ HO441) (fun _ hk => ⟨hk.1, hk.2.2.2⟩)⟩, ⟨Kd.V_mono (vq_ HO445) (fun _ hk => ⟨hk.1, hk.2.2.2.2⟩)⟩, ⟨Kd.V_mono (vq_ HO448) (fun _ hk => ⟨hk.1, hk.2.2.2.2⟩)⟩, ⟨Kd.V_mono (vq_ HO452) (fun _ hk => ⟨hk.1, hk.2.2.2⟩)⟩, ⟨Kd.V_mono (vq_ HO455) (fun _ hk => ⟨hk.1, hk.2.2.2⟩)⟩, ⟨Kd.V_mono (vq_ HO459) (fun _ hk => ⟨hk.1, hk.2.2.2.2⟩)⟩, ⟨Kd.V_mono (vq_ HO462) (fun _ hk => ⟨hk.1, hk.2.2.2.2⟩)⟩, ⟨Kd.V_mono (vq_ HO466) (fun _ hk => ⟨hk.1, hk.2.2.2⟩)⟩, ⟨Kd.V_mono (vq_ HO469) (fun _ hk => ⟨hk.1, hk.2.2.2⟩)⟩, ⟨Kd.V_mono (vq_ HO_419001) (fun _ hk => ⟨hk.1.1.1.1, hk.1.1.1.2⟩)⟩, ⟨bq_ BK418⟩, ⟨by repeat (first | (with_reducible exact HR438_1.out) | (with_reducible refine Kd.C_alloc ?_ _) | (with_reducible refine Kd.C_drewN ?_ _) | (with_reducible refine Kd.C_drew ?_) | exact HR438_1.out)⟩, ⟨bsw_⟩⟩
            · rw [if_neg c71] at H
              have c71b0 : (t477 == t478) = false := beq_eq_false_iff_ne.mpr c71
              have c71b1 : (t477 != t478) = true := bne_iff_ne.mpr c71
              (first | rw [c71b0] | (simp only [i64_w, i32_w]; rw [c71b0]) | skip)
              have H' := Aside0.mk H
              clear H
              go_wp2_with (first | ((with_reducible refine gate_callee (f := 22) rfl ?_); refine goesL_ (some 121) rfl rfl Try.func22 (by kernel_rfl) rfl #[.slice A0 l0.length c0] rfl mp_ ?_; (with_reducible refine (after_Right.calls kj6 _ _ l0 true _ ?side1 ?side2 A65.out).mono ?_); (case side1 => repeat (first | exact (Kd.V_reads' HO_0.out).2.2 | with_reducible first | refine Kd.C_alloc ?_ _ | refine Kd.C_drewN ?_ _ | refine Kd.C_drew ?_)); (case side2 => exact (Kd.V_reads' HO_0.out).2.1); rintro e w81 ⟨rfl, hb⟩; refine ⟨_, rfl, ?_⟩; replace HO_0 := vb_ HO_0 hb; replace HO_4 := vb_ HO_4 hb; replace HO_419001 := vb_ HO_419001 hb; replace HO427 := nb_ HO427 hb; replace HO430 := vb_ HO430 hb; replace HO434 := nb_ HO434 hb; replace HO437 := nb_ HO437 hb; replace HL438_1 := vb_ HL438_1 hb; replace HO441 := vb_ HO441 hb; replace HO445 := vb_ HO445 hb; replace HO448 := vb_ HO448 hb; replace HO452 := vb_ HO452 hb; replace HO455 := vb_ HO455 hb; replace HO459 := vb_ HO459 hb; replace HO462 := vb_ HO462 hb; replace HO466 := vb_ HO466 hb; replace HO469 := vb_ HO469 hb; replace BK418 := bb_ BK418 hb; replace HR438_1 := Aside0.mk (Kd.V_reads' HL438_1.out).2.2; replace HB := Aside0.mk (below_step bsw_ hb); (try clear hb); (try clear hb2); (try clear hk); (try clear hi)) | ((with_reducible refine gate_callee (f := 23) rfl ?_); refine goesL_ (some 123) rfl rfl Try.func23 (by kernel_rfl) rfl #[.slice Ao57 t425.length co57] rfl mp_ ?_; (with_reducible refine (handshakerref22_Right.calls kj6 _ _ t425 true _ ?side1 ?side2 A66.out).mono ?_); (case side1 => repeat (first | exact (Kd.N_reads' HO427.out).2.2 | with_reducible first | refine Kd.C_alloc ?_ _ | refine Kd.C_drewN ?_ _ | refine Kd.C_drew ?_)); (case side2 => exact (Kd.N_reads' HO427.out).2.1); rintro e w82 ⟨rfl, hb⟩; refine ⟨_, rfl, ?_⟩; replace HO_0 := vb_ HO_0 hb; replace HO_4 := vb_ HO_4 hb; replace HO_419001 := vb_ HO_419001 hb; replace HO427 := nb_ HO427 hb; replace HO430 := vb_ HO430 hb; replace HO434 := nb_ HO434 hb; replace HO437 := nb_ HO437 hb; replace HL438_1 := vb_ HL438_1 hb; replace HO441 := vb_ HO441 hb; replace HO445 := vb_ HO445 hb; replace HO448 := vb_ HO448 hb; replace HO452 := vb_ HO452 hb; replace HO455 := vb_ HO455 hb; replace HO459 := vb_ HO459 hb; replace HO462 := vb_ HO462 hb; replace HO466 := vb_ HO466 hb; replace HO469 := vb_ HO469 hb; replace BK418 := bb_ BK418 hb; replace HR438_1 := Aside0.mk (Kd.V_reads' HL438_1.out).2.2; replace HB := Aside0.mk (below_step bsw_ hb); (try clear hb); (try clear hb2); (try clear hk); (try clear hi)) | (go_at_call 24; (with_reducible refine (after_Holder.calls kj6 _ _ l0 a3 t477 _ ?side1 ?side2 A69.out).mono ?_); (case side1 => repeat (first | exact (Kd.V_reads' HO_0.out).2.2 | with_reducible first | refine Kd.C_alloc ?_ _ | refine Kd.C_drewN ?_ _ | refine Kd.C_drew ?_)); (case side2 => exact (Kd.V_reads' HO_0.out).2.1); rintro e w83 ⟨rfl, hb⟩; replace HO_0 := vb_ HO_0 hb; replace HO_4 := vb_ HO_4 hb; replace HO_419001 := vb_ HO_419001 hb; replace HO427 := nb_ HO427 hb; replace HO430 := vb_ HO430 hb; replace HO434 := nb_ HO434 hb; replace HO437 := nb_ HO437 hb; replace HL438_1 := vb_ HL438_1 hb; replace HO441 := vb_ HO441 hb; replace HO445 := vb_ HO445 hb; replace HO448 := vb_ HO448 hb; replace HO452 := vb_ HO452 hb; replace HO455 := vb_ HO455 hb; replace HO459 := vb_ HO459 hb; replace HO462 := vb_ HO462 hb; replace HO466 := vb_ HO466 hb; replace HO469 := vb_ HO469 hb; replace BK418 := bb_ BK418 hb; replace HR438_1 := Aside0.mk (Kd.V_reads' HL438_1.out).2.2; replace HB := Aside0.mk (below_step bsw_ hb); (try clear hb); (try clear hb2); (try clear hk); (try clear hi)) | (go_at_call 25; (with_reducible refine (handshakerref22_Holder.calls kj6 _ _ t425 a3 t478 _ ?side1 ?side2 A70.out).mono ?_); (case side1 => repeat (first | exact (Kd.N_reads' HO427.out).2.2 | with_reducible first | refine Kd.C_alloc ?_ _ | refine Kd.C_drewN ?_ _ | refine Kd.C_drew ?_)); (case side2 => exact (Kd.N_reads' HO427.out).2.1); rintro e w84 ⟨rfl, hb⟩; replace HO_0 := vb_ HO_0 hb; replace HO_4 := vb_ HO_4 hb; replace HO_419001 := vb_ HO_419001 hb; replace HO427 := nb_ HO427 hb; replace HO430 := vb_ HO430 hb; replace HO434 := nb_ HO434 hb; replace HO437 := nb_ HO437 hb; replace HL438_1 := vb_ HL438_1 hb; replace HO441 := vb_ HO441 hb; replace HO445 := vb_ HO445 hb; replace HO448 := vb_ HO448 hb; replace HO452 := vb_ HO452 hb; replace HO455 := vb_ HO455 hb; replace HO459 := vb_ HO459 hb; replace HO462 := vb_ HO462 hb; replace HO466 := vb_ HO466 hb; replace HO469 := vb_ HO469 hb; replace BK418 := bb_ BK418 hb; replace HR438_1 := Aside0.mk (Kd.V_reads' HL438_1.out).2.2; replace HB := Aside0.mk (below_step bsw_ hb); (try clear hb); (try clear hb2); (try clear hk); (try clear hi)))
              go_meet
              case rel => exact ⟨_, (true), (by first | rfl | (simp; done) | (simp [*]; done)), H', ⟨by have := HJ6.out; first | omega | exact Nat.le_refl _⟩, ⟨Kd.V_mono (vq_ HO430) (fun _ hk => ⟨hk.1.1.1, hk.1.1.2.2⟩)⟩, ⟨Kd.V_mono (vq_ HO441) (fun _ hk => ⟨hk.1, hk.2.2.2⟩)⟩, ⟨Kd.V_mono (vq_ HO445) (fun _ hk => ⟨hk.1, hk.2.2.2.2⟩)⟩, ⟨Kd.V_mono (vq_ HO448) (fun _ hk => ⟨hk.1, hk.2.2.2.2⟩)⟩, ⟨Kd.V_mono (vq_ HO452) (fun _ hk => ⟨hk.1, hk.2.2.2⟩)⟩, ⟨Kd.V_mono (vq_ HO455) (fun _ hk => ⟨hk.1, hk.2.2.2⟩)⟩, ⟨Kd.V_mono (vq_ HO459) (fun _ hk => ⟨hk.1, hk.2.2.2.2⟩)⟩, ⟨Kd.V_mono (vq_ HO462) (fun _ hk => ⟨hk.1, hk.2.2.2.2⟩)⟩, ⟨Kd.V_mono (vq_ HO466) (fun _ hk => ⟨hk.1, hk.2.2.2⟩)⟩, ⟨Kd.V_mono (vq_ HO469) (fun _ hk => ⟨hk.1, hk.2.2.2⟩)⟩, ⟨Kd.V_mono (vq_ HO_419001) (fun _ hk => ⟨hk.1.1.1.1, hk.1.1.1.2⟩)⟩, ⟨bq_ BK418⟩, ⟨by repeat (first | (with_reducible exact HR438_1.out) | (with_reducible refine Kd.C_alloc ?_ _) | (with_reducible refine Kd.C_drewN ?_ _) | (with_reducible refine Kd.C_drew ?_) | exact HR438_1.out)⟩, ⟨bsw_⟩⟩
          · replace c68 := Bool.eq_false_iff.mpr c68
            subst c68
            rw [if_neg (show ¬ (false = true) by decide)] at H
            have H' := Aside0.mk H
            clear H
            go_wp2_with (first | ((with_reducible refine gate_callee (f := 22) rfl ?_); refine goesL_ (some 121) rfl rfl Try.func22 (by kernel_rfl) rfl #[.slice A0 l0.length c0] rfl mp_ ?_; (with_reducible refine (after_Right.calls kj6 _ _ l0 true _ ?side1 ?side2 A65.out).mono ?_); (case side1 => repeat (first | exact (Kd.V_reads' HO_0.out).2.2 | with_reducible first | refine Kd.C_alloc ?_ _ | refine Kd.C_drewN ?_ _ | refine Kd.C_drew ?_)); (case side2 => exact (Kd.V_reads' HO_0.out).2.1); rintro e w85 ⟨rfl, hb⟩; refine ⟨_, rfl, ?_⟩; replace HO_0 := vb_ HO_0 hb; replace HO_4 := vb_ HO_4 hb; replace HO_419001 := vb_ HO_419001 hb; replace HO427 := nb_ HO427 hb; replace HO430 := vb_ HO430 hb; replace HO434 := nb_ HO434 hb; replace HO437 := nb_ HO437 hb; replace HL438_1 := vb_ HL438_1 hb; replace HO441 := vb_ HO441 hb; replace HO445 := vb_ HO445 hb; replace HO448 := vb_ HO448 hb; replace HO452 := vb_ HO452 hb; replace HO455 := vb_ HO455 hb; replace HO459 := vb_ HO459 hb; replace HO462 := vb_ HO462 hb; replace HO466 := vb_ HO466 hb; replace HO469 := vb_ HO469 hb; replace BK418 := bb_ BK418 hb; replace HR438_1 := Aside0.mk (Kd.V_reads' HL438_1.out).2.2; replace HB := Aside0.mk (below_step bsw_ hb); (try clear hb); (try clear hb2); (try clear hk); (try clear hi)) | ((with_reducible refine gate_callee (f := 23) rfl ?_); refine goesL_ (some 123) rfl rfl Try.func23 (by kernel_rfl) rfl #[.slice Ao57 t425.length co57] rfl mp_ ?_; (with_reducible refine (handshakerref22_Right.calls kj6 _ _ t425 false _ ?side1 ?side2 A66.out).mono ?_); (case side1 => repeat (first | exact (Kd.N_reads' HO427.out).2.2 | with_reducible first | refine Kd.C_alloc ?_ _ | refine Kd.C_drewN ?_ _ | refine Kd.C_drew ?_)); (case side2 => exact (Kd.N_reads' HO427.out).2.1); rintro e w86 ⟨rfl, hb⟩; refine ⟨_, rfl, ?_⟩; replace HO_0 := vb_ HO_0 hb; replace HO_4 := vb_ HO_4 hb; replace HO_419001 := vb_ HO_419001 hb; replace HO427 := nb_ HO427 hb; replace HO430 := vb_ HO430 hb; replace HO434 := nb_ HO434 hb; replace HO437 := nb_ HO437 hb; replace HL438_1 := vb_ HL438_1 hb; replace HO441 := vb_ HO441 hb; replace HO445 := vb_ HO445 hb; replace HO448 := vb_ HO448 hb; replace HO452 := vb_ HO452 hb; replace HO455 := vb_ HO455 hb; replace HO459 := vb_ HO459 hb; replace HO462 := vb_ HO462 hb; replace HO466 := vb_ HO466 hb; replace HO469 := vb_ HO469 hb; replace BK418 := bb_ BK418 hb; replace HR438_1 := Aside0.mk (Kd.V_reads' HL438_1.out).2.2; replace HB := Aside0.mk (below_step bsw_ hb); (try clear hb); (try clear hb2); (try clear hk); (try clear hi)))
            go_meet
            case rel => exact ⟨_, (true), (by first | rfl | (simp; done) | (simp [*]; done)), H', ⟨by have := HJ6.out; first | omega | exact Nat.le_refl _⟩, ⟨Kd.V_mono (vq_ HO430) (fun _ hk => ⟨hk.1.1.1, hk.1.1.2.2⟩)⟩, ⟨Kd.V_mono (vq_ HO441) (fun _ hk => ⟨hk.1, hk.2.2.2⟩)⟩, ⟨Kd.V_mono (vq_ HO445) (fun _ hk => ⟨hk.1, hk.2.2.2.2⟩)⟩, ⟨Kd.V_mono (vq_ HO448) (fun _ hk => ⟨hk.1, hk.2.2.2.2⟩)⟩, ⟨Kd.V_mono (vq_ HO452) (fun _ hk => ⟨hk.1, hk.2.2.2⟩)⟩, ⟨Kd.V_mono (vq_ HO455) (fun _ hk => ⟨hk.1, hk.2.2.2⟩)⟩, ⟨Kd.V_mono (vq_ HO459) (fun _ hk => ⟨hk.1, hk.2.2.2.2⟩)⟩, ⟨Kd.V_mono (vq_ HO462) (fun _ hk => ⟨hk.1, hk.2.2.2.2⟩)⟩, ⟨Kd.V_mono (vq_ HO466) (fun _ hk => ⟨hk.1, hk.2.2.2⟩)⟩, ⟨Kd.V_mono (vq_ HO469) (fun _ hk => ⟨hk.1, hk.2.2.2⟩)⟩, ⟨Kd.V_mono (vq_ HO_419001) (fun _ hk => ⟨hk.1.1.1.1, hk.1.1.1.2⟩)⟩, ⟨bq_ BK418⟩, ⟨by repeat (first | (with_reducible exact HR438_1.out) | (with_reducible refine Kd.C_alloc ?_ _) | (with_reducible refine Kd.C_drewN ?_ _) | (with_reducible refine Kd.C_drew ?_) | exact HR438_1.out)⟩, ⟨bsw_⟩⟩
        · replace c67 := Bool.eq_false_iff.mpr c67
          subst c67
          rw [if_neg (show ¬ (false = true) by decide)] at H
          by_cases c87 : t476 = true
          · subst c87
            rw [if_pos rfl] at H
            have H' := Aside0.mk H
            clear H
            go_wp2_with (first | ((with_reducible refine gate_callee (f := 22) rfl ?_); refine goesL_ (some 121) rfl rfl Try.func22 (by kernel_rfl) rfl #[.slice A0 l0.length c0] rfl mp_ ?_; (with_reducible refine (after_Right.calls kj6 _ _ l0 false _ ?side1 ?side2 A65.out).mono ?_); (case side1 => repeat (first | exact (Kd.V_reads' HO_0.out).2.2 | with_reducible first | refine Kd.C_alloc ?_ _ | refine Kd.C_drewN ?_ _ | refine Kd.C_drew ?_)); (case side2 => exact (Kd.V_reads' HO_0.out).2.1); rintro e w88 ⟨rfl, hb⟩; refine ⟨_, rfl, ?_⟩; replace HO_0 := vb_ HO_0 hb; replace HO_4 := vb_ HO_4 hb; replace HO_419001 := vb_ HO_419001 hb; replace HO427 := nb_ HO427 hb; replace HO430 := vb_ HO430 hb; replace HO434 := nb_ HO434 hb; replace HO437 := nb_ HO437 hb; replace HL438_1 := vb_ HL438_1 hb; replace HO441 := vb_ HO441 hb; replace HO445 := vb_ HO445 hb; replace HO448 := vb_ HO448 hb; replace HO452 := vb_ HO452 hb; replace HO455 := vb_ HO455 hb; replace HO459 := vb_ HO459 hb; replace HO462 := vb_ HO462 hb; replace HO466 := vb_ HO466 hb; replace HO469 := vb_ HO469 hb; replace BK418 := bb_ BK418 hb; replace HR438_1 := Aside0.mk (Kd.V_reads' HL438_1.out).2.2; replace HB := Aside0.mk (below_step bsw_ hb); (try clear hb); (try clear hb2); (try clear hk); (try clear hi)) | ((with_reducible refine gate_callee (f := 23) rfl ?_); refine goesL_ (some 123) rfl rfl Try.func23 (by kernel_rfl) rfl #[.slice Ao57 t425.length co57] rfl mp_ ?_; (with_reducible refine (handshakerref22_Right.calls kj6 _ _ t425 true _ ?side1 ?side2 A66.out).mono ?_); (case side1 => repeat (first | exact (Kd.N_reads' HO427.out).2.2 | with_reducible first | refine Kd.C_alloc ?_ _ | refine Kd.C_drewN ?_ _ | refine Kd.C_drew ?_)); (case side2 => exact (Kd.N_reads' HO427.out).2.1); rintro e w89 ⟨rfl, hb⟩; refine ⟨_, rfl, ?_⟩; replace HO_0 := vb_ HO_0 hb; replace HO_4 := vb_ HO_4 hb; replace HO_419001 := vb_ HO_419001 hb; replace HO427 := nb_ HO427 hb; replace HO430 := vb_ HO430 hb; replace HO434 := nb_ HO434 hb; replace HO437 := nb_ HO437 hb; replace HL438_1 := vb_ HL438_1 hb; replace HO441 := vb_ HO441 hb; replace HO445 := vb_ HO445 hb; replace HO448 := vb_ HO448 hb; replace HO452 := vb_ HO452 hb; replace HO455 := vb_ HO455 hb; replace HO459 := vb_ HO459 hb; replace HO462 := vb_ HO462 hb; replace HO466 := vb_ HO466 hb; replace HO469 := vb_ HO469 hb; replace BK418 := bb_ BK418 hb; replace HR438_1 := Aside0.mk (Kd.V_reads' HL438_1.out).2.2; replace HB := Aside0.mk (below_step bsw_ hb); (try clear hb); (try clear hb2); (try clear hk); (try clear hi)))
            go_meet
            case rel => exact ⟨_, (true), (by first | rfl | (simp; done) | (simp [*]; done)), H', ⟨by have := HJ6.out; first | omega | exact Nat.le_refl _⟩, ⟨Kd.V_mono (vq_ HO430) (fun _ hk => ⟨hk.1.1.1, hk.1.1.2.2⟩)⟩, ⟨Kd.V_mono (vq_ HO441) (fun _ hk => ⟨hk.1, hk.2.2.2⟩)⟩, ⟨Kd.V_mono (vq_ HO445) (fun _ hk => ⟨hk.1, hk.2.2.2.2⟩)⟩, ⟨Kd.V_mono (vq_ HO448) (fun _ hk => ⟨hk.1, hk.2.2.2.2⟩)⟩, ⟨Kd.V_mono (vq_ HO452) (fun _ hk => ⟨hk.1, hk.2.2.2⟩)⟩, ⟨Kd.V_mono (vq_ HO455) (fun _ hk => ⟨hk.1, hk.2.2.2⟩)⟩, ⟨Kd.V_mono (vq_ HO459) (fun _ hk => ⟨hk.1, hk.2.2.2.2⟩)⟩, ⟨Kd.V_mono (vq_ HO462) (fun _ hk => ⟨hk.1, hk.2.2.2.2⟩)⟩, ⟨Kd.V_mono (vq_ HO466) (fun _ hk => ⟨hk.1, hk.2.2.2⟩)⟩, ⟨Kd.V_mono (vq_ HO469) (fun _ hk => ⟨hk.1, hk.2.2.2⟩)⟩, ⟨Kd.V_mono (vq_ HO_419001) (fun _ hk => ⟨hk.1.1.1.1, hk.1.1.1.2⟩)⟩, ⟨bq_ BK418⟩, ⟨by repeat (first | (with_reducible exact HR438_1.out) | (with_reducible refine Kd.C_alloc ?_ _) | (with_reducible refine Kd.C_drewN ?_ _) | (with_reducible refine Kd.C_drew ?_) | exact HR438_1.out)⟩, ⟨bsw_⟩⟩
          · replace c87 := Bool.eq_false_iff.mpr c87
            subst c87
            rw [if_neg (show ¬ (false = true) by decide)] at H
            replace H := Option.bind_eq_some_iff.mp H
            obtain ⟨t479, A900, H⟩ := H
            have A90 := Aside0.mk A900
            clear A900
            replace H := Option.bind_eq_some_iff.mp H
            obtain ⟨t480, A910, H⟩ := H
            have A91 := Aside0.mk A910
            clear A910
            by_cases c92 : t479 = t480
            · rw [if_pos c92] at H
              have c92b0 : (t479 == t480) = true := beq_iff_eq.mpr c92
              have c92b1 : (t479 != t480) = false := bne_eq_false_iff_eq.mpr c92
              clear c92
              by_cases c93 : t471 = t473
              · rw [if_pos c93] at H
                have c93b0 : (t471 == t473) = true := beq_iff_eq.mpr c93
                have c93b1 : (t471 != t473) = false := bne_eq_false_iff_eq.mpr c93
                clear c93
                have H' := Aside0.mk H
                clear H
                go_wp2_with (first | ((with_reducible refine gate_callee (f := 22) rfl ?_); refine goesL_ (some 121) rfl rfl Try.func22 (by kernel_rfl) rfl #[.slice A0 l0.length c0] rfl mp_ ?_; (with_reducible refine (after_Right.calls kj6 _ _ l0 false _ ?side1 ?side2 A65.out).mono ?_); (case side1 => repeat (first | exact (Kd.V_reads' HO_0.out).2.2 | with_reducible first | refine Kd.C_alloc ?_ _ | refine Kd.C_drewN ?_ _ | refine Kd.C_drew ?_)); (case side2 => exact (Kd.V_reads' HO_0.out).2.1); rintro e w94 ⟨rfl, hb⟩; refine ⟨_, rfl, ?_⟩; replace HO_0 := vb_ HO_0 hb; replace HO_4 := vb_ HO_4 hb; replace HO_419001 := vb_ HO_419001 hb; replace HO427 := nb_ HO427 hb; replace HO430 := vb_ HO430 hb; replace HO434 := nb_ HO434 hb; replace HO437 := nb_ HO437 hb; replace HL438_1 := vb_ HL438_1 hb; replace HO441 := vb_ HO441 hb; replace HO445 := vb_ HO445 hb; replace HO448 := vb_ HO448 hb; replace HO452 := vb_ HO452 hb; replace HO455 := vb_ HO455 hb; replace HO459 := vb_ HO459 hb; replace HO462 := vb_ HO462 hb; replace HO466 := vb_ HO466 hb; replace HO469 := vb_ HO469 hb; replace BK418 := bb_ BK418 hb; replace HR438_1 := Aside0.mk (Kd.V_reads' HL438_1.out).2.2; replace HB := Aside0.mk (below_step bsw_ hb); (try clear hb); (try clear hb2); (try clear hk); (try clear hi)) | ((with_reducible refine gate_callee (f := 23) rfl ?_); refine goesL_ (some 123) rfl rfl Try.func23 (by kernel_rfl) rfl #[.slice Ao57 t425.length co57] rfl mp_ ?_; (with_reducible refine (handshakerref22_Right.calls kj6 _ _ t425 false _ ?side1 ?side2 A66.out).mono ?_); (case side1 => repeat (first | exact (Kd.N_reads' HO427.out).2.2 | with_reducible first | refine Kd.C_alloc ?_ _ | refine Kd.C_drewN ?_ _ | refine Kd.C_drew ?_)); (case side2 => exact (Kd.N_reads' HO427.out).2.1); rintro e w95 ⟨rfl, hb⟩; refine ⟨_, rfl, ?_⟩; replace HO_0 := vb_ HO_0 hb; replace HO_4 := vb_ HO_4 hb; replace HO_419001 := vb_ HO_419001 hb; replace HO427 := nb_ HO427 hb; replace HO430 := vb_ HO430 hb; replace HO434 := nb_ HO434 hb; replace HO437 := nb_ HO437 hb; replace HL438_1 := vb_ HL438_1 hb; replace HO441 := vb_ HO441 hb; replace HO445 := vb_ HO445 hb; replace HO448 := vb_ HO448 hb; replace HO452 := vb_ HO452 hb; replace HO455 := vb_ HO455 hb; replace HO459 := vb_ HO459 hb; replace HO462 := vb_ HO462 hb; replace HO466 := vb_ HO466 hb; replace HO469 := vb_ HO469 hb; replace BK418 := bb_ BK418 hb; replace HR438_1 := Aside0.mk (Kd.V_reads' HL438_1.out).2.2; replace HB := Aside0.mk (below_step bsw_ hb); (try clear hb); (try clear hb2); (try clear hk); (try clear hi)) | (go_at_call 24; (with_reducible refine (after_Holder.calls kj6 _ _ l0 a3 t479 _ ?side1 ?side2 A90.out).mono ?_); (case side1 => repeat (first | exact (Kd.V_reads' HO_0.out).2.2 | with_reducible first | refine Kd.C_alloc ?_ _ | refine Kd.C_drewN ?_ _ | refine Kd.C_drew ?_)); (case side2 => exact (Kd.V_reads' HO_0.out).2.1); rintro e w96 ⟨rfl, hb⟩; replace HO_0 := vb_ HO_0 hb; replace HO_4 := vb_ HO_4 hb; replace HO_419001 := vb_ HO_419001 hb; replace HO427 := nb_ HO427 hb; replace HO430 := vb_ HO430 hb; replace HO434 := nb_ HO434 hb; replace HO437 := nb_ HO437 hb; replace HL438_1 := vb_ HL438_1 hb; replace HO441 := vb_ HO441 hb; replace HO445 := vb_ HO445 hb; replace HO448 := vb_ HO448 hb; replace HO452 := vb_ HO452 hb; replace HO455 := vb_ HO455 hb; replace HO459 := vb_ HO459 hb; replace HO462 := vb_ HO462 hb; replace HO466 := vb_ HO466 hb; replace HO469 := vb_ HO469 hb; replace BK418 := bb_ BK418 hb; replace HR438_1 := Aside0.mk (Kd.V_reads' HL438_1.out).2.2; replace HB := Aside0.mk (below_step bsw_ hb); (try clear hb); (try clear hb2); (try clear hk); (try clear hi)) | (go_at_call 25; (with_reducible refine (handshakerref22_Holder.calls kj6 _ _ t425 a3 t480 _ ?side1 ?side2 A91.out).mono ?_); (case side1 => repeat (first | exact (Kd.N_reads' HO427.out).2.2 | with_reducible first | refine Kd.C_alloc ?_ _ | refine Kd.C_drewN ?_ _ | refine Kd.C_drew ?_)); (case side2 => exact (Kd.N_reads' HO427.out).2.1); rintro e w97 ⟨rfl, hb⟩; replace HO_0 := vb_ HO_0 hb; replace HO_4 := vb_ HO_4 hb; replace HO_419001 := vb_ HO_419001 hb; replace HO427 := nb_ HO427 hb; replace HO430 := vb_ HO430 hb; replace HO434 := nb_ HO434 hb; replace HO437 := nb_ HO437 hb; replace HL438_1 := vb_ HL438_1 hb; replace HO441 := vb_ HO441 hb; replace HO445 := vb_ HO445 hb; replace HO448 := vb_ HO448 hb; replace HO452 := vb_ HO452 hb; replace HO455 := vb_ HO455 hb; replace HO459 := vb_ HO459 hb; replace HO462 := vb_ HO462 hb; replace HO466 := vb_ HO466 hb; replace HO469 := vb_ HO469 hb; replace BK418 := bb_ BK418 hb; replace HR438_1 := Aside0.mk (Kd.V_reads' HL438_1.out).2.2; replace HB := Aside0.mk (below_step bsw_ hb); (try clear hb); (try clear hb2); (try clear hk); (try clear hi)))
                go_meet
                case rel => exact ⟨_, ((t472 != t474)), (by first | rfl | (simp; done) | (simp [*]; done)), H', ⟨by have := HJ6.out; first | omega | exact Nat.le_refl _⟩, ⟨Kd.V_mono (vq_ HO430) (fun _ hk => ⟨hk.1.1.1, hk.1.1.2.2⟩)⟩, ⟨Kd.V_mono (vq_ HO441) (fun _ hk => ⟨hk.1, hk.2.2.2⟩)⟩, ⟨Kd.V_mono (vq_ HO445) (fun _ hk => ⟨hk.1, hk.2.2.2.2⟩)⟩, ⟨Kd.V_mono (vq_ HO448) (fun _ hk => ⟨hk.1, hk.2.2.2.2⟩)⟩, ⟨Kd.V_mono (vq_ HO452) (fun _ hk => ⟨hk.1, hk.2.2.2⟩)⟩, ⟨Kd.V_mono (vq_ HO455) (fun _ hk => ⟨hk.1, hk.2.2.2⟩)⟩, ⟨Kd.V_mono (vq_ HO459) (fun _ hk => ⟨hk.1, hk.2.2.2.2⟩)⟩, ⟨Kd.V_mono (vq_ HO462) (fun _ hk => ⟨hk.1, hk.2.2.2.2⟩)⟩, ⟨Kd.V_mono (vq_ HO466) (fun _ hk => ⟨hk.1, hk.2.2.2⟩)⟩, ⟨Kd.V_mono (vq_ HO469) (fun _ hk => ⟨hk.1, hk.2.2.2⟩)⟩, ⟨Kd.V_mono (vq_ HO_419001) (fun _ hk => ⟨hk.1.1.1.1, hk.1.1.1.2⟩)⟩, ⟨bq_ BK418⟩, ⟨by repeat (first | (with_reducible exact HR438_1.out) | (with_reducible refine Kd.C_alloc ?_ _) | (with_reducible refine Kd.C_drewN ?_ _) | (with_reducible refine Kd.C_drew ?_) | exact HR438_1.out)⟩, ⟨bsw_⟩⟩
              · rw [if_neg c93] at H
                have c93b0 : (t471 == t473) = false := beq_eq_false_iff_ne.mpr c93
                have c93b1 : (t471 != t473) = true := bne_iff_ne.mpr c93
                have H' := Aside0.mk H
                clear H
                go_wp2_with (first | ((with_reducible refine gate_callee (f := 22) rfl ?_); refine goesL_ (some 121) rfl rfl Try.func22 (by kernel_rfl) rfl #[.slice A0 l0.length c0] rfl mp_ ?_; (with_reducible refine (after_Right.calls kj6 _ _ l0 false _ ?side1 ?side2 A65.out).mono ?_); (case side1 => repeat (first | exact (Kd.V_reads' HO_0.out).2.2 | with_reducible first | refine Kd.C_alloc ?_ _ | refine Kd.C_drewN ?_ _ | refine Kd.C_drew ?_)); (case side2 => exact (Kd.V_reads' HO_0.out).2.1); rintro e w98 ⟨rfl, hb⟩; refine ⟨_, rfl, ?_⟩; replace HO_0 := vb_ HO_0 hb; replace HO_4 := vb_ HO_4 hb; replace HO_419001 := vb_ HO_419001 hb; replace HO427 := nb_ HO427 hb; replace HO430 := vb_ HO430 hb; replace HO434 := nb_ HO434 hb; replace HO437 := nb_ HO437 hb; replace HL438_1 := vb_ HL438_1 hb; replace HO441 := vb_ HO441 hb; replace HO445 := vb_ HO445 hb; replace HO448 := vb_ HO448 hb; replace HO452 := vb_ HO452 hb; replace HO455 := vb_ HO455 hb; replace HO459 := vb_ HO459 hb; replace HO462 := vb_ HO462 hb; replace HO466 := vb_ HO466 hb; replace HO469 := vb_ HO469 hb; replace BK418 := bb_ BK418 hb; replace HR438_1 := Aside0.mk (Kd.V_reads' HL438_1.out).2.2; replace HB := Aside0.mk (below_step bsw_ hb); (try clear hb); (try clear hb2); (try clear hk); (try clear hi)) | ((with_reducible refine gate_callee (f := 23) rfl ?_); refine goesL_ (some 123) rfl rfl Try.func23 (by kernel_rfl) rfl #[.slice Ao57 t425.length co57] rfl mp_ ?_; (with_reducible refine (handshakerref22_Right.calls kj6 _ _ t425 false _ ?side1 ?side2 A66.out).mono ?_); (case side1 => repeat (first | exact (Kd.N_reads' HO427.out).2.2 | with_reducible first | refine Kd.C_alloc ?_ _ | refine Kd.C_drewN ?_ _ | refine Kd.C_drew ?_)); (case side2 => exact (Kd.N_reads' HO427.out).2.1); rintro e w99 ⟨rfl, hb⟩; refine ⟨_, rfl, ?_⟩; replace HO_0 := vb_ HO_0 hb; replace HO_4 := vb_ HO_4 hb; replace HO_419001 := vb_ HO_419001 hb; replace HO427 := nb_ HO427 hb; replace HO430 := vb_ HO430 hb; replace HO434 := nb_ HO434 hb; replace HO437 := nb_ HO437 hb; replace HL438_1 := vb_ HL438_1 hb; replace HO441 := vb_ HO441 hb; replace HO445 := vb_ HO445 hb; replace HO448 := vb_ HO448 hb; replace HO452 := vb_ HO452 hb; replace HO455 := vb_ HO455 hb; replace HO459 := vb_ HO459 hb; replace HO462 := vb_ HO462 hb; replace HO466 := vb_ HO466 hb; replace HO469 := vb_ HO469 hb; replace BK418 := bb_ BK418 hb; replace HR438_1 := Aside0.mk (Kd.V_reads' HL438_1.out).2.2; replace HB := Aside0.mk (below_step bsw_ hb); (try clear hb); (try clear hb2); (try clear hk); (try clear hi)) | (go_at_call 24; (with_reducible refine (after_Holder.calls kj6 _ _ l0 a3 t479 _ ?side1 ?side2 A90.out).mono ?_); (case side1 => repeat (first | exact (Kd.V_reads' HO_0.out).2.2 | with_reducible first | refine Kd.C_alloc ?_ _ | refine Kd.C_drewN ?_ _ | refine Kd.C_drew ?_)); (case side2 => exact (Kd.V_reads' HO_0.out).2.1); rintro e w100 ⟨rfl, hb⟩; replace HO_0 := vb_ HO_0 hb; replace HO_4 := vb_ HO_4 hb; replace HO_419001 := vb_ HO_419001 hb; replace HO427 := nb_ HO427 hb; replace HO430 := vb_ HO430 hb; replace HO434 := nb_ HO434 hb; replace HO437 := nb_ HO437 hb; replace HL438_1 := vb_ HL438_1 hb; replace HO441 := vb_ HO441 hb; replace HO445 := vb_ HO445 hb; replace HO448 := vb_ HO448 hb; replace HO452 := vb_ HO452 hb; replace HO455 := vb_ HO455 hb; replace HO459 := vb_ HO459 hb; replace HO462 := vb_ HO462 hb; replace HO466 := vb_ HO466 hb; replace HO469 := vb_ HO469 hb; replace BK418 := bb_ BK418 hb; replace HR438_1 := Aside0.mk (Kd.V_reads' HL438_1.out).2.2; replace HB := Aside0.mk (below_step bsw_ hb); (try clear hb); (try clear hb2); (try clear hk); (try clear hi)) | (go_at_call 25; (with_reducible refine (handshakerref22_Holder.calls kj6 _ _ t425 a3 t480 _ ?side1 ?side2 A91.out).mono ?_); (case side1 => repeat (first | exact (Kd.N_reads' HO427.out).2.2 | with_reducible first | refine Kd.C_alloc ?_ _ | refine Kd.C_drewN ?_ _ | refine Kd.C_drew ?_)); (case side2 => exact (Kd.N_reads' HO427.out).2.1); rintro e w101 ⟨rfl, hb⟩; replace HO_0 := vb_ HO_0 hb; replace HO_4 := vb_ HO_4 hb; replace HO_419001 := vb_ HO_419001 hb; replace HO427 := nb_ HO427 hb; replace HO430 := vb_ HO430 hb; replace HO434 := nb_ HO434 hb; replace HO437 := nb_ HO437 hb; replace HL438_1 := vb_ HL438_1 hb; replace HO441 := vb_ HO441 hb; replace HO445 := vb_ HO445 hb; replace HO448 := vb_ HO448 hb; replace HO452 := vb_ HO452 hb; replace HO455 := vb_ HO455 hb; replace HO459 := vb_ HO459 hb; replace HO462 := vb_ HO462 hb; replace HO466 := vb_ HO466 hb; replace HO469 := vb_ HO469 hb; replace BK418 := bb_ BK418 hb; replace HR438_1 := Aside0.mk (Kd.V_reads' HL438_1.out).2.2; replace HB := Aside0.mk (below_step bsw_ hb); (try clear hb); (try clear hb2); (try clear hk); (try clear hi)))
                go_meet
                case rel => exact ⟨_, (true), (by first | rfl | (simp; done) | (simp [*]; done)), H', ⟨by have := HJ6.out; first | omega | exact Nat.le_refl _⟩, ⟨Kd.V_mono (vq_ HO430) (fun _ hk => ⟨hk.1.1.1, hk.1.1.2.2⟩)⟩, ⟨Kd.V_mono (vq_ HO441) (fun _ hk => ⟨hk.1, hk.2.2.2⟩)⟩, ⟨Kd.V_mono (vq_ HO445) (fun _ hk => ⟨hk.1, hk.2.2.2.2⟩)⟩, ⟨Kd.V_mono (vq_ HO448) (fun _ hk => ⟨hk.1, hk.2.2.2.2⟩)⟩, ⟨Kd.V_mono (vq_ HO452) (fun _ hk => ⟨hk.1, hk.2.2.2⟩)⟩, ⟨Kd.V_mono (vq_ HO455) (fun _ hk => ⟨hk.1, hk.2.2.2⟩)⟩, ⟨Kd.V_mono (vq_ HO459) (fun _ hk => ⟨hk.1, hk.2.2.2.2⟩)⟩, ⟨Kd.V_mono (vq_ HO462) (fun _ hk => ⟨hk.1, hk.2.2.2.2⟩)⟩, ⟨Kd.V_mono (vq_ HO466) (fun _ hk => ⟨hk.1, hk.2.2.2⟩)⟩, ⟨Kd.V_mono (vq_ HO469) (fun _ hk => ⟨hk.1, hk.2.2.2⟩)⟩, ⟨Kd.V_mono (vq_ HO_419001) (fun _ hk => ⟨hk.1.1.1.1, hk.1.1.1.2⟩)⟩, ⟨bq_ BK418⟩, ⟨by repeat (first | (with_reducible exact HR438_1.out) | (with_reducible refine Kd.C_alloc ?_ _) | (with_reducible refine Kd.C_drewN ?_ _) | (with_reducible refine Kd.C_drew ?_) | exact HR438_1.out)⟩, ⟨bsw_⟩⟩
            · rw [if_neg c92] at H
              have c92b0 : (t479 == t480) = false := beq_eq_false_iff_ne.mpr c92
              have c92b1 : (t479 != t480) = true := bne_iff_ne.mpr c92
              have H' := Aside0.mk H
              clear H
              go_wp2_with (first | ((with_reducible refine gate_callee (f := 22) rfl ?_); refine goesL_ (some 121) rfl rfl Try.func22 (by kernel_rfl) rfl #[.slice A0 l0.length c0] rfl mp_ ?_; (with_reducible refine (after_Right.calls kj6 _ _ l0 false _ ?side1 ?side2 A65.out).mono ?_); (case side1 => repeat (first | exact (Kd.V_reads' HO_0.out).2.2 | with_reducible first | refine Kd.C_alloc ?_ _ | refine Kd.C_drewN ?_ _ | refine Kd.C_drew ?_)); (case side2 => exact (Kd.V_reads' HO_0.out).2.1); rintro e w102 ⟨rfl, hb⟩; refine ⟨_, rfl, ?_⟩; replace HO_0 := vb_ HO_0 hb; replace HO_4 := vb_ HO_4 hb; replace HO_419001 := vb_ HO_419001 hb; replace HO427 := nb_ HO427 hb; replace HO430 := vb_ HO430 hb; replace HO434 := nb_ HO434 hb; replace HO437 := nb_ HO437 hb; replace HL438_1 := vb_ HL438_1 hb; replace HO441 := vb_ HO441 hb; replace HO445 := vb_ HO445 hb; replace HO448 := vb_ HO448 hb; replace HO452 := vb_ HO452 hb; replace HO455 := vb_ HO455 hb; replace HO459 := vb_ HO459 hb; replace HO462 := vb_ HO462 hb; replace HO466 := vb_ HO466 hb; replace HO469 := vb_ HO469 hb; replace BK418 := bb_ BK418 hb; replace HR438_1 := Aside0.mk (Kd.V_reads' HL438_1.out).2.2; replace HB := Aside0.mk (below_step bsw_ hb); (try clear hb); (try clear hb2); (try clear hk); (try clear hi)) | ((with_reducible refine gate_callee (f := 23) rfl ?_); refine goesL_ (some 123) rfl rfl Try.func23 (by kernel_rfl) rfl #[.slice Ao57 t425.length co57] rfl mp_ ?_; (with_reducible refine (handshakerref22_Right.calls kj6 _ _ t425 false _ ?side1 ?side2 A66.out).mono ?_); (case side1 => repeat (first | exact (Kd.N_reads' HO427.out).2.2 | with_reducible first | refine Kd.C_alloc ?_ _ | refine Kd.C_drewN ?_ _ | refine Kd.C_drew ?_)); (case side2 => exact (Kd.N_reads' HO427.out).2.1); rintro e w103 ⟨rfl, hb⟩; refine ⟨_, rfl, ?_⟩; replace HO_0 := vb_ HO_0 hb; replace HO_4 := vb_ HO_4 hb; replace HO_419001 := vb_ HO_419001 hb; replace HO427 := nb_ HO427 hb; replace HO430 := vb_ HO430 hb; replace HO434 := nb_ HO434 hb; replace HO437 := nb_ HO437 hb; replace HL438_1 := vb_ HL438_1 hb; replace HO441 := vb_ HO441 hb; replace HO445 := vb_ HO445 hb; replace HO448 := vb_ HO448 hb; replace HO452 := vb_ HO452 hb; replace HO455 := vb_ HO455 hb; replace HO459 := vb_ HO459 hb; replace HO462 := vb_ HO462 hb; replace HO466 := vb_ HO466 hb; replace HO469 := vb_ HO469 hb; replace BK418 := bb_ BK418 hb; replace HR438_1 := Aside0.mk (Kd.V_reads' HL438_1.out).2.2; replace HB := Aside0.mk (below_step bsw_ hb); (try clear hb); (try clear hb2); (try clear hk); (try clear hi)) | (go_at_call 24; (with_reducible refine (after_Holder.calls kj6 _ _ l0 a3 t479 _ ?side1 ?side2 A90.out).mono ?_); (case side1 => repeat (first | exact (Kd.V_reads' HO_0.out).2.2 | with_reducible first | refine Kd.C_alloc ?_ _ | refine Kd.C_drewN ?_ _ | refine Kd.C_drew ?_)); (case side2 => exact (Kd.V_reads' HO_0.out).2.1); rintro e w104 ⟨rfl, hb⟩; replace HO_0 := vb_ HO_0 hb; replace HO_4 := vb_ HO_4 hb; replace HO_419001 := vb_ HO_419001 hb; replace HO427 := nb_ HO427 hb; replace HO430 := vb_ HO430 hb; replace HO434 := nb_ HO434 hb; replace HO437 := nb_ HO437 hb; replace HL438_1 := vb_ HL438_1 hb; replace HO441 := vb_ HO441 hb; replace HO445 := vb_ HO445 hb; replace HO448 := vb_ HO448 hb; replace HO452 := vb_ HO452 hb; replace HO455 := vb_ HO455 hb; replace HO459 := vb_ HO459 hb; replace HO462 := vb_ HO462 hb; replace HO466 := vb_ HO466 hb; replace HO469 := vb_ HO469 hb; replace BK418 := bb_ BK418 hb; replace HR438_1 := Aside0.mk (Kd.V_reads' HL438_1.out).2.2; replace HB := Aside0.mk (below_step bsw_ hb); (try clear hb); (try clear hb2); (try clear hk); (try clear hi)) | (go_at_call 25; (with_reducible refine (handshakerref22_Holder.calls kj6 _ _ t425 a3 t480 _ ?side1 ?side2 A91.out).mono ?_); (case side1 => repeat (first | exact (Kd.N_reads' HO427.out).2.2 | with_reducible first | refine Kd.C_alloc ?_ _ | refine Kd.C_drewN ?_ _ | refine Kd.C_drew ?_)); (case side2 => exact (Kd.N_reads' HO427.out).2.1); rintro e w105 ⟨rfl, hb⟩; replace HO_0 := vb_ HO_0 hb; replace HO_4 := vb_ HO_4 hb; replace HO_419001 := vb_ HO_419001 hb; replace HO427 := nb_ HO427 hb; replace HO430 := vb_ HO430 hb; replace HO434 := nb_ HO434 hb; replace HO437 := nb_ HO437 hb; replace HL438_1 := vb_ HL438_1 hb; replace HO441 := vb_ HO441 hb; replace HO445 := vb_ HO445 hb; replace HO448 := vb_ HO448 hb; replace HO452 := vb_ HO452 hb; replace HO455 := vb_ HO455 hb; replace HO459 := vb_ HO459 hb; replace HO462 := vb_ HO462 hb; replace HO466 := vb_ HO466 hb; replace HO469 := vb_ HO469 hb; replace BK418 := bb_ BK418 hb; replace HR438_1 := Aside0.mk (Kd.V_reads' HL438_1.out).2.2; replace HB := Aside0.mk (below_step bsw_ hb); (try clear hb); (try clear hb2); (try clear hk); (try clear hi)))
              go_meet
              case rel => exact ⟨_, (true), (by first | rfl | (simp; done) | (simp [*]; done)), H', ⟨by have := HJ6.out; first | omega | exact Nat.le_refl _⟩, ⟨Kd.V_mono (vq_ HO430) (fun _ hk => ⟨hk.1.1.1, hk.1.1.2.2⟩)⟩, ⟨Kd.V_mono (vq_ HO441) (fun _ hk => ⟨hk.1, hk.2.2.2⟩)⟩, ⟨Kd.V_mono (vq_ HO445) (fun _ hk => ⟨hk.1, hk.2.2.2.2⟩)⟩, ⟨Kd.V_mono (vq_ HO448) (fun _ hk => ⟨hk.1, hk.2.2.2.2⟩)⟩, ⟨Kd.V_mono (vq_ HO452) (fun _ hk => ⟨hk.1, hk.2.2.2⟩)⟩, ⟨Kd.V_mono (vq_ HO455) (fun _ hk => ⟨hk.1, hk.2.2.2⟩)⟩, ⟨Kd.V_mono (vq_ HO459) (fun _ hk => ⟨hk.1, hk.2.2.2.2⟩)⟩, ⟨Kd.V_mono (vq_ HO462) (fun _ hk => ⟨hk.1, hk.2.2.2.2⟩)⟩, ⟨Kd.V_mono (vq_ HO466) (fun _ hk => ⟨hk.1, hk.2.2.2⟩)⟩, ⟨Kd.V_mono (vq_ HO469) (fun _ hk => ⟨hk.1, hk.2.2.2⟩)⟩, ⟨Kd.V_mono (vq_ HO_419001) (fun _ hk => ⟨hk.1.1.1.1, hk.1.1.1.2⟩)⟩, ⟨bq_ BK418⟩, ⟨by repeat (first | (with_reducible exact HR438_1.out) | (with_reducible refine Kd.C_alloc ?_ _) | (with_reducible refine Kd.C_drewN ?_ _) | (with_reducible refine Kd.C_drew ?_) | exact HR438_1.out)⟩, ⟨bsw_⟩⟩
       case rest =>
        clear HC47
        try clear c1
        try clear c2
        try clear p2
        try clear c3
        try clear c4
        try clear p4
        try clear q4
        try clear hx4
        try clear qi4
        try clear c5
        try clear c6
        try clear c7
        try clear c8
        try clear c9
        try clear c10
        try clear c11
        try clear c12
        try clear c13
        try clear c13b0
        try clear c13b1
        try clear c14
        try clear c15
        try clear c16
        try clear c17
        try clear c18
        try clear c19
        try clear c20
        try clear c21
        try clear c22
        try clear c23
        try clear c33
        try clear c39
        try clear c39b0
        try clear c39b1
        try clear c43
        try clear p43
        try clear q43
        try clear hx43
        try clear qi43
        try clear c67
        try clear c68
        try clear c71
        try clear c71b0
        try clear c71b1
        try clear c72
        try clear c72b0
        try clear c72b1
        try clear c87
        try clear c92
        try clear c92b0
        try clear c92b1
        try clear c93
        try clear c93b0
        try clear c93b1
        try clear hcz15_0
        try clear hcz15_1
        try clear hcz21_0
        try clear hcz21_1
        try clear hcz27_0
        try clear hcz27_1
        try clear hcz49_0
        try clear hcz49_1
        try clear hcz51_0
        try clear hcz51_1
        try clear hfz15_0
        try clear hfz15_1
        try clear hfz21_0
        try clear hfz21_1
        try clear hfz27_0
        try clear hfz27_1
        try clear hfz49_0
        try clear hfz49_1
        try clear hfz51_0
        try clear hfz51_1
        try clear hx438_0
        try clear hx438_1
        try clear p2
        try clear p438
        try clear q438
        obtain ⟨kq, x143_46, rfl, HA, HJ46, HO_14, HO_16, HO_18, HO_19, HO_21, HO_22, HO_24, HO_25, HO_27, HO_28, HO_419001, BK418, HR438_1, HB⟩ := hcut
        cases kq with
        | zero => exact absurd HA.out (by simp [handshakerlaw22_AfterTells.j1])
        | succ kj46 =>
         have H := HA.out
         clear HA
         simp only [handshakerlaw22_AfterTells.j1] at H
         by_cases c106 : x143_46 = true
         · subst c106
           rw [if_pos rfl] at H
           exact absurd (Option.some.inj H) (by rw [HT.out]; decide)
         · replace c106 := Bool.eq_false_iff.mpr c106
           subst c106
           rw [if_neg (show ¬ (false = true) by decide)] at H
           replace H := Option.bind_eq_some_iff.mp H
           obtain ⟨t481, A1070, H⟩ := H
           have A107 := Aside0.mk A1070
           clear A1070
           replace H := Option.bind_eq_some_iff.mp H
           obtain ⟨t484, A1080, H⟩ := H
           have A108 := Aside0.mk A1080
           clear A1080
           by_cases c109 : t484 = true
           · subst c109
             rw [if_pos rfl] at H
             by_cases c110 : t431 = t442
             · rw [if_pos c110] at H
               have c110b0 : (t431 == t442) = true := beq_iff_eq.mpr c110
               have c110b1 : (t431 != t442) = false := bne_eq_false_iff_eq.mpr c110
               clear c110
               replace H := Option.bind_eq_some_iff.mp H
               obtain ⟨t485, A1110, H⟩ := H
               have A111 := Aside0.mk A1110
               clear A1110
               replace H := Option.bind_eq_some_iff.mp H
               obtain ⟨t488, A1120, H⟩ := H
               have A112 := Aside0.mk A1120
               clear A1120
               by_cases c113 : t488 = true
               · subst c113
                 rw [if_pos rfl] at H
                 replace H := Option.bind_eq_some_iff.mp H
                 obtain ⟨t489, A1140, H⟩ := H
                 have A114 := Aside0.mk A1140
                 clear A1140
                 by_cases c115 : t489 = true
                 · subst c115
                   rw [if_pos rfl] at H
                   by_cases c116 : t449 = t456
                   · rw [if_pos c116] at H
                     have c116b0 : (t449 == t456) = true := beq_iff_eq.mpr c116
                     have c116b1 : (t449 != t456) = false := bne_eq_false_iff_eq.mpr c116
                     clear c116
                     replace H := Option.bind_eq_some_iff.mp H
                     obtain ⟨t490, A1170, H⟩ := H
                     have A117 := Aside0.mk A1170
                     clear A1170
                     replace H := Option.bind_eq_some_iff.mp H
                     obtain ⟨t493, A1180, H⟩ := H
                     have A118 := Aside0.mk A1180
                     clear A1180
                     by_cases c119 : t493 = true
                     · subst c119
                       rw [if_pos rfl] at H
                       replace H := Option.bind_eq_some_iff.mp H
                       obtain ⟨t494, A1200, H⟩ := H
                       have A120 := Aside0.mk A1200
                       clear A1200
                       by_cases c121 : t494 = true
                       · subst c121
                         rw [if_pos rfl] at H
                         by_cases c122 : t463 = t470
                         · rw [if_pos c122] at H
                           have c122b0 : (t463 == t470) = true := beq_iff_eq.mpr c122
                           have c122b1 : (t463 != t470) = false := bne_eq_false_iff_eq.mpr c122
                           clear c122
                           replace H := Option.bind_eq_some_iff.mp H
                           obtain ⟨t495, A1230, H⟩ := H
                           have A123 := Aside0.mk A1230
                           clear A1230
                           obtain rfl := Option.some.inj H
                           obtain ⟨Ao124, co124, eo124⟩ := Kd.V_slice HO_14.out
                           subst eo124
                           go_wp2_with (first | ((with_reducible refine gate_callee (f := 13) rfl ?_); refine goesL_ (some 145) rfl rfl Try.func13 (by kernel_rfl) rfl #[.slice Ao124 t428.length co124] rfl mp_ ?_; (with_reducible refine (handshakerlaw22_Refs.calls kj46 _ _ t428 t481 _ ?side1 ?side2 A107.out).mono ?_); (case side1 => repeat (first | exact (Kd.V_reads' HO_14.out).2.2 | with_reducible first | refine Kd.C_alloc ?_ _ | refine Kd.C_drewN ?_ _ | refine Kd.C_drew ?_)); (case side2 => exact (Kd.V_reads' HO_14.out).2.1); rintro e w125 ⟨v482, rfl, ho0, hb⟩; refine ⟨_, rfl, ?_⟩; replace HO_14 := Aside0.mk (Kd.V_elder' (vq_ HO_14) (Kd.N_base (Kd.S_N ho0)) hb); replace HO_16 := Aside0.mk (Kd.V_elder' (vq_ HO_16) (Kd.N_base (Kd.S_N ho0)) hb); replace HO_18 := Aside0.mk (Kd.V_elder' (vq_ HO_18) (Kd.N_base (Kd.S_N ho0)) hb); replace HO_19 := Aside0.mk (Kd.V_elder' (vq_ HO_19) (Kd.N_base (Kd.S_N ho0)) hb); replace HO_21 := Aside0.mk (Kd.V_elder' (vq_ HO_21) (Kd.N_base (Kd.S_N ho0)) hb); replace HO_22 := Aside0.mk (Kd.V_elder' (vq_ HO_22) (Kd.N_base (Kd.S_N ho0)) hb); replace HO_24 := Aside0.mk (Kd.V_elder' (vq_ HO_24) (Kd.N_base (Kd.S_N ho0)) hb); replace HO_25 := Aside0.mk (Kd.V_elder' (vq_ HO_25) (Kd.N_base (Kd.S_N ho0)) hb); replace HO_27 := Aside0.mk (Kd.V_elder' (vq_ HO_27) (Kd.N_base (Kd.S_N ho0)) hb); replace HO_28 := Aside0.mk (Kd.V_elder' (vq_ HO_28) (Kd.N_base (Kd.S_N ho0)) hb); replace HO_419001 := Aside0.mk (Kd.V_elder' (vq_ HO_419001) (Kd.N_base (Kd.S_N ho0)) hb); replace HO483 := Aside0.mk (Kd.N_lower (Kd.N_mono (ok' := fun k_ => ((P0_ k_ ∨ P1_1_ k_ ∨ P4_ k_) ∨ w.heap.size ≤ k_) ∧ k_ ≠ gb418) (Kd.S_N (Kd.S_bound ho0)) (fun k_ hk_ => ⟨(.inr (Nat.le_trans (below_size bsw_) hk_.2.1)), (Kd.freshB (g := gb418) (o := .cells #[.int .i64 a1_0, .slice A1_1 l1_1.length c1_1] 25 (0, 0)) (bq_ BK418) k_ hk_.2.1)⟩)) (below_size bsw_)); replace BK418 := bb_ BK418 hb; replace HR438_1 := Aside0.mk (Kd.V_reads' HL438_1.out).2.2; replace HB := Aside0.mk (below_step bsw_ hb); (try clear hb); (try clear hb2); (try clear hk); (try clear hi); (try clear ho0); obtain ⟨Ao126, co126, eo126⟩ := Kd.N_slice HO483.out; subst eo126; obtain ⟨Ao127, co127, eo127⟩ := Kd.V_slice HO_16.out; subst eo127) | ((with_reducible refine gate_callee (f := 26) rfl ?_); refine goesL_ (some 147) rfl rfl Try.func26 (by kernel_rfl) rfl #[.slice Ao126 t481.length co126, .slice Ao127 t439.length co127] rfl mp_ ?_; (with_reducible refine (handshakerref22_Same.calls kj46 _ _ t481 _ _ t439 true _ ?side1 ?side2 ?side3 ?side4 A108.out).mono ?_); (case side1 => repeat (first | exact (Kd.N_reads' HO483.out).2.2 | with_reducible first | refine Kd.C_alloc ?_ _ | refine Kd.C_drewN ?_ _ | refine Kd.C_drew ?_)); (case side2 => exact (Kd.N_reads' HO483.out).2.1); (case side3 => repeat (first | exact (Kd.V_reads' HO_16.out).2.2 | with_reducible first | refine Kd.C_alloc ?_ _ | refine Kd.C_drewN ?_ _ | refine Kd.C_drew ?_)); (case side4 => exact (Kd.V_reads' HO_16.out).2.1); rintro e w' ⟨rfl, ⟨nd, rfl⟩⟩; refine ⟨_, rfl, ?_⟩; obtain ⟨Ao128, co128, eo128⟩ := Kd.V_slice HO_18.out; subst eo128) | (go_at_call 13; (with_reducible refine (handshakerlaw22_Refs.calls kj46 _ _ t443 t485 _ ?side1 ?side2 A111.out).mono ?_); (case side1 => repeat (first | exact (Kd.V_reads' HO_18.out).2.2 | with_reducible first | refine Kd.C_alloc ?_ _ | refine Kd.C_drewN ?_ _ | refine Kd.C_drew ?_)); (case side2 => exact (Kd.V_reads' HO_18.out).2.1); rintro e w129 ⟨v486, rfl, ho0, hb⟩; replace HO_14 := Aside0.mk (Kd.V_elder' (vq_ HO_14) (Kd.N_base (Kd.S_N ho0)) hb); replace HO_16 := Aside0.mk (Kd.V_elder' (vq_ HO_16) (Kd.N_base (Kd.S_N ho0)) hb); replace HO_18 := Aside0.mk (Kd.V_elder' (vq_ HO_18) (Kd.N_base (Kd.S_N ho0)) hb); replace HO_19 := Aside0.mk (Kd.V_elder' (vq_ HO_19) (Kd.N_base (Kd.S_N ho0)) hb); replace HO_21 := Aside0.mk (Kd.V_elder' (vq_ HO_21) (Kd.N_base (Kd.S_N ho0)) hb); replace HO_22 := Aside0.mk (Kd.V_elder' (vq_ HO_22) (Kd.N_base (Kd.S_N ho0)) hb); replace HO_24 := Aside0.mk (Kd.V_elder' (vq_ HO_24) (Kd.N_base (Kd.S_N ho0)) hb); replace HO_25 := Aside0.mk (Kd.V_elder' (vq_ HO_25) (Kd.N_base (Kd.S_N ho0)) hb); replace HO_27 := Aside0.mk (Kd.V_elder' (vq_ HO_27) (Kd.N_base (Kd.S_N ho0)) hb); replace HO_28 := Aside0.mk (Kd.V_elder' (vq_ HO_28) (Kd.N_base (Kd.S_N ho0)) hb); replace HO_419001 := Aside0.mk (Kd.V_elder' (vq_ HO_419001) (Kd.N_base (Kd.S_N ho0)) hb); replace HO487 := Aside0.mk (Kd.N_lower (Kd.N_mono (ok' := fun k_ => ((P0_ k_ ∨ P1_1_ k_ ∨ P4_ k_) ∨ w.heap.size ≤ k_) ∧ some k_ ≠ (.slice Ao126 t481.length co126 : Value).ownBlock ∧ k_ ≠ gb418) (Kd.S_N (Kd.S_bound ho0)) (fun k_ hk_ => ⟨(.inr (Nat.le_trans (below_size bsw_) hk_.2.1)), (Kd.fresh' (Kd.N_lt (nq_ HO483)) k_ hk_.2.1), (Kd.freshB (g := gb418) (o := .cells #[.int .i64 a1_0, .slice A1_1 l1_1.length c1_1] 25 (0, 0)) (bq_ BK418) k_ hk_.2.1)⟩)) (below_size bsw_)); replace HO483 := Aside0.mk (Kd.N_elder' (nq_ HO483) (Kd.N_base (Kd.S_N ho0)) hb); replace BK418 := bb_ BK418 hb; replace HR438_1 := Aside0.mk (Kd.V_reads' HL438_1.out).2.2; replace HB := Aside0.mk (below_step bsw_ hb); (try clear hb); (try clear hb2); (try clear hk); (try clear hi); (try clear ho0); obtain ⟨Ao130, co130, eo130⟩ := Kd.N_slice HO487.out; subst eo130; obtain ⟨Ao131, co131, eo131⟩ := Kd.V_slice HO_21.out; subst eo131) | (go_at_call 26; (with_reducible refine (handshakerref22_Same.calls kj46 _ _ t485 _ _ t450 true _ ?side1 ?side2 ?side3 ?side4 A112.out).mono ?_); (case side1 => repeat (first | exact (Kd.N_reads' HO487.out).2.2 | with_reducible first | refine Kd.C_alloc ?_ _ | refine Kd.C_drewN ?_ _ | refine Kd.C_drew ?_)); (case side2 => exact (Kd.N_reads' HO487.out).2.1); (case side3 => repeat (first | exact (Kd.V_reads' HO_21.out).2.2 | with_reducible first | refine Kd.C_alloc ?_ _ | refine Kd.C_drewN ?_ _ | refine Kd.C_drew ?_)); (case side4 => exact (Kd.V_reads' HO_21.out).2.1); rintro e w' ⟨rfl, ⟨nd, rfl⟩⟩; obtain ⟨Ao132, co132, eo132⟩ := Kd.V_slice HO_19.out; subst eo132; obtain ⟨Ao133, co133, eo133⟩ := Kd.V_slice HO_22.out; subst eo133) | (go_at_call 27; (with_reducible refine (handshakerref02_Same.calls kj46 _ _ t446 _ _ t453 true _ ?side1 ?side2 ?side3 ?side4 A114.out).mono ?_); (case side1 => repeat (first | exact (Kd.V_reads' HO_19.out).2.2 | with_reducible first | refine Kd.C_alloc ?_ _ | refine Kd.C_drewN ?_ _ | refine Kd.C_drew ?_)); (case side2 => exact (Kd.V_reads' HO_19.out).2.1); (case side3 => repeat (first | exact (Kd.V_reads' HO_22.out).2.2 | with_reducible first | refine Kd.C_alloc ?_ _ | refine Kd.C_drewN ?_ _ | refine Kd.C_drew ?_)); (case side4 => exact (Kd.V_reads' HO_22.out).2.1); rintro e w' ⟨rfl, ⟨nd, rfl⟩⟩; obtain ⟨Ao134, co134, eo134⟩ := Kd.V_slice HO_24.out; subst eo134) | (go_at_call 13; (with_reducible refine (handshakerlaw22_Refs.calls kj46 _ _ t457 t490 _ ?side1 ?side2 A117.out).mono ?_); (case side1 => repeat (first | exact (Kd.V_reads' HO_24.out).2.2 | with_reducible first | refine Kd.C_alloc ?_ _ | refine Kd.C_drewN ?_ _ | refine Kd.C_drew ?_)); (case side2 => exact (Kd.V_reads' HO_24.out).2.1); rintro e w135 ⟨v491, rfl, ho0, hb⟩; replace HO_14 := Aside0.mk (Kd.V_elder' (vq_ HO_14) (Kd.N_base (Kd.S_N ho0)) hb); replace HO_16 := Aside0.mk (Kd.V_elder' (vq_ HO_16) (Kd.N_base (Kd.S_N ho0)) hb); replace HO_18 := Aside0.mk (Kd.V_elder' (vq_ HO_18) (Kd.N_base (Kd.S_N ho0)) hb); replace HO_19 := Aside0.mk (Kd.V_elder' (vq_ HO_19) (Kd.N_base (Kd.S_N ho0)) hb); replace HO_21 := Aside0.mk (Kd.V_elder' (vq_ HO_21) (Kd.N_base (Kd.S_N ho0)) hb); replace HO_22 := Aside0.mk (Kd.V_elder' (vq_ HO_22) (Kd.N_base (Kd.S_N ho0)) hb); replace HO_24 := Aside0.mk (Kd.V_elder' (vq_ HO_24) (Kd.N_base (Kd.S_N ho0)) hb); replace HO_25 := Aside0.mk (Kd.V_elder' (vq_ HO_25) (Kd.N_base (Kd.S_N ho0)) hb); replace HO_27 := Aside0.mk (Kd.V_elder' (vq_ HO_27) (Kd.N_base (Kd.S_N ho0)) hb); replace HO_28 := Aside0.mk (Kd.V_elder' (vq_ HO_28) (Kd.N_base (Kd.S_N ho0)) hb); replace HO_419001 := Aside0.mk (Kd.V_elder' (vq_ HO_419001) (Kd.N_base (Kd.S_N ho0)) hb); replace HO492 := Aside0.mk (Kd.N_lower (Kd.N_mono (ok' := fun k_ => ((P0_ k_ ∨ P1_1_ k_ ∨ P4_ k_) ∨ w.heap.size ≤ k_) ∧ some k_ ≠ (.slice Ao126 t481.length co126 : Value).ownBlock ∧ some k_ ≠ (.slice Ao130 t485.length co130 : Value).ownBlock ∧ k_ ≠ gb418) (Kd.S_N (Kd.S_bound ho0)) (fun k_ hk_ => ⟨(.inr (Nat.le_trans (below_size bsw_) hk_.2.1)), (Kd.fresh' (Kd.N_lt (nq_ HO483)) k_ hk_.2.1), (Kd.fresh' (Kd.N_lt (nq_ HO487)) k_ hk_.2.1), (Kd.freshB (g := gb418) (o := .cells #[.int .i64 a1_0, .slice A1_1 l1_1.length c1_1] 25 (0, 0)) (bq_ BK418) k_ hk_.2.1)⟩)) (below_size bsw_)); replace HO483 := Aside0.mk (Kd.N_elder' (nq_ HO483) (Kd.N_base (Kd.S_N ho0)) hb); replace HO487 := Aside0.mk (Kd.N_elder' (nq_ HO487) (Kd.N_base (Kd.S_N ho0)) hb); replace BK418 := bb_ BK418 hb; replace HR438_1 := Aside0.mk (Kd.V_reads' HL438_1.out).2.2; replace HB := Aside0.mk (below_step bsw_ hb); (try clear hb); (try clear hb2); (try clear hk); (try clear hi); (try clear ho0); obtain ⟨Ao136, co136, eo136⟩ := Kd.N_slice HO492.out; subst eo136; obtain ⟨Ao137, co137, eo137⟩ := Kd.V_slice HO_27.out; subst eo137) | (go_at_call 26; (with_reducible refine (handshakerref22_Same.calls kj46 _ _ t490 _ _ t464 true _ ?side1 ?side2 ?side3 ?side4 A118.out).mono ?_); (case side1 => repeat (first | exact (Kd.N_reads' HO492.out).2.2 | with_reducible first | refine Kd.C_alloc ?_ _ | refine Kd.C_drewN ?_ _ | refine Kd.C_drew ?_)); (case side2 => exact (Kd.N_reads' HO492.out).2.1); (case side3 => repeat (first | exact (Kd.V_reads' HO_27.out).2.2 | with_reducible first | refine Kd.C_alloc ?_ _ | refine Kd.C_drewN ?_ _ | refine Kd.C_drew ?_)); (case side4 => exact (Kd.V_reads' HO_27.out).2.1); rintro e w' ⟨rfl, ⟨nd, rfl⟩⟩; obtain ⟨Ao138, co138, eo138⟩ := Kd.V_slice HO_25.out; subst eo138; obtain ⟨Ao139, co139, eo139⟩ := Kd.V_slice HO_28.out; subst eo139) | (go_at_call 27; (with_reducible refine (handshakerref02_Same.calls kj46 _ _ t460 _ _ t467 true _ ?side1 ?side2 ?side3 ?side4 A120.out).mono ?_); (case side1 => repeat (first | exact (Kd.V_reads' HO_25.out).2.2 | with_reducible first | refine Kd.C_alloc ?_ _ | refine Kd.C_drewN ?_ _ | refine Kd.C_drew ?_)); (case side2 => exact (Kd.V_reads' HO_25.out).2.1); (case side3 => repeat (first | exact (Kd.V_reads' HO_28.out).2.2 | with_reducible first | refine Kd.C_alloc ?_ _ | refine Kd.C_drewN ?_ _ | refine Kd.C_drew ?_)); (case side4 => exact (Kd.V_reads' HO_28.out).2.1); rintro e w' ⟨rfl, ⟨nd, rfl⟩⟩) | (go_at_call 12; (with_reducible refine (handshakerlaw22_awake.calls kj46  t495 _ A123.out).mono ?_); rintro e w140 ⟨rfl, hb⟩; replace HO_14 := vb_ HO_14 hb; replace HO_16 := vb_ HO_16 hb; replace HO_18 := vb_ HO_18 hb; replace HO_19 := vb_ HO_19 hb; replace HO_21 := vb_ HO_21 hb; replace HO_22 := vb_ HO_22 hb; replace HO_24 := vb_ HO_24 hb; replace HO_25 := vb_ HO_25 hb; replace HO_27 := vb_ HO_27 hb; replace HO_28 := vb_ HO_28 hb; replace HO_419001 := vb_ HO_419001 hb; replace HO483 := nb_ HO483 hb; replace HO487 := nb_ HO487 hb; replace HO492 := nb_ HO492 hb; replace BK418 := bb_ BK418 hb; replace HR438_1 := Aside0.mk (Kd.V_reads' HL438_1.out).2.2; replace HB := Aside0.mk (below_step bsw_ hb); (try clear hb); (try clear hb2); (try clear hk); (try clear hi)))
                           go_ret
                           exact ⟨by first | rfl | (simp [errW_none, errW_some] <;> rfl) | (simp [*, errW_none, errW_some] <;> rfl), bsw_⟩
                         · rw [if_neg c122] at H
                           have c122b0 : (t463 == t470) = false := beq_eq_false_iff_ne.mpr c122
                           have c122b1 : (t463 != t470) = true := bne_iff_ne.mpr c122
                           exact absurd (Option.some.inj H) (by rw [HT.out]; decide)
                       · replace c121 := Bool.eq_false_iff.mpr c121
                         subst c121
                         rw [if_neg (show ¬ (false = true) by decide)] at H
                         exact absurd (Option.some.inj H) (by rw [HT.out]; decide)
                     · replace c119 := Bool.eq_false_iff.mpr c119
                       subst c119
                       rw [if_neg (show ¬ (false = true) by decide)] at H
                       exact absurd (Option.some.inj H) (by rw [HT.out]; decide)
                   · rw [if_neg c116] at H
                     have c116b0 : (t449 == t456) = false := beq_eq_false_iff_ne.mpr c116
                     have c116b1 : (t449 != t456) = true := bne_iff_ne.mpr c116
                     exact absurd (Option.some.inj H) (by rw [HT.out]; decide)
                 · replace c115 := Bool.eq_false_iff.mpr c115
                   subst c115
                   rw [if_neg (show ¬ (false = true) by decide)] at H
                   exact absurd (Option.some.inj H) (by rw [HT.out]; decide)
               · replace c113 := Bool.eq_false_iff.mpr c113
                 subst c113
                 rw [if_neg (show ¬ (false = true) by decide)] at H
                 exact absurd (Option.some.inj H) (by rw [HT.out]; decide)
             · rw [if_neg c110] at H
               have c110b0 : (t431 == t442) = false := beq_eq_false_iff_ne.mpr c110
               have c110b1 : (t431 != t442) = true := bne_iff_ne.mpr c110
               exact absurd (Option.some.inj H) (by rw [HT.out]; decide)
           · replace c109 := Bool.eq_false_iff.mpr c109
             subst c109
             rw [if_neg (show ¬ (false = true) by decide)] at H
             exact absurd (Option.some.inj H) (by rw [HT.out]; decide)
     · rw [if_neg c39] at H
       exact absurd H (by simp)

/-- THE ONE PURE STATEMENT of handshakerlaw22_AfterTells. -/
def handshakerlaw22_AfterTells.Pure : Prop := ∀ (l0 : List (S25)) (x1 : S25) (a2 : Int) (a3 : Int) (l4 : List (S66)) (l5 : List Int), l0.length ≤ maxLen → l0.length * 32 ≤ 140737488351232 → (∀ y ∈ l0, wfS25 y) → wfS25 x1 → (Lit.int .i64 a2).wf = true → (Lit.int .i64 a3).wf = true → l4.length ≤ maxLen → l4.length * 16 ≤ 140737488351232 → (∀ y ∈ l4, wfS66 y) → l5.length ≤ maxLen → l5.length * 8 ≤ 140737488351232 → (∀ y ∈ l5, (Lit.int .i64 y).wf = true) → ∃ k, handshakerlaw22_AfterTells.f k l0 x1.f0 x1.f1 a2 a3 l4 l5 = some true

end Go.Proofs.Ytihcnbhcemkncaa.B
