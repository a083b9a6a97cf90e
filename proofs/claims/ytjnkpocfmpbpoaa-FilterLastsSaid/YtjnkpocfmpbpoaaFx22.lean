-- PRINTED by print.py (a twelfth state) out of the translation. Not trusted: Lean checks it.
import Derived.Test.YtjnkpocfmpbpoaaFx0
import Derived.Test.YtjnkpocfmpbpoaaFx10
import Derived.Test.YtjnkpocfmpbpoaaFx11
import Derived.Test.YtjnkpocfmpbpoaaFx12
import Derived.Test.YtjnkpocfmpbpoaaFx13
import Derived.Test.YtjnkpocfmpbpoaaFx15
namespace Go.Proofs.Ytjnkpocfmpbpoaa.F
open Go.Proofs.Ytjnkpocfmpbpoaa.Ho
open Go.RowKit Go.Proofs.YtjnkpocfmpbpoaaW.PrintWords Go.Proofs.YtjnkpocfmpbpoaaW.PrintLast Go.Proofs.YtjnkpocfmpbpoaaW.PrintMore
attribute [local go_sem] max2_int min2_int max_two min_two max_three min_three max_four min_four   -- for this text's walks alone
set_option linter.unusedVariables false
set_option linter.unusedSimpArgs false

/-! ### handshakerlaw16_FilterLasts: function 12 -/
mutual
def handshakerlaw16_FilterLasts.j0 : Nat → List (S98) → List (S62) → Bool → Int → Int → Int → List (S62) → List (S80) → Option (Bool)
 | 0, _, _, _, _, _, _, _, _ => none
 | k + 1, x1, x2, x34, x589000, x589001, x589002, x589003, x589004 => if x34 = true then ((handshakerlaw16_awake.f k).bind fun t593 => (some t593)) else ((filter_Lie.f k ([] : List (S26)) x589000 x589001 x589002 x589003 x589004 x1).bind fun bt594 => (if bt594.2 = 0 then ((filter_May.f k x589000 x589001 x589002 x589003 x589004 x1).bind fun t599 => (if t599 = true then (some false) else (handshakerlaw16_FilterLasts.l0 k bt594.1 x1 x2 (x2.length : Int) 0 x589000 x589001 x589002 x589003 x589004))) else (if (bt594.1.length : Int) = 0 then ((handshakerlaw16_awake.f k).bind fun t598 => (some t598)) else (some false))))
def handshakerlaw16_FilterLasts.l0 : Nat → List (S26) → List (S98) → List (S62) → Int → Int → Int → Int → Int → List (S62) → List (S80) → Option (Bool)
 | 0, _, _, _, _, _, _, _, _, _, _ => none
 | k + 1, x7, x9, x54, x55, x56, x589000, x589001, x589002, x589003, x589004 => if x56 < x55 then (if 0 ≤ x56 then (if x56 < (x54.length : Int) then ((heap_Put.f k x9 (([(⟨(rd_T62 x54 x56).f0, (rd_T62 x54 x56).f1⟩ : S62)] : List (S62)))).bind fun bt606 => (if bt606.2 = 0 then ((filter_Wake.f k x7 bt606.1 (([(⟨(rd_T62 x54 x56).f0, (rd_T62 x54 x56).f1⟩ : S62)] : List (S62)))).bind fun bt613 => ((filter_May.f k x589000 x589001 x589002 x589003 x589004 bt606.1).bind fun t619 => (if t619 = true then (if (bt613.2.length : Int) = 1 then (handshakerlaw16_FilterLasts.j2 k bt606.1 bt613.1 bt613.2 x54 x55 x56 ((wrap64 ((bt613.1.length : Int) + (bt613.2.length : Int))) != 1) x589000 x589001 x589002 x589003 x589004) else (handshakerlaw16_FilterLasts.j2 k bt606.1 bt613.1 bt613.2 x54 x55 x56 true x589000 x589001 x589002 x589003 x589004)) else (if (bt613.2.length : Int) = 1 then (handshakerlaw16_FilterLasts.j2 k bt606.1 bt613.1 bt613.2 x54 x55 x56 true x589000 x589001 x589002 x589003 x589004) else (handshakerlaw16_FilterLasts.j2 k bt606.1 bt613.1 bt613.2 x54 x55 x56 ((wrap64 ((bt613.1.length : Int) + (bt613.2.length : Int))) != 1) x589000 x589001 x589002 x589003 x589004))))) else (handshakerlaw16_FilterLasts.l0 k x7 x9 x54 x55 (wrap64 (x56 + 1)) x589000 x589001 x589002 x589003 x589004))) else (none)) else (none)) else ((handshakerlaw16_awake.f k).bind fun t600 => (some t600))
def handshakerlaw16_FilterLasts.j2 : Nat → List (S98) → List (S26) → List Int → List (S62) → Int → Int → Bool → Int → Int → Int → List (S62) → List (S80) → Option (Bool)
 | 0, _, _, _, _, _, _, _, _, _, _, _, _ => none
 | k + 1, x12, x14, x15, x54, x55, x56, x91, x589000, x589001, x589002, x589003, x589004 => if x91 = true then (some false) else (if (x15.length : Int) = 1 then (if 0 < (x15.length : Int) then (if (rd x15 0) = x589000 then ((handshakerlaw16_awake.f k).bind fun t621 => (some t621)) else (some false)) else (none)) else (handshakerlaw16_FilterLasts.l0 k x14 x12 x54 x55 (wrap64 (x56 + 1)) x589000 x589001 x589002 x589003 x589004))
end
def handshakerlaw16_FilterLasts.f (k : Nat) (a0_0 : Int) (a0_1 : Int) (a0_2 : Int) (l0_3 : List (S62)) (l0_4 : List (S80)) (l1 : List (S98)) (l2 : List (S62)) : Option (Bool) := (handshakerlaw15_Small.f k (([(⟨a0_0, a0_1, a0_2, l0_3, l0_4⟩ : S26)] : List (S26)))).bind fun t592 => (if t592 < 0 then (handshakerlaw16_FilterLasts.j0 k l1 l2 true a0_0 a0_1 a0_2 l0_3 l0_4) else (if (l1.length : Int) > 64 then (handshakerlaw16_FilterLasts.j0 k l1 l2 true a0_0 a0_1 a0_2 l0_3 l0_4) else (if (l2.length : Int) > 40 then (handshakerlaw16_FilterLasts.j0 k l1 l2 true a0_0 a0_1 a0_2 l0_3 l0_4) else (handshakerlaw16_FilterLasts.j0 k l1 l2 (a0_1 == 1) a0_0 a0_1 a0_2 l0_3 l0_4))))
theorem handshakerlaw16_FilterLasts.mono_l : ∀ k, (∀ y0 y1 y2 y3 y4 y5 y6 y7, LeO (handshakerlaw16_FilterLasts.j0 k y0 y1 y2 y3 y4 y5 y6 y7) (handshakerlaw16_FilterLasts.j0 (k + 1) y0 y1 y2 y3 y4 y5 y6 y7)) ∧ (∀ y0 y1 y2 y3 y4 y5 y6 y7 y8 y9, LeO (handshakerlaw16_FilterLasts.l0 k y0 y1 y2 y3 y4 y5 y6 y7 y8 y9) (handshakerlaw16_FilterLasts.l0 (k + 1) y0 y1 y2 y3 y4 y5 y6 y7 y8 y9)) ∧ (∀ y0 y1 y2 y3 y4 y5 y6 y7 y8 y9 y10 y11, LeO (handshakerlaw16_FilterLasts.j2 k y0 y1 y2 y3 y4 y5 y6 y7 y8 y9 y10 y11) (handshakerlaw16_FilterLasts.j2 (k + 1) y0 y1 y2 y3 y4 y5 y6 y7 y8 y9 y10 y11))
 | 0 => ⟨fun _ _ _ _ _ _ _ _ r h => by simp [handshakerlaw16_FilterLasts.j0] at h, fun _ _ _ _ _ _ _ _ _ _ r h => by simp [handshakerlaw16_FilterLasts.l0] at h, fun _ _ _ _ _ _ _ _ _ _ _ _ r h => by simp [handshakerlaw16_FilterLasts.j2] at h⟩
 | k + 1 => by
  obtain ⟨ih0, ih1, ih2⟩ := handshakerlaw16_FilterLasts.mono_l k
  refine ⟨?_, ?_, ?_⟩
  · intro y0 y1 y2 y3 y4 y5 y6 y7
    unfold handshakerlaw16_FilterLasts.j0
    repeat' first
    | (with_reducible exact ih0 _ _ _ _ _ _ _ _)
    | (with_reducible exact ih1 _ _ _ _ _ _ _ _ _ _)
    | (with_reducible exact ih2 _ _ _ _ _ _ _ _ _ _ _ _)
    | (with_reducible exact filter_Lie.mono _ _ _ _ _ _ _ _)
    | (with_reducible exact filter_May.mono _ _ _ _ _ _ _)
    | (with_reducible exact filter_Wake.mono _ _ _ _)
    | (with_reducible exact handshakerlaw15_Small.mono _ _)
    | (with_reducible exact handshakerlaw16_awake.mono _)
    | (with_reducible exact heap_Put.mono _ _ _)
    | (with_reducible exact LeO.refl _)
    | (with_reducible exact LeO.none _)
    | (with_reducible refine LeO.ite ?_ ?_)
    | (with_reducible refine LeO.bind ?_ (fun _ => ?_))
    | exact ih0 _ _ _ _ _ _ _ _
    | exact ih1 _ _ _ _ _ _ _ _ _ _
    | exact ih2 _ _ _ _ _ _ _ _ _ _ _ _
    | exact filter_Lie.mono _ _ _ _ _ _ _ _
    | exact filter_May.mono _ _ _ _ _ _ _
    | exact filter_Wake.mono _ _ _ _
    | exact handshakerlaw15_Small.mono _ _
    | exact handshakerlaw16_awake.mono _
    | exact heap_Put.mono _ _ _
    | exact LeO.none _
    | refine LeO.ite ?_ ?_
    | refine LeO.bind ?_ (fun _ => ?_)
  · intro y0 y1 y2 y3 y4 y5 y6 y7 y8 y9
    unfold handshakerlaw16_FilterLasts.l0
    repeat' first
    | (with_reducible exact ih0 _ _ _ _ _ _ _ _)
    | (with_reducible exact ih1 _ _ _ _ _ _ _ _ _ _)
    | (with_reducible exact ih2 _ _ _ _ _ _ _ _ _ _ _ _)
    | (with_reducible exact filter_Lie.mono _ _ _ _ _ _ _ _)
    | (with_reducible exact filter_May.mono _ _ _ _ _ _ _)
    | (with_reducible exact filter_Wake.mono _ _ _ _)
    | (with_reducible exact handshakerlaw15_Small.mono _ _)
    | (with_reducible exact handshakerlaw16_awake.mono _)
    | (with_reducible exact heap_Put.mono _ _ _)
    | (with_reducible exact LeO.refl _)
    | (with_reducible exact LeO.none _)
    | (with_reducible refine LeO.ite ?_ ?_)
    | (with_reducible refine LeO.bind ?_ (fun _ => ?_))
    | exact ih0 _ _ _ _ _ _ _ _
    | exact ih1 _ _ _ _ _ _ _ _ _ _
    | exact ih2 _ _ _ _ _ _ _ _ _ _ _ _
    | exact filter_Lie.mono _ _ _ _ _ _ _ _
    | exact filter_May.mono _ _ _ _ _ _ _
    | exact filter_Wake.mono _ _ _ _
    | exact handshakerlaw15_Small.mono _ _
    | exact handshakerlaw16_awake.mono _
    | exact heap_Put.mono _ _ _
    | exact LeO.none _
    | refine LeO.ite ?_ ?_
    | refine LeO.bind ?_ (fun _ => ?_)
  · intro y0 y1 y2 y3 y4 y5 y6 y7 y8 y9 y10 y11
    unfold handshakerlaw16_FilterLasts.j2
    repeat' first
    | (with_reducible exact ih0 _ _ _ _ _ _ _ _)
    | (with_reducible exact ih1 _ _ _ _ _ _ _ _ _ _)
    | (with_reducible exact ih2 _ _ _ _ _ _ _ _ _ _ _ _)
    | (with_reducible exact filter_Lie.mono _ _ _ _ _ _ _ _)
    | (with_reducible exact filter_May.mono _ _ _ _ _ _ _)
    | (with_reducible exact filter_Wake.mono _ _ _ _)
    | (with_reducible exact handshakerlaw15_Small.mono _ _)
    | (with_reducible exact handshakerlaw16_awake.mono _)
    | (with_reducible exact heap_Put.mono _ _ _)
    | (with_reducible exact LeO.refl _)
    | (with_reducible exact LeO.none _)
    | (with_reducible refine LeO.ite ?_ ?_)
    | (with_reducible refine LeO.bind ?_ (fun _ => ?_))
    | exact ih0 _ _ _ _ _ _ _ _
    | exact ih1 _ _ _ _ _ _ _ _ _ _
    | exact ih2 _ _ _ _ _ _ _ _ _ _ _ _
    | exact filter_Lie.mono _ _ _ _ _ _ _ _
    | exact filter_May.mono _ _ _ _ _ _ _
    | exact filter_Wake.mono _ _ _ _
    | exact handshakerlaw15_Small.mono _ _
    | exact handshakerlaw16_awake.mono _
    | exact heap_Put.mono _ _ _
    | exact LeO.none _
    | refine LeO.ite ?_ ?_
    | refine LeO.bind ?_ (fun _ => ?_)
theorem handshakerlaw16_FilterLasts.mono : ∀ a0 a1 a2 a3 a4 a5 a6 k, LeO (handshakerlaw16_FilterLasts.f k a0 a1 a2 a3 a4 a5 a6) (handshakerlaw16_FilterLasts.f (k + 1) a0 a1 a2 a3 a4 a5 a6) := by
 intro a0 a1 a2 a3 a4 a5 a6 k
 obtain ⟨ih0, ih1, ih2⟩ := handshakerlaw16_FilterLasts.mono_l k
 unfold handshakerlaw16_FilterLasts.f
 repeat' first
  | (with_reducible exact ih0 _ _ _ _ _ _ _ _)
  | (with_reducible exact ih1 _ _ _ _ _ _ _ _ _ _)
  | (with_reducible exact ih2 _ _ _ _ _ _ _ _ _ _ _ _)
  | (with_reducible exact filter_Lie.mono _ _ _ _ _ _ _ _)
  | (with_reducible exact filter_May.mono _ _ _ _ _ _ _)
  | (with_reducible exact filter_Wake.mono _ _ _ _)
  | (with_reducible exact handshakerlaw15_Small.mono _ _)
  | (with_reducible exact handshakerlaw16_awake.mono _)
  | (with_reducible exact heap_Put.mono _ _ _)
  | (with_reducible exact LeO.refl _)
  | (with_reducible exact LeO.none _)
  | (with_reducible refine LeO.ite ?_ ?_)
  | (with_reducible refine LeO.bind ?_ (fun _ => ?_))
  | exact ih0 _ _ _ _ _ _ _ _
  | exact ih1 _ _ _ _ _ _ _ _ _ _
  | exact ih2 _ _ _ _ _ _ _ _ _ _ _ _
  | exact filter_Lie.mono _ _ _ _ _ _ _ _
  | exact filter_May.mono _ _ _ _ _ _ _
  | exact filter_Wake.mono _ _ _ _
  | exact handshakerlaw15_Small.mono _ _
  | exact handshakerlaw16_awake.mono _
  | exact heap_Put.mono _ _ _
  | exact LeO.none _
  | refine LeO.ite ?_ ?_
  | refine LeO.bind ?_ (fun _ => ?_)
def handshakerlaw16_FilterLasts.T18 : Bool × List (List Nat × List Nat) := (true, [([], []), ([0], [0]), ([1], [1]), ([], []), ([3], [3]), ([2, 4], [2, 4]), ([5], [5]), ([6, 6], [6]), ([6, 7], [6, 7]), ([8, 7, 0, 1, 2, 3, 4, 5, 6, 7, 8], [8])])
def handshakerlaw16_FilterLasts.B18 : List Nat := [0, 1, 3, 0, 8, 31, 63, 127, 255, 511]
theorem handshakerlaw16_FilterLasts.tab18 : rtab .any (opsOf Try.f12 18) = handshakerlaw16_FilterLasts.T18 := by kernel_rfl
theorem handshakerlaw16_FilterLasts.bits18 : waitsOk handshakerlaw16_FilterLasts.T18.2 handshakerlaw16_FilterLasts.B18 = true := by kernel_rfl
set_option maxHeartbeats 8000000 in
set_option maxRecDepth 100000 in
theorem handshakerlaw16_FilterLasts.calls (k : Nat) (a0_0 : Int) (a0_1 : Int) (a0_2 : Int) (P0_3_ : Nat → Prop) (A0_3 : Option Addr) (c0_3 : Nat) (l0_3 : List (S62)) (P0_4_ : Nat → Prop) (A0_4 : Option Addr) (c0_4 : Nat) (l0_4 : List (S80)) (P1_ : Nat → Prop) (A1 : Option Addr) (c1 : Nat) (l1 : List (S98)) (A2 : Option Addr) (c2 : Nat) (l2 : List (S62)) (r : Bool) (w : World) (HT : Aside0 (r = true)) (hs0_3 : Kd.V k62 62 w w.heap.size (fun k_ => P0_3_ k_) (.slice A0_3 l0_3.length c0_3) l0_3) (hs0_4 : Kd.V k80 80 w w.heap.size (fun k_ => P0_4_ k_) (.slice A0_4 l0_4.length c0_4) l0_4) (hs1 : Kd.V k98 98 w w.heap.size (fun k_ => P1_ k_) (.slice A1 l1.length c1) l1) (hr2 : Kd.C k62 w A2 l2.length l2) (hc2 : l2.length ≤ c2) (h : handshakerlaw16_FilterLasts.f k a0_0 a0_1 a0_2 l0_3 l0_4 l1 l2 = some r) :
 Calls Try.prog 12 #[.agg #[.int .i64 a0_0, .int .i64 a0_1, .int .i64 a0_2, .slice A0_3 l0_3.length c0_3, .slice A0_4 l0_4.length c0_4], .slice A1 l1.length c1, .slice A2 l2.length c2] w fun e w' => e = .returned (.bool r) ∧ Below w.heap.size w w' := by
 have hu26 := Try.underlying26
 have hu62 := Try.underlying62
 have HO0_3 := ak (show Kd.V k62 62 w w.heap.size (fun k_ => ((P0_3_ k_ ∨ P0_4_ k_ ∨ P1_ k_) ∨ w.heap.size ≤ k_)) (.slice A0_3 l0_3.length c0_3) l0_3 from Kd.V_mono hs0_3 (fun k_ hk => .inl (.inl hk)))
 have HO0_4 := ak (show Kd.V k80 80 w w.heap.size (fun k_ => ((P0_3_ k_ ∨ P0_4_ k_ ∨ P1_ k_) ∨ w.heap.size ≤ k_)) (.slice A0_4 l0_4.length c0_4) l0_4 from Kd.V_mono hs0_4 (fun k_ hk => .inl (.inr (.inl hk))))
 have HO1 := ak (show Kd.V k98 98 w w.heap.size (fun k_ => ((P0_3_ k_ ∨ P0_4_ k_ ∨ P1_ k_) ∨ w.heap.size ≤ k_)) (.slice A1 l1.length c1) l1 from Kd.V_mono hs1 (fun k_ hk => .inl (.inr (.inr hk))))
 have HR2 := ak hr2
 have HC2 := ak hc2
 clear hr2 hc2
 have HB := ak (Below.refl w.heap.size w)
 have H : ((handshakerlaw15_Small.f k (([(⟨a0_0, a0_1, a0_2, l0_3, l0_4⟩ : S26)] : List (S26)))).bind fun t592 => (if t592 < 0 then (handshakerlaw16_FilterLasts.j0 k l1 l2 true a0_0 a0_1 a0_2 l0_3 l0_4) else (if (l1.length : Int) > 64 then (handshakerlaw16_FilterLasts.j0 k l1 l2 true a0_0 a0_1 a0_2 l0_3 l0_4) else (if (l2.length : Int) > 40 then (handshakerlaw16_FilterLasts.j0 k l1 l2 true a0_0 a0_1 a0_2 l0_3 l0_4) else (handshakerlaw16_FilterLasts.j0 k l1 l2 (a0_1 == 1) a0_0 a0_1 a0_2 l0_3 l0_4))))) = some r := h
 clear h
 have HC4 := ak H
 clear H
 go_enter Try.func12, Try.ntmps12
 go_upto_region 1 with (first | ((with_reducible refine gate_dst (N := 3) rfl ?_); (try (refine gate_guard (by rfl) ?_; dsimp only)); refine box_event ?hg (N := 3) ?hd (cs := #[.int .i64 a0_0, .int .i64 a0_1, .int .i64 a0_2, .slice A0_3 l0_3.length c0_3, .slice A0_4 l0_4.length c0_4]) (t := 26) ?hr ?_; (case hd => rfl); (case hg => rfl); (case hr => first | (go_simp; done) | (go_simp; rfl)); intro gb588 hg w5 hbox hb; replace HO0_3 := ak (Kd.V_below (Kd.V_elderB (vq_ HO0_3) gb588 (Nat.le_of_eq hg.symm)) hb); replace HO0_4 := ak (Kd.V_below (Kd.V_elderB (vq_ HO0_4) gb588 (Nat.le_of_eq hg.symm)) hb); replace HO1 := ak (Kd.V_below (Kd.V_elderB (vq_ HO1) gb588 (Nat.le_of_eq hg.symm)) hb); replace BK588 := ak (hbox); replace GW588 := ak ((by rw [hg]; exact bsz_ : w.heap.size ≤ gb588)); replace HB := ak (bst_ hb); replace GE588 := GW588; clear hb hbox hg))
 (try simp only [Act.put, List.setIfInBounds_toArray, List.set_cons_zero, List.set_cons_succ])
 go_cut [34] (fun v34 wc => ∃ (kq : Nat) (x34_3 : Bool), v34 = .bool x34_3 ∧ Aside0 (handshakerlaw16_FilterLasts.j0 kq l1 l2 x34_3 a0_0 a0_1 a0_2 l0_3 l0_4 = some r) ∧ Aside0 (kq ≤ k) ∧ Aside0 (Kd.V k98 98 wc w.heap.size (fun k_ => ((P0_3_ k_ ∨ P0_4_ k_ ∨ P1_ k_) ∨ w.heap.size ≤ k_) ∧ k_ ≠ gb588) (.slice A1 l1.length c1) l1) ∧ Aside0 (Kd.V k62 62 wc w.heap.size (fun k_ => ((P0_3_ k_ ∨ P0_4_ k_ ∨ P1_ k_) ∨ w.heap.size ≤ k_) ∧ k_ ≠ gb588) (.slice A0_3 l0_3.length c0_3) l0_3) ∧ Aside0 (Kd.V k80 80 wc w.heap.size (fun k_ => ((P0_3_ k_ ∨ P0_4_ k_ ∨ P1_ k_) ∨ w.heap.size ≤ k_) ∧ k_ ≠ gb588) (.slice A0_4 l0_4.length c0_4) l0_4) ∧ Aside0 (wc.heap[gb588]? = some (.cells #[.int .i64 a0_0, .int .i64 a0_1, .int .i64 a0_2, (.slice A0_3 l0_3.length c0_3), (.slice A0_4 l0_4.length c0_4)] 26 (0, 0))) ∧ Aside0 (Below w.heap.size w wc))
 case first =>
  have H := HC4.out
  clear HC4
  obtain ⟨y589, hy589⟩ : ∃ y_ : List (S26), y_ = (([(⟨a0_0, a0_1, a0_2, l0_3, l0_4⟩ : S26)] : List (S26))) := ⟨_, rfl⟩
  replace H : ((handshakerlaw15_Small.f k y589).bind fun t592 => (if t592 < 0 then (handshakerlaw16_FilterLasts.j0 k l1 l2 true a0_0 a0_1 a0_2 l0_3 l0_4) else (if (l1.length : Int) > 64 then (handshakerlaw16_FilterLasts.j0 k l1 l2 true a0_0 a0_1 a0_2 l0_3 l0_4) else (if (l2.length : Int) > 40 then (handshakerlaw16_FilterLasts.j0 k l1 l2 true a0_0 a0_1 a0_2 l0_3 l0_4) else (handshakerlaw16_FilterLasts.j0 k l1 l2 (a0_1 == 1) a0_0 a0_1 a0_2 l0_3 l0_4))))) = some r := by first | (rw [hy589]; with_reducible exact H) | (have H2_ := (Option.bind_some _ _).symm.trans H; rw [hy589]; with_reducible exact H2_) | (have H2_ := (Option.bind_some _ _).symm.trans H; with_reducible exact H2_) | with_reducible exact H | (rw [hy589]; exact H) | exact H
  have Ny589 := ak hy589
  clear hy589
  obtain ⟨t592, A6, H⟩ := bd_ H
  by_cases c7 : t592 < 0
  · rw [if_pos c7] at H
    have c7b0 : decide (t592 < 0) = true := decide_eq_true c7
    clear c7
    (first | rw [c7b0] | (simp only [i64_w, i32_w]; rw [c7b0]) | skip)
    have H' := ak H
    clear H
    obtain ⟨hcz8_0, hcz8_1, hcz8_2, hcz8_3, hcz8_4, hfz8_0, hfz8_1, hfz8_2, hfz8_3, hfz8_4⟩ := bz5_ BK588
    go_wp2_with (first | ((with_reducible refine gate_dst (N := 17) rfl ?_); (try (refine gate_guard (by rfl) ?_; dsimp only)); refine Kd.N_lit k26 _ 26 ?hg (N' := 17) ?hd (xs := ([(⟨a0_0, a0_1, a0_2, l0_3, l0_4⟩ : S26)] : List (S26))) (inner := [.int .i64 a0_0, .int .i64 a0_1, .int .i64 a0_2, .slice A0_3 l0_3.length c0_3, .slice A0_4 l0_4.length c0_4]) (ok := (fun k_ => ((P0_3_ k_ ∨ P0_4_ k_ ∨ P1_ k_) ∨ w.heap.size ≤ k_) ∧ k_ ≠ gb588)) (okp := (fun k_ => ((P0_3_ k_ ∨ P0_4_ k_ ∨ P1_ k_) ∨ w.heap.size ≤ k_) ∧ k_ ≠ gb588)) ?hr ?hp (fun _ hk => hk) ((show ∀ k_, w5.heap.size ≤ k_ → (fun k_ => ((P0_3_ k_ ∨ P0_4_ k_ ∨ P1_ k_) ∨ w.heap.size ≤ k_) ∧ k_ ≠ gb588) k_ from fun k_ hk => ⟨(.inr (Nat.le_trans (below_size bsw_) hk)), Kd.freshB (g := gb588) (o := .cells #[.int .i64 a0_0, .int .i64 a0_1, .int .i64 a0_2, .slice A0_3 l0_3.length c0_3, .slice A0_4 l0_4.length c0_4] 26 (0, 0)) (bq_ BK588) k_ hk⟩) _ (Nat.le_refl _)) (Below.refl _ _) (Nat.le_refl _) (by simp) ?_; (case hd => rfl); (case hg => rfl); (case hr => first | (go_simp; done) | (go_simp; rfl)); (case hp => exact (Reps.c5 (show Kd.FK k26 _ _ (⟨a0_0, a0_1, a0_2, l0_3, l0_4⟩ : S26) [.int .i64 a0_0, .int .i64 a0_1, .int .i64 a0_2, .slice A0_3 l0_3.length c0_3, .slice A0_4 l0_4.length c0_4] from (k26_mkF _ _ (⟨a0_0, a0_1, a0_2, l0_3, l0_4⟩ : S26) (Kd.V_reads' (Kd.V_mono (ok' := (fun k_ => ((P0_3_ k_ ∨ P0_4_ k_ ∨ P1_ k_) ∨ w.heap.size ≤ k_) ∧ k_ ≠ gb588)) (HO0_3.out) (fun k_ hk => ⟨hk.1, hk.2⟩))).2.1 (Kd.V_F (Kd.V_mono (ok' := (fun k_ => ((P0_3_ k_ ∨ P0_4_ k_ ∨ P1_ k_) ∨ w.heap.size ≤ k_) ∧ k_ ≠ gb588)) (HO0_3.out) (fun k_ hk => ⟨hk.1, hk.2⟩))) (Kd.V_reads' (Kd.V_mono (ok' := (fun k_ => ((P0_3_ k_ ∨ P0_4_ k_ ∨ P1_ k_) ∨ w.heap.size ≤ k_) ∧ k_ ≠ gb588)) (HO0_4.out) (fun k_ hk => ⟨hk.1, hk.2⟩))).2.1 (Kd.V_F (Kd.V_mono (ok' := (fun k_ => ((P0_3_ k_ ∨ P0_4_ k_ ∨ P1_ k_) ∨ w.heap.size ≤ k_) ∧ k_ ≠ gb588)) (HO0_4.out) (fun k_ hk => ⟨hk.1, hk.2⟩))))) (Reps.none _ _))); intro v590 w9 ho10 hb hg_ hnew_; clear hg_ hnew_; (first | rw [← Ny589.out] at ho10 | (simp only [Int.reduceToNat] at ho10; rw [← Ny589.out] at ho10)); replace HO0_3 := ak (Kd.V_elder' (vq_ HO0_3) (Kd.N_base ho10) hb); replace HO0_4 := ak (Kd.V_elder' (vq_ HO0_4) (Kd.N_base ho10) hb); replace HO1 := ak (Kd.V_elder' (vq_ HO1) (Kd.N_base ho10) hb); replace HO591 := ak (Kd.N_lower ho10 (below_size bsw_)); replace BK588 := bb_ BK588 hb; replace HB := ak (below_step bsw_ hb); clear hb ho10; obtain ⟨Ao11, co11, eo11⟩ := Kd.N_slice HO591.out; subst eo11) | ((with_reducible refine gate_callee (f := 14) rfl ?_); refine goesL_ (some 18) rfl rfl Try.func14 (by kernel_rfl) rfl #[.slice Ao11 y589.length co11] rfl mp_ ?_; (with_reducible refine (handshakerlaw15_Small.calls k _ _ y589 t592 _ ?side1 ?side2 A6.out).mono ?_); (case side1 => repeat (first | exact (Kd.N_reads' HO591.out).2.2 | with_reducible first | refine Kd.C_alloc ?_ _ | refine Kd.C_drewN ?_ _ | refine Kd.C_drew ?_)); (case side2 => exact (Kd.N_reads' HO591.out).2.1); rintro e w12 ⟨rfl, hb⟩; refine ⟨_, rfl, ?_⟩; replace HO0_3 := vb_ HO0_3 hb; replace HO0_4 := vb_ HO0_4 hb; replace HO1 := vb_ HO1 hb; replace HO591 := nb_ HO591 hb; replace BK588 := bb_ BK588 hb; replace HB := ak (below_step bsw_ hb); (try clear hb); (try clear hb2); (try clear hk); (try clear hi)))
    go_meet
    case rel => exact ⟨_, (true), (by first | rfl | (simp; done) | (simp [*]; done)), H', ⟨by first | omega | exact Nat.le_refl _⟩, ⟨Kd.V_mono (vq_ HO1) (fun _ hk => ⟨hk.1.1, hk.1.2⟩)⟩, ⟨Kd.V_mono (vq_ HO0_3) (fun _ hk => ⟨hk.1.1, hk.1.2⟩)⟩, ⟨Kd.V_mono (vq_ HO0_4) (fun _ hk => ⟨hk.1.1, hk.1.2⟩)⟩, ⟨bq_ BK588⟩, ⟨bsw_⟩⟩
  · rw [if_neg c7] at H
    have c7b0 : decide (t592 < 0) = false := decide_eq_false c7
    clear c7
    (first | rw [c7b0] | (simp only [i64_w, i32_w]; rw [c7b0]) | skip)
    by_cases c13 : (l1.length : Int) > 64
    · rw [if_pos c13] at H
      have c13b0 : decide (64 < (l1.length : Int)) = true := decide_eq_true c13
      have c13b1 : decide (64 < l1.length) = true := decide_eq_true (by omega)
      clear c13
      have H' := ak H
      clear H
      obtain ⟨hcz14_0, hcz14_1, hcz14_2, hcz14_3, hcz14_4, hfz14_0, hfz14_1, hfz14_2, hfz14_3, hfz14_4⟩ := bz5_ BK588
      go_wp2_with (first | ((with_reducible refine gate_dst (N := 17) rfl ?_); (try (refine gate_guard (by rfl) ?_; dsimp only)); refine Kd.N_lit k26 _ 26 ?hg (N' := 17) ?hd (xs := ([(⟨a0_0, a0_1, a0_2, l0_3, l0_4⟩ : S26)] : List (S26))) (inner := [.int .i64 a0_0, .int .i64 a0_1, .int .i64 a0_2, .slice A0_3 l0_3.length c0_3, .slice A0_4 l0_4.length c0_4]) (ok := (fun k_ => ((P0_3_ k_ ∨ P0_4_ k_ ∨ P1_ k_) ∨ w.heap.size ≤ k_) ∧ k_ ≠ gb588)) (okp := (fun k_ => ((P0_3_ k_ ∨ P0_4_ k_ ∨ P1_ k_) ∨ w.heap.size ≤ k_) ∧ k_ ≠ gb588)) ?hr ?hp (fun _ hk => hk) ((show ∀ k_, w5.heap.size ≤ k_ → (fun k_ => ((P0_3_ k_ ∨ P0_4_ k_ ∨ P1_ k_) ∨ w.heap.size ≤ k_) ∧ k_ ≠ gb588) k_ from fun k_ hk => ⟨(.inr (Nat.le_trans (below_size bsw_) hk)), Kd.freshB (g := gb588) (o := .cells #[.int .i64 a0_0, .int .i64 a0_1, .int .i64 a0_2, .slice A0_3 l0_3.length c0_3, .slice A0_4 l0_4.length c0_4] 26 (0, 0)) (bq_ BK588) k_ hk⟩) _ (Nat.le_refl _)) (Below.refl _ _) (Nat.le_refl _) (by simp) ?_; (case hd => rfl); (case hg => rfl); (case hr => first | (go_simp; done) | (go_simp; rfl)); (case hp => exact (Reps.c5 (show Kd.FK k26 _ _ (⟨a0_0, a0_1, a0_2, l0_3, l0_4⟩ : S26) [.int .i64 a0_0, .int .i64 a0_1, .int .i64 a0_2, .slice A0_3 l0_3.length c0_3, .slice A0_4 l0_4.length c0_4] from (k26_mkF _ _ (⟨a0_0, a0_1, a0_2, l0_3, l0_4⟩ : S26) (Kd.V_reads' (Kd.V_mono (ok' := (fun k_ => ((P0_3_ k_ ∨ P0_4_ k_ ∨ P1_ k_) ∨ w.heap.size ≤ k_) ∧ k_ ≠ gb588)) (HO0_3.out) (fun k_ hk => ⟨hk.1, hk.2⟩))).2.1 (Kd.V_F (Kd.V_mono (ok' := (fun k_ => ((P0_3_ k_ ∨ P0_4_ k_ ∨ P1_ k_) ∨ w.heap.size ≤ k_) ∧ k_ ≠ gb588)) (HO0_3.out) (fun k_ hk => ⟨hk.1, hk.2⟩))) (Kd.V_reads' (Kd.V_mono (ok' := (fun k_ => ((P0_3_ k_ ∨ P0_4_ k_ ∨ P1_ k_) ∨ w.heap.size ≤ k_) ∧ k_ ≠ gb588)) (HO0_4.out) (fun k_ hk => ⟨hk.1, hk.2⟩))).2.1 (Kd.V_F (Kd.V_mono (ok' := (fun k_ => ((P0_3_ k_ ∨ P0_4_ k_ ∨ P1_ k_) ∨ w.heap.size ≤ k_) ∧ k_ ≠ gb588)) (HO0_4.out) (fun k_ hk => ⟨hk.1, hk.2⟩))))) (Reps.none _ _))); intro v590 w15 ho16 hb hg_ hnew_; clear hg_ hnew_; (first | rw [← Ny589.out] at ho16 | (simp only [Int.reduceToNat] at ho16; rw [← Ny589.out] at ho16)); replace HO0_3 := ak (Kd.V_elder' (vq_ HO0_3) (Kd.N_base ho16) hb); replace HO0_4 := ak (Kd.V_elder' (vq_ HO0_4) (Kd.N_base ho16) hb); replace HO1 := ak (Kd.V_elder' (vq_ HO1) (Kd.N_base ho16) hb); replace HO591 := ak (Kd.N_lower ho16 (below_size bsw_)); replace BK588 := bb_ BK588 hb; replace HB := ak (below_step bsw_ hb); clear hb ho16; obtain ⟨Ao17, co17, eo17⟩ := Kd.N_slice HO591.out; subst eo17) | ((with_reducible refine gate_callee (f := 14) rfl ?_); refine goesL_ (some 18) rfl rfl Try.func14 (by kernel_rfl) rfl #[.slice Ao17 y589.length co17] rfl mp_ ?_; (with_reducible refine (handshakerlaw15_Small.calls k _ _ y589 t592 _ ?side1 ?side2 A6.out).mono ?_); (case side1 => repeat (first | exact (Kd.N_reads' HO591.out).2.2 | with_reducible first | refine Kd.C_alloc ?_ _ | refine Kd.C_drewN ?_ _ | refine Kd.C_drew ?_)); (case side2 => exact (Kd.N_reads' HO591.out).2.1); rintro e w18 ⟨rfl, hb⟩; refine ⟨_, rfl, ?_⟩; replace HO0_3 := vb_ HO0_3 hb; replace HO0_4 := vb_ HO0_4 hb; replace HO1 := vb_ HO1 hb; replace HO591 := nb_ HO591 hb; replace BK588 := bb_ BK588 hb; replace HB := ak (below_step bsw_ hb); (try clear hb); (try clear hb2); (try clear hk); (try clear hi)))
      go_meet
      case rel => exact ⟨_, (true), (by first | rfl | (simp; done) | (simp [*]; done)), H', ⟨by first | omega | exact Nat.le_refl _⟩, ⟨Kd.V_mono (vq_ HO1) (fun _ hk => ⟨hk.1.1, hk.1.2⟩)⟩, ⟨Kd.V_mono (vq_ HO0_3) (fun _ hk => ⟨hk.1.1, hk.1.2⟩)⟩, ⟨Kd.V_mono (vq_ HO0_4) (fun _ hk => ⟨hk.1.1, hk.1.2⟩)⟩, ⟨bq_ BK588⟩, ⟨bsw_⟩⟩
    · rw [if_neg c13] at H
      have c13b0 : decide (64 < (l1.length : Int)) = false := decide_eq_false c13
      have c13b1 : decide (64 < l1.length) = false := decide_eq_false (by omega)
      clear c13
      by_cases c19 : (l2.length : Int) > 40
      · rw [if_pos c19] at H
        have c19b0 : decide (40 < (l2.length : Int)) = true := decide_eq_true c19
        have c19b1 : decide (40 < l2.length) = true := decide_eq_true (by omega)
        clear c19
        have H' := ak H
        clear H
        obtain ⟨hcz20_0, hcz20_1, hcz20_2, hcz20_3, hcz20_4, hfz20_0, hfz20_1, hfz20_2, hfz20_3, hfz20_4⟩ := bz5_ BK588
        go_wp2_with (first | ((with_reducible refine gate_dst (N := 17) rfl ?_); (try (refine gate_guard (by rfl) ?_; dsimp only)); refine Kd.N_lit k26 _ 26 ?hg (N' := 17) ?hd (xs := ([(⟨a0_0, a0_1, a0_2, l0_3, l0_4⟩ : S26)] : List (S26))) (inner := [.int .i64 a0_0, .int .i64 a0_1, .int .i64 a0_2, .slice A0_3 l0_3.length c0_3, .slice A0_4 l0_4.length c0_4]) (ok := (fun k_ => ((P0_3_ k_ ∨ P0_4_ k_ ∨ P1_ k_) ∨ w.heap.size ≤ k_) ∧ k_ ≠ gb588)) (okp := (fun k_ => ((P0_3_ k_ ∨ P0_4_ k_ ∨ P1_ k_) ∨ w.heap.size ≤ k_) ∧ k_ ≠ gb588)) ?hr ?hp (fun _ hk => hk) ((show ∀ k_, w5.heap.size ≤ k_ → (fun k_ => ((P0_3_ k_ ∨ P0_4_ k_ ∨ P1_ k_) ∨ w.heap.size ≤ k_) ∧ k_ ≠ gb588) k_ from fun k_ hk => ⟨(.inr (Nat.le_trans (below_size bsw_) hk)), Kd.freshB (g := gb588) (o := .cells #[.int .i64 a0_0, .int .i64 a0_1, .int .i64 a0_2, .slice A0_3 l0_3.length c0_3, .slice A0_4 l0_4.length c0_4] 26 (0, 0)) (bq_ BK588) k_ hk⟩) _ (Nat.le_refl _)) (Below.refl _ _) (Nat.le_refl _) (by simp) ?_; (case hd => rfl); (case hg => rfl); (case hr => first | (go_simp; done) | (go_simp; rfl)); (case hp => exact (Reps.c5 (show Kd.FK k26 _ _ (⟨a0_0, a0_1, a0_2, l0_3, l0_4⟩ : S26) [.int .i64 a0_0, .int .i64 a0_1, .int .i64 a0_2, .slice A0_3 l0_3.length c0_3, .slice A0_4 l0_4.length c0_4] from (k26_mkF _ _ (⟨a0_0, a0_1, a0_2, l0_3, l0_4⟩ : S26) (Kd.V_reads' (Kd.V_mono (ok' := (fun k_ => ((P0_3_ k_ ∨ P0_4_ k_ ∨ P1_ k_) ∨ w.heap.size ≤ k_) ∧ k_ ≠ gb588)) (HO0_3.out) (fun k_ hk => ⟨hk.1, hk.2⟩))).2.1 (Kd.V_F (Kd.V_mono (ok' := (fun k_ => ((P0_3_ k_ ∨ P0_4_ k_ ∨ P1_ k_) ∨ w.heap.size ≤ k_) ∧ k_ ≠ gb588)) (HO0_3.out) (fun k_ hk => ⟨hk.1, hk.2⟩))) (Kd.V_reads' (Kd.V_mono (ok' := (fun k_ => ((P0_3_ k_ ∨ P0_4_ k_ ∨ P1_ k_) ∨ w.heap.size ≤ k_) ∧ k_ ≠ gb588)) (HO0_4.out) (fun k_ hk => ⟨hk.1, hk.2⟩))).2.1 (Kd.V_F (Kd.V_mono (ok' := (fun k_ => ((P0_3_ k_ ∨ P0_4_ k_ ∨ P1_ k_) ∨ w.heap.size ≤ k_) ∧ k_ ≠ gb588)) (HO0_4.out) (fun k_ hk => ⟨hk.1, hk.2⟩))))) (Reps.none _ _))); intro v590 w21 ho22 hb hg_ hnew_; clear hg_ hnew_; (first | rw [← Ny589.out] at ho22 | (simp only [Int.reduceToNat] at ho22; rw [← Ny589.out] at ho22)); replace HO0_3 := ak (Kd.V_elder' (vq_ HO0_3) (Kd.N_base ho22) hb); replace HO0_4 := ak (Kd.V_elder' (vq_ HO0_4) (Kd.N_base ho22) hb); replace HO1 := ak (Kd.V_elder' (vq_ HO1) (Kd.N_base ho22) hb); replace HO591 := ak (Kd.N_lower ho22 (below_size bsw_)); replace BK588 := bb_ BK588 hb; replace HB := ak (below_step bsw_ hb); clear hb ho22; obtain ⟨Ao23, co23, eo23⟩ := Kd.N_slice HO591.out; subst eo23) | ((with_reducible refine gate_callee (f := 14) rfl ?_); refine goesL_ (some 18) rfl rfl Try.func14 (by kernel_rfl) rfl #[.slice Ao23 y589.length co23] rfl mp_ ?_; (with_reducible refine (handshakerlaw15_Small.calls k _ _ y589 t592 _ ?side1 ?side2 A6.out).mono ?_); (case side1 => repeat (first | exact (Kd.N_reads' HO591.out).2.2 | with_reducible first | refine Kd.C_alloc ?_ _ | refine Kd.C_drewN ?_ _ | refine Kd.C_drew ?_)); (case side2 => exact (Kd.N_reads' HO591.out).2.1); rintro e w24 ⟨rfl, hb⟩; refine ⟨_, rfl, ?_⟩; replace HO0_3 := vb_ HO0_3 hb; replace HO0_4 := vb_ HO0_4 hb; replace HO1 := vb_ HO1 hb; replace HO591 := nb_ HO591 hb; replace BK588 := bb_ BK588 hb; replace HB := ak (below_step bsw_ hb); (try clear hb); (try clear hb2); (try clear hk); (try clear hi)))
        go_meet
        case rel => exact ⟨_, (true), (by first | rfl | (simp; done) | (simp [*]; done)), H', ⟨by first | omega | exact Nat.le_refl _⟩, ⟨Kd.V_mono (vq_ HO1) (fun _ hk => ⟨hk.1.1, hk.1.2⟩)⟩, ⟨Kd.V_mono (vq_ HO0_3) (fun _ hk => ⟨hk.1.1, hk.1.2⟩)⟩, ⟨Kd.V_mono (vq_ HO0_4) (fun _ hk => ⟨hk.1.1, hk.1.2⟩)⟩, ⟨bq_ BK588⟩, ⟨bsw_⟩⟩
      · rw [if_neg c19] at H
        have c19b0 : decide (40 < (l2.length : Int)) = false := decide_eq_false c19
        have c19b1 : decide (40 < l2.length) = false := decide_eq_false (by omega)
        clear c19
        have H' := ak H
        clear H
        obtain ⟨hcz25_0, hcz25_1, hcz25_2, hcz25_3, hcz25_4, hfz25_0, hfz25_1, hfz25_2, hfz25_3, hfz25_4⟩ := bz5_ BK588
        go_wp2_with (first | ((with_reducible refine gate_dst (N := 17) rfl ?_); (try (refine gate_guard (by rfl) ?_; dsimp only)); refine Kd.N_lit k26 _ 26 ?hg (N' := 17) ?hd (xs := ([(⟨a0_0, a0_1, a0_2, l0_3, l0_4⟩ : S26)] : List (S26))) (inner := [.int .i64 a0_0, .int .i64 a0_1, .int .i64 a0_2, .slice A0_3 l0_3.length c0_3, .slice A0_4 l0_4.length c0_4]) (ok := (fun k_ => ((P0_3_ k_ ∨ P0_4_ k_ ∨ P1_ k_) ∨ w.heap.size ≤ k_) ∧ k_ ≠ gb588)) (okp := (fun k_ => ((P0_3_ k_ ∨ P0_4_ k_ ∨ P1_ k_) ∨ w.heap.size ≤ k_) ∧ k_ ≠ gb588)) ?hr ?hp (fun _ hk => hk) ((show ∀ k_, w5.heap.size ≤ k_ → (fun k_ => ((P0_3_ k_ ∨ P0_4_ k_ ∨ P1_ k_) ∨ w.heap.size ≤ k_) ∧ k_ ≠ gb588) k_ from fun k_ hk => ⟨(.inr (Nat.le_trans (below_size bsw_) hk)), Kd.freshB (g := gb588) (o := .cells #[.int .i64 a0_0, .int .i64 a0_1, .int .i64 a0_2, .slice A0_3 l0_3.length c0_3, .slice A0_4 l0_4.length c0_4] 26 (0, 0)) (bq_ BK588) k_ hk⟩) _ (Nat.le_refl _)) (Below.refl _ _) (Nat.le_refl _) (by simp) ?_; (case hd => rfl); (case hg => rfl); (case hr => first | (go_simp; done) | (go_simp; rfl)); (case hp => exact (Reps.c5 (show Kd.FK k26 _ _ (⟨a0_0, a0_1, a0_2, l0_3, l0_4⟩ : S26) [.int .i64 a0_0, .int .i64 a0_1, .int .i64 a0_2, .slice A0_3 l0_3.length c0_3, .slice A0_4 l0_4.length c0_4] from (k26_mkF _ _ (⟨a0_0, a0_1, a0_2, l0_3, l0_4⟩ : S26) (Kd.V_reads' (Kd.V_mono (ok' := (fun k_ => ((P0_3_ k_ ∨ P0_4_ k_ ∨ P1_ k_) ∨ w.heap.size ≤ k_) ∧ k_ ≠ gb588)) (HO0_3.out) (fun k_ hk => ⟨hk.1, hk.2⟩))).2.1 (Kd.V_F (Kd.V_mono (ok' := (fun k_ => ((P0_3_ k_ ∨ P0_4_ k_ ∨ P1_ k_) ∨ w.heap.size ≤ k_) ∧ k_ ≠ gb588)) (HO0_3.out) (fun k_ hk => ⟨hk.1, hk.2⟩))) (Kd.V_reads' (Kd.V_mono (ok' := (fun k_ => ((P0_3_ k_ ∨ P0_4_ k_ ∨ P1_ k_) ∨ w.heap.size ≤ k_) ∧ k_ ≠ gb588)) (HO0_4.out) (fun k_ hk => ⟨hk.1, hk.2⟩))).2.1 (Kd.V_F (Kd.V_mono (ok' := (fun k_ => ((P0_3_ k_ ∨ P0_4_ k_ ∨ P1_ k_) ∨ w.heap.size ≤ k_) ∧ k_ ≠ gb588)) (HO0_4.out) (fun k_ hk => ⟨hk.1, hk.2⟩))))) (Reps.none _ _))); intro v590 w26 ho27 hb hg_ hnew_; clear hg_ hnew_; (first | rw [← Ny589.out] at ho27 | (simp only [Int.reduceToNat] at ho27; rw [← Ny589.out] at ho27)); replace HO0_3 := ak (Kd.V_elder' (vq_ HO0_3) (Kd.N_base ho27) hb); replace HO0_4 := ak (Kd.V_elder' (vq_ HO0_4) (Kd.N_base ho27) hb); replace HO1 := ak (Kd.V_elder' (vq_ HO1) (Kd.N_base ho27) hb); replace HO591 := ak (Kd.N_lower ho27 (below_size bsw_)); replace BK588 := bb_ BK588 hb; replace HB := ak (below_step bsw_ hb); clear hb ho27; obtain ⟨Ao28, co28, eo28⟩ := Kd.N_slice HO591.out; subst eo28) | ((with_reducible refine gate_callee (f := 14) rfl ?_); refine goesL_ (some 18) rfl rfl Try.func14 (by kernel_rfl) rfl #[.slice Ao28 y589.length co28] rfl mp_ ?_; (with_reducible refine (handshakerlaw15_Small.calls k _ _ y589 t592 _ ?side1 ?side2 A6.out).mono ?_); (case side1 => repeat (first | exact (Kd.N_reads' HO591.out).2.2 | with_reducible first | refine Kd.C_alloc ?_ _ | refine Kd.C_drewN ?_ _ | refine Kd.C_drew ?_)); (case side2 => exact (Kd.N_reads' HO591.out).2.1); rintro e w29 ⟨rfl, hb⟩; refine ⟨_, rfl, ?_⟩; replace HO0_3 := vb_ HO0_3 hb; replace HO0_4 := vb_ HO0_4 hb; replace HO1 := vb_ HO1 hb; replace HO591 := nb_ HO591 hb; replace BK588 := bb_ BK588 hb; replace HB := ak (below_step bsw_ hb); (try clear hb); (try clear hb2); (try clear hk); (try clear hi); obtain ⟨hcz30_0, hcz30_1, hcz30_2, hcz30_3, hcz30_4, hfz30_0, hfz30_1, hfz30_2, hfz30_3, hfz30_4⟩ := bz5_ BK588))
        go_meet
        case rel => exact ⟨_, ((a0_1 == 1)), (by first | rfl | (simp; done) | (simp [*]; done)), H', ⟨by first | omega | exact Nat.le_refl _⟩, ⟨Kd.V_mono (vq_ HO1) (fun _ hk => ⟨hk.1.1, hk.1.2⟩)⟩, ⟨Kd.V_mono (vq_ HO0_3) (fun _ hk => ⟨hk.1.1, hk.1.2⟩)⟩, ⟨Kd.V_mono (vq_ HO0_4) (fun _ hk => ⟨hk.1.1, hk.1.2⟩)⟩, ⟨bq_ BK588⟩, ⟨bsw_⟩⟩
 case rest =>
  clear HC4
  try clear c1
  try clear c2
  try clear p2
  try clear c5
  try clear c7
  try clear c7b0
  try clear c12
  try clear c13
  try clear c13b0
  try clear c13b1
  try clear c14
  try clear c19
  try clear c19b0
  try clear c19b1
  try clear hcz14_0
  try clear hcz14_1
  try clear hcz14_2
  try clear hcz14_3
  try clear hcz14_4
  try clear hcz20_0
  try clear hcz20_1
  try clear hcz20_2
  try clear hcz20_3
  try clear hcz20_4
  try clear hcz25_0
  try clear hcz25_1
  try clear hcz25_2
  try clear hcz25_3
  try clear hcz25_4
  try clear hcz30_0
  try clear hcz30_1
  try clear hcz30_2
  try clear hcz30_3
  try clear hcz30_4
  try clear hcz8_0
  try clear hcz8_1
  try clear hcz8_2
  try clear hcz8_3
  try clear hcz8_4
  try clear hfz14_0
  try clear hfz14_1
  try clear hfz14_2
  try clear hfz14_3
  try clear hfz14_4
  try clear hfz20_0
  try clear hfz20_1
  try clear hfz20_2
  try clear hfz20_3
  try clear hfz20_4
  try clear hfz25_0
  try clear hfz25_1
  try clear hfz25_2
  try clear hfz25_3
  try clear hfz25_4
  try clear hfz30_0
  try clear hfz30_1
  try clear hfz30_2
  try clear hfz30_3
  try clear hfz30_4
  try clear hfz8_0
  try clear hfz8_1
  try clear hfz8_2
  try clear hfz8_3
  try clear hfz8_4
  obtain ⟨kq, x34_3, rfl, HA, HJ3, HO_1, HO_589003, HO_589004, BK588, HB⟩ := hcut
  cases kq with
  | zero => exact absurd HA.out (by simp [handshakerlaw16_FilterLasts.j0])
  | succ kj3 =>
   have H := HA.out
   clear HA
   simp only [handshakerlaw16_FilterLasts.j0] at H
   by_cases c31 : x34_3 = true
   · subst c31
     rw [if_pos rfl] at H
     obtain ⟨t593, A32, H⟩ := bd_ H
     obtain rfl := Option.some.inj H
     go_wp2_with (first | ((with_reducible refine gate_callee (f := 35) rfl ?_); refine goesL_ (some 35) rfl rfl Try.func35 (by kernel_rfl) rfl #[] rfl mp_ ?_; (with_reducible refine (handshakerlaw16_awake.calls kj3  t593 _ A32.out).mono ?_); rintro e w33 ⟨rfl, hb⟩; refine ⟨_, rfl, ?_⟩; replace HO_1 := vb_ HO_1 hb; replace HO_589003 := vb_ HO_589003 hb; replace HO_589004 := vb_ HO_589004 hb; replace BK588 := bb_ BK588 hb; replace HB := ak (below_step bsw_ hb); (try clear hb); (try clear hb2); (try clear hk); (try clear hi)))
     go_ret
     exact ⟨by first | rfl | (simp [errW_none, errW_some] <;> rfl) | (simp [*, errW_none, errW_some] <;> rfl), bsw_⟩
   · replace c31 := Bool.eq_false_iff.mpr c31
     subst c31
     rw [if_neg (show ¬ (false = true) by decide)] at H
     replace H := Option.bind_eq_some_iff.mp H
     obtain ⟨⟨t594, t597⟩, A340, H⟩ := H
     have A34 := ak A340
     clear A340
     by_cases c35 : t597 = 0
     · rw [if_pos c35] at H
       have c35b0 : (t597 == 0) = true := beq_iff_eq.mpr c35
       have c35b1 : (t597 != 0) = false := bne_eq_false_iff_eq.mpr c35
       clear c35
       obtain ⟨t599, A36, H⟩ := bd_ H
       by_cases c37 : t599 = true
       · subst c37
         rw [if_pos rfl] at H
         exact absurd (Option.some.inj H) (by rw [HT.out]; decide)
       · replace c37 := Bool.eq_false_iff.mpr c37
         subst c37
         rw [if_neg (show ¬ (false = true) by decide)] at H
         have H' := ak H
         clear H
         obtain ⟨hcz38_0, hcz38_1, hcz38_2, hcz38_3, hcz38_4, hfz38_0, hfz38_1, hfz38_2, hfz38_3, hfz38_4⟩ := bz5_ BK588
         go_wp2_with (first | ((with_reducible refine gate_callee (f := 38) rfl ?_); refine goesL_ (some 39) rfl rfl Try.func38 (by kernel_rfl) rfl #[.slice none 0 0, .agg #[.int .i64 a0_0, .int .i64 a0_1, .int .i64 a0_2, .slice A0_3 l0_3.length c0_3, .slice A0_4 l0_4.length c0_4], .slice A1 l1.length c1] rfl mp_ ?_; (refine (filter_Lie.calls kj3 (fun k_ => False) _ _ ([] : List (S26)) a0_0 a0_1 a0_2 (fun k_ => (((P0_3_ k_ ∨ P0_4_ k_ ∨ P1_ k_) ∨ w.heap.size ≤ k_) ∧ k_ ≠ gb588)) _ _ l0_3 (fun k_ => (((P0_3_ k_ ∨ P0_4_ k_ ∨ P1_ k_) ∨ w.heap.size ≤ k_) ∧ k_ ≠ gb588)) _ _ l0_4 _ _ l1 t594 t597 _ ?side1 ?side2 ?side3 ?side4 ?side5 A34.out).mono ?_); (case side1 => exact Kd.V_nil _ _ _ _ _); (case side2 => exact HO_589003.out); (case side3 => exact HO_589004.out); (case side4 => exact vc_ HO_1); (case side5 => exact vl_ HO_1); rintro e w39 ⟨v595, rfl, ho0, hb⟩; refine ⟨_, rfl, ?_⟩; replace HO_1 := vb_ HO_1 hb; replace HO_589003 := vb_ HO_589003 hb; replace HO_589004 := vb_ HO_589004 hb; replace HO596 := ak (Kd.V_lower (Kd.V_mono (ok' := fun k_ => ((P0_3_ k_ ∨ P0_4_ k_ ∨ P1_ k_) ∨ w.heap.size ≤ k_) ∧ k_ ≠ gb588) ho0 (fun k_ hk_ => ⟨Or.elim hk_ (fun hs_ => Or.elim hs_ (fun hs_ => (hs_).elim) (fun hs_ => Or.elim hs_ (fun hs_ => hs_.1) (fun hs_ => hs_.1))) (fun hn_ => (.inr (Nat.le_trans (below_size bsw_) hn_))), Or.elim hk_ (fun hs_ => Or.elim hs_ (fun hs_ => (hs_).elim) (fun hs_ => Or.elim hs_ (fun hs_ => hs_.2) (fun hs_ => hs_.2))) (fun hn_ => (Kd.freshB (g := gb588) (o := .cells #[.int .i64 a0_0, .int .i64 a0_1, .int .i64 a0_2, .slice A0_3 l0_3.length c0_3, .slice A0_4 l0_4.length c0_4] 26 (0, 0)) (bq_ BK588) k_ hn_))⟩)) (below_size bsw_)); replace BK588 := bb_ BK588 hb; replace HB := ak (below_step bsw_ hb); (try clear hb); (try clear hb2); (try clear hk); (try clear hi); (try clear ho0); obtain ⟨hcz40_0, hcz40_1, hcz40_2, hcz40_3, hcz40_4, hfz40_0, hfz40_1, hfz40_2, hfz40_3, hfz40_4⟩ := bz5_ BK588) | ((with_reducible refine gate_callee (f := 37) rfl ?_); refine goesL_ (some 52) rfl rfl Try.func37 (by kernel_rfl) rfl #[.agg #[.int .i64 a0_0, .int .i64 a0_1, .int .i64 a0_2, .slice A0_3 l0_3.length c0_3, .slice A0_4 l0_4.length c0_4], .slice A1 l1.length c1] rfl mp_ ?_; (with_reducible refine (filter_May.calls kj3 a0_0 a0_1 a0_2 (fun k_ => (((P0_3_ k_ ∨ P0_4_ k_ ∨ P1_ k_) ∨ w.heap.size ≤ k_) ∧ k_ ≠ gb588)) _ _ l0_3 (fun k_ => (((P0_3_ k_ ∨ P0_4_ k_ ∨ P1_ k_) ∨ w.heap.size ≤ k_) ∧ k_ ≠ gb588)) _ _ l0_4 _ _ l1 false _ ?side1 ?side2 ?side3 ?side4 A36.out).mono ?_); (case side1 => exact HO_589003.out); (case side2 => exact HO_589004.out); (case side3 => exact vc_ HO_1); (case side4 => exact vl_ HO_1); rintro e w41 ⟨rfl, hb⟩; refine ⟨_, rfl, ?_⟩; replace HO_1 := vb_ HO_1 hb; replace HO_589003 := vb_ HO_589003 hb; replace HO_589004 := vb_ HO_589004 hb; replace HO596 := vb_ HO596 hb; replace BK588 := bb_ BK588 hb; replace HB := ak (below_step bsw_ hb); (try clear hb); (try clear hb2); (try clear hk); (try clear hi)))
         go_loopg [7, 9, 56] kj3 (fun kq v7 v9 v56 w' => ∃ (x7_2 : List (S26)) (x9_2 : List (S98)) (x56_2 : Int), v56 = .int .i64 x56_2 ∧ Aside0 (handshakerlaw16_FilterLasts.l0 kq x7_2 x9_2 l2 (l2.length : Int) x56_2 a0_0 a0_1 a0_2 l0_3 l0_4 = some r) ∧ Aside0 (kq ≤ kj3) ∧ Aside0 (Kd.V k26 26 w' w.heap.size (fun k_ => ((P0_3_ k_ ∨ P0_4_ k_ ∨ P1_ k_) ∨ w.heap.size ≤ k_) ∧ k_ ≠ gb588) v7 x7_2) ∧ Aside0 (Kd.V k98 98 w' w.heap.size (fun k_ => ((P0_3_ k_ ∨ P0_4_ k_ ∨ P1_ k_) ∨ w.heap.size ≤ k_) ∧ k_ ≠ gb588) v9 x9_2) ∧ Aside0 (Kd.V k62 62 w' w.heap.size (fun k_ => ((P0_3_ k_ ∨ P0_4_ k_ ∨ P1_ k_) ∨ w.heap.size ≤ k_) ∧ k_ ≠ gb588) (.slice A0_3 l0_3.length c0_3) l0_3) ∧ Aside0 (Kd.V k80 80 w' w.heap.size (fun k_ => ((P0_3_ k_ ∨ P0_4_ k_ ∨ P1_ k_) ∨ w.heap.size ≤ k_) ∧ k_ ≠ gb588) (.slice A0_4 l0_4.length c0_4) l0_4) ∧ Aside0 (w'.heap[gb588]? = some (.cells #[.int .i64 a0_0, .int .i64 a0_1, .int .i64 a0_2, (.slice A0_3 l0_3.length c0_3), (.slice A0_4 l0_4.length c0_4)] 26 (0, 0))) ∧ Aside0 (Below w.heap.size w w'))
         case atStart => exact ⟨(t594), (l1), (0), (by first | rfl | (simp; done) | (simp [*]; done)), H', ⟨Nat.le_refl _⟩, ⟨vq_ HO596⟩, ⟨vq_ HO_1⟩, ⟨vq_ HO_589003⟩, ⟨vq_ HO_589004⟩, ⟨bq_ BK588⟩, ⟨bsw_⟩⟩
         case round =>
          clear H'
          try clear c1
          try clear c2
          try clear p2
          try clear c3
          try clear c5
          try clear c7
          try clear c7b0
          try clear c12
          try clear c13
          try clear c13b0
          try clear c13b1
          try clear c14
          try clear c19
          try clear c19b0
          try clear c19b1
          try clear c31
          try clear c35
          try clear c35b0
          try clear c35b1
          try clear c37
          try clear c38
          try clear hcz14_0
          try clear hcz14_1
          try clear hcz14_2
          try clear hcz14_3
          try clear hcz14_4
          try clear hcz20_0
          try clear hcz20_1
          try clear hcz20_2
          try clear hcz20_3
          try clear hcz20_4
          try clear hcz25_0
          try clear hcz25_1
          try clear hcz25_2
          try clear hcz25_3
          try clear hcz25_4
          try clear hcz30_0
          try clear hcz30_1
          try clear hcz30_2
          try clear hcz30_3
          try clear hcz30_4
          try clear hcz38_0
          try clear hcz38_1
          try clear hcz38_2
          try clear hcz38_3
          try clear hcz38_4
          try clear hcz40_0
          try clear hcz40_1
          try clear hcz40_2
          try clear hcz40_3
          try clear hcz40_4
          try clear hcz8_0
          try clear hcz8_1
          try clear hcz8_2
          try clear hcz8_3
          try clear hcz8_4
          try clear hfz14_0
          try clear hfz14_1
          try clear hfz14_2
          try clear hfz14_3
          try clear hfz14_4
          try clear hfz20_0
          try clear hfz20_1
          try clear hfz20_2
          try clear hfz20_3
          try clear hfz20_4
          try clear hfz25_0
          try clear hfz25_1
          try clear hfz25_2
          try clear hfz25_3
          try clear hfz25_4
          try clear hfz30_0
          try clear hfz30_1
          try clear hfz30_2
          try clear hfz30_3
          try clear hfz30_4
          try clear hfz38_0
          try clear hfz38_1
          try clear hfz38_2
          try clear hfz38_3
          try clear hfz38_4
          try clear hfz40_0
          try clear hfz40_1
          try clear hfz40_2
          try clear hfz40_3
          try clear hfz40_4
          try clear hfz8_0
          try clear hfz8_1
          try clear hfz8_2
          try clear hfz8_3
          try clear hfz8_4
          try clear p2
          obtain ⟨x7_2, x9_2, x56_2, rfl, HA, HK2, HO_7, HO_9, HO_589003, HO_589004, BK588, HB⟩ := hrel
          cases gk with
          | zero => exact absurd HA.out (by simp [handshakerlaw16_FilterLasts.l0])
          | succ k2 =>
           have H := HA.out
           clear HA
           simp only [handshakerlaw16_FilterLasts.l0] at H
           by_cases c42 : x56_2 < (l2.length : Int)
           · rw [if_pos c42] at H
             have c42b0 : decide (x56_2 < (l2.length : Int)) = true := decide_eq_true c42
             clear c42
             by_cases c43 : 0 ≤ x56_2
             · rw [if_pos c43] at H
               have c43b0 : decide (0 ≤ x56_2) = true := decide_eq_true c43
               clear c43
               by_cases c44 : x56_2 < (l2.length : Int)
               · rw [if_pos c44] at H
                 have c44b0 : decide (x56_2 < (l2.length : Int)) = true := decide_eq_true c44
                 clear c44
                 obtain ⟨y603, hy603⟩ : ∃ y_ : List (S62), y_ = (([(⟨(rd_T62 l2 x56_2).f0, (rd_T62 l2 x56_2).f1⟩ : S62)] : List (S62))) := ⟨_, rfl⟩
                 replace H : ((heap_Put.f k2 x9_2 y603).bind fun bt606 => (if bt606.2 = 0 then ((filter_Wake.f k2 x7_2 bt606.1 (([(⟨(rd_T62 l2 x56_2).f0, (rd_T62 l2 x56_2).f1⟩ : S62)] : List (S62)))).bind fun bt613 => ((filter_May.f k2 a0_0 a0_1 a0_2 l0_3 l0_4 bt606.1).bind fun t619 => (if t619 = true then (if (bt613.2.length : Int) = 1 then (handshakerlaw16_FilterLasts.j2 k2 bt606.1 bt613.1 bt613.2 l2 (l2.length : Int) x56_2 ((wrap64 ((bt613.1.length : Int) + (bt613.2.length : Int))) != 1) a0_0 a0_1 a0_2 l0_3 l0_4) else (handshakerlaw16_FilterLasts.j2 k2 bt606.1 bt613.1 bt613.2 l2 (l2.length : Int) x56_2 true a0_0 a0_1 a0_2 l0_3 l0_4)) else (if (bt613.2.length : Int) = 1 then (handshakerlaw16_FilterLasts.j2 k2 bt606.1 bt613.1 bt613.2 l2 (l2.length : Int) x56_2 true a0_0 a0_1 a0_2 l0_3 l0_4) else (handshakerlaw16_FilterLasts.j2 k2 bt606.1 bt613.1 bt613.2 l2 (l2.length : Int) x56_2 ((wrap64 ((bt613.1.length : Int) + (bt613.2.length : Int))) != 1) a0_0 a0_1 a0_2 l0_3 l0_4))))) else (handshakerlaw16_FilterLasts.l0 k2 x7_2 x9_2 l2 (l2.length : Int) (wrap64 (x56_2 + 1)) a0_0 a0_1 a0_2 l0_3 l0_4))) = some r := by first | (rw [hy603]; with_reducible exact H) | (have H2_ := (Option.bind_some _ _).symm.trans H; rw [hy603]; with_reducible exact H2_) | (have H2_ := (Option.bind_some _ _).symm.trans H; with_reducible exact H2_) | with_reducible exact H | (rw [hy603]; exact H) | exact H
                 have Ny603 := ak hy603
                 clear hy603
                 replace H := Option.bind_eq_some_iff.mp H
                 obtain ⟨⟨t606, t609⟩, A450, H⟩ := H
                 have A45 := ak A450
                 clear A450
                 by_cases c46 : t609 = 0
                 · rw [if_pos c46] at H
                   have c46b0 : (t609 == 0) = true := beq_iff_eq.mpr c46
                   have c46b1 : (t609 != 0) = false := bne_eq_false_iff_eq.mpr c46
                   clear c46
                   obtain ⟨y610, hy610⟩ : ∃ y_ : List (S62), y_ = (([(⟨(rd_T62 l2 x56_2).f0, (rd_T62 l2 x56_2).f1⟩ : S62)] : List (S62))) := ⟨_, rfl⟩
                   replace H : ((filter_Wake.f k2 x7_2 t606 y610).bind fun bt613 => ((filter_May.f k2 a0_0 a0_1 a0_2 l0_3 l0_4 t606).bind fun t619 => (if t619 = true then (if (bt613.2.length : Int) = 1 then (handshakerlaw16_FilterLasts.j2 k2 t606 bt613.1 bt613.2 l2 (l2.length : Int) x56_2 ((wrap64 ((bt613.1.length : Int) + (bt613.2.length : Int))) != 1) a0_0 a0_1 a0_2 l0_3 l0_4) else (handshakerlaw16_FilterLasts.j2 k2 t606 bt613.1 bt613.2 l2 (l2.length : Int) x56_2 true a0_0 a0_1 a0_2 l0_3 l0_4)) else (if (bt613.2.length : Int) = 1 then (handshakerlaw16_FilterLasts.j2 k2 t606 bt613.1 bt613.2 l2 (l2.length : Int) x56_2 true a0_0 a0_1 a0_2 l0_3 l0_4) else (handshakerlaw16_FilterLasts.j2 k2 t606 bt613.1 bt613.2 l2 (l2.length : Int) x56_2 ((wrap64 ((bt613.1.length : Int) + (bt613.2.length : Int))) != 1) a0_0 a0_1 a0_2 l0_3 l0_4))))) = some r := by first | (rw [hy610]; with_reducible exact H) | (have H2_ := (Option.bind_some _ _).symm.trans H; rw [hy610]; with_reducible exact H2_) | (have H2_ := (Option.bind_some _ _).symm.trans H; with_reducible exact H2_) | with_reducible exact H | (rw [hy610]; exact H) | exact H
                   have Ny610 := ak hy610
                   clear hy610
                   replace H := Option.bind_eq_some_iff.mp H
                   obtain ⟨⟨t613, t616⟩, A470, H⟩ := H
                   have A47 := ak A470
                   clear A470
                   have HC48 := ak H
                   clear H
                   have p601 : 0 ≤ (x56_2 : Int) := oda_
                   have q601 : x56_2 < (l2.length : Int) := oda_
                   obtain ⟨ad601, e601, hx601_0, hx601_1⟩ := at_T62 HR2.out x56_2 p601 q601
                   cases e601
                   replace hx601_0 := bl_ HB hx601_0
                   replace hx601_1 := bl_ HB hx601_1
                   replace p601 := eq_true p601
                   replace q601 := eq_true q601
                   go_upto_region 15 with (first | ((with_reducible refine gate_dst (N := 11) rfl ?_); (try (refine gate_guard (by rfl) ?_; dsimp only)); refine box_event ?hg (N := 11) ?hd (cs := #[.int .i64 0, .int .i64 0]) (t := 62) ?hr ?_; (case hd => rfl); (case hg => rfl); (case hr => first | (go_simp; done) | (go_simp; rfl)); intro gb602 hg w49 hbox hb; replace HO_7 := ak (Kd.V_below (Kd.V_elderB (vq_ HO_7) gb602 (Nat.le_of_eq hg.symm)) hb); replace HO_9 := ak (Kd.V_below (Kd.V_elderB (vq_ HO_9) gb602 (Nat.le_of_eq hg.symm)) hb); replace HO_589003 := ak (Kd.V_below (Kd.V_elderB (vq_ HO_589003) gb602 (Nat.le_of_eq hg.symm)) hb); replace HO_589004 := ak (Kd.V_below (Kd.V_elderB (vq_ HO_589004) gb602 (Nat.le_of_eq hg.symm)) hb); replace BK602 := ak (hbox); replace GW602 := ak ((by rw [hg]; exact (below_size bsw_) : w.heap.size ≤ gb602)); replace HB := ak (below_step bsw_ hb); replace GE602 := GW602; replace NB588_602 := ak ((by rw [hg]; exact Nat.ne_of_lt (blk_lt (g := gb588) (o := .cells #[.int .i64 a0_0, .int .i64 a0_1, .int .i64 a0_2, .slice A0_3 l0_3.length c0_3, .slice A0_4 l0_4.length c0_4] 26 (0, 0)) (bq_ BK588)) : gb588 ≠ gb602)); replace NB602_588 := ak ((by rw [hg]; exact Nat.ne_of_gt (blk_lt (g := gb588) (o := .cells #[.int .i64 a0_0, .int .i64 a0_1, .int .i64 a0_2, .slice A0_3 l0_3.length c0_3, .slice A0_4 l0_4.length c0_4] 26 (0, 0)) (bq_ BK588)) : gb602 ≠ gb588)); replace BK588 := bb_ BK588 hb; clear hb hbox hg; have hnb50 := NB602_588.out; have hnc50 := NB588_602.out; obtain ⟨hcz51_0, hcz51_1, hfz51_0, hfz51_1⟩ := bz2_ BK602) | ((with_reducible refine gate_dst (N := 63) rfl ?_); (try (refine gate_guard (by rfl) ?_; dsimp only)); refine Kd.R_lit k62 _ 62 ?hg (N := 63) ?hd (xs := ([(⟨(rd_T62 l2 x56_2).f0, (rd_T62 l2 x56_2).f1⟩ : S62)] : List (S62))) (inner := [.int .i64 ((rd_T62 l2 x56_2).f0), .int .i64 ((rd_T62 l2 x56_2).f1)]) (ok := fun _ => True) (okp := fun _ => True) ?hr ?hp (fun _ hk => hk) trivial (Below.refl _ _) (Nat.le_refl _) (by simp) ?_; (case hd => rfl); (case hg => rfl); (case hr => first | (go_simp; done) | (go_simp; rfl)); (case hp => exact (Reps.c2 (show Kd.M k62 _ _ _ (⟨(rd_T62 l2 x56_2).f0, (rd_T62 l2 x56_2).f1⟩ : S62) [.int .i64 ((rd_T62 l2 x56_2).f0), .int .i64 ((rd_T62 l2 x56_2).f1)] from (k62_mkM _ _ _ (⟨(rd_T62 l2 x56_2).f0, (rd_T62 l2 x56_2).f1⟩ : S62) )) (Reps.none _ _))); intro v604 w52 ho53 hb hg_ hnew_; clear hg_ hnew_; (first | rw [← Ny603.out] at ho53 | (simp only [Int.reduceToNat] at ho53; rw [← Ny603.out] at ho53)); replace HO_7 := ak (Kd.V_elder' (by (with_reducible repeat (first | apply Kd.V_alloc | apply Kd.V_drewN | apply Kd.V_drew)); exact (Kd.V_mono (Kd.V_far (p := ⟨gb602, 1, none⟩) (Kd.V_far (p := ⟨gb602, 0, none⟩) (Kd.V_mono HO_7.out (fun k_ hk => (⟨hk, hk.2⟩ : _ ∧ k_ ≠ gb602))) (fun _ hk => hk.2) (.int .i64 ((rd_T62 l2 x56_2).f0))) (fun _ hk => hk.2) (.int .i64 ((rd_T62 l2 x56_2).f1))) (fun _ h_ => h_.1))) (Kd.R_base ho53) hb); replace HO_9 := ak (Kd.V_elder' (by (with_reducible repeat (first | apply Kd.V_alloc | apply Kd.V_drewN | apply Kd.V_drew)); exact (Kd.V_mono (Kd.V_far (p := ⟨gb602, 1, none⟩) (Kd.V_far (p := ⟨gb602, 0, none⟩) (Kd.V_mono HO_9.out (fun k_ hk => (⟨hk, hk.2⟩ : _ ∧ k_ ≠ gb602))) (fun _ hk => hk.2) (.int .i64 ((rd_T62 l2 x56_2).f0))) (fun _ hk => hk.2) (.int .i64 ((rd_T62 l2 x56_2).f1))) (fun _ h_ => h_.1))) (Kd.R_base ho53) hb); replace HO_589003 := ak (Kd.V_elder' (by (with_reducible repeat (first | apply Kd.V_alloc | apply Kd.V_drewN | apply Kd.V_drew)); exact (Kd.V_mono (Kd.V_far (p := ⟨gb602, 1, none⟩) (Kd.V_far (p := ⟨gb602, 0, none⟩) (Kd.V_mono HO_589003.out (fun k_ hk => (⟨hk, hk.2⟩ : _ ∧ k_ ≠ gb602))) (fun _ hk => hk.2) (.int .i64 ((rd_T62 l2 x56_2).f0))) (fun _ hk => hk.2) (.int .i64 ((rd_T62 l2 x56_2).f1))) (fun _ h_ => h_.1))) (Kd.R_base ho53) hb); replace HO_589004 := ak (Kd.V_elder' (by (with_reducible repeat (first | apply Kd.V_alloc | apply Kd.V_drewN | apply Kd.V_drew)); exact (Kd.V_mono (Kd.V_far (p := ⟨gb602, 1, none⟩) (Kd.V_far (p := ⟨gb602, 0, none⟩) (Kd.V_mono HO_589004.out (fun k_ hk => (⟨hk, hk.2⟩ : _ ∧ k_ ≠ gb602))) (fun _ hk => hk.2) (.int .i64 ((rd_T62 l2 x56_2).f0))) (fun _ hk => hk.2) (.int .i64 ((rd_T62 l2 x56_2).f1))) (fun _ h_ => h_.1))) (Kd.R_base ho53) hb); replace HO605 := ak (Kd.R_lower (Kd.R_newB (Kd.R_newM (M := fun k_ => (w.heap.size ≤ k_)) ho53 (below_size (by repeat (first | (with_reducible first | exact HB.out | apply below_alloc | apply pw_below_drewN | apply below_drew1 | refine below_set ?_ GE588.out | refine below_set ?_ GE602.out) | exact HB.out))) (fun k_ h_ => h_)) (g := gb602) (o := .cells #[.int .i64 ((rd_T62 l2 x56_2).f0), .int .i64 ((rd_T62 l2 x56_2).f1)] 62 (0, 0)) (by (with_reducible repeat (first | refine blk_drewN ?_ _ | refine blk_drew ?_ | refine blk_alloc ?_ _)); refine blk_put (cs := #[.int .i64 ((rd_T62 l2 x56_2).f0), .int .i64 0]) ?_ 1 _ rfl; (with_reducible repeat (first | refine blk_drewN ?_ _ | refine blk_drew ?_ | refine blk_alloc ?_ _)); refine blk_put (cs := #[.int .i64 0, .int .i64 0]) ?_ 0 _ rfl; (with_reducible repeat (first | refine blk_drewN ?_ _ | refine blk_drew ?_ | refine blk_alloc ?_ _)); exact BK602.out)) (below_size (by repeat (first | (with_reducible first | exact HB.out | apply below_alloc | apply pw_below_drewN | apply below_drew1 | refine below_set ?_ GE588.out | refine below_set ?_ GE602.out) | exact HB.out)))); replace BK588 := ak (blk_below (g := gb588) (o := .cells #[.int .i64 a0_0, .int .i64 a0_1, .int .i64 a0_2, .slice A0_3 l0_3.length c0_3, .slice A0_4 l0_4.length c0_4] 26 (0, 0)) (by (with_reducible repeat (first | refine blk_drewN ?_ _ | refine blk_drew ?_ | refine blk_alloc ?_ _)); refine blk_far ?_ NB588_602.out _; (with_reducible repeat (first | refine blk_drewN ?_ _ | refine blk_drew ?_ | refine blk_alloc ?_ _)); refine blk_far ?_ NB588_602.out _; (with_reducible repeat (first | refine blk_drewN ?_ _ | refine blk_drew ?_ | refine blk_alloc ?_ _)); exact BK588.out) hb); replace BK602 := ak (blk_below (g := gb602) (o := .cells #[.int .i64 ((rd_T62 l2 x56_2).f0), .int .i64 ((rd_T62 l2 x56_2).f1)] 62 (0, 0)) (by (with_reducible repeat (first | refine blk_drewN ?_ _ | refine blk_drew ?_ | refine blk_alloc ?_ _)); refine blk_put (cs := #[.int .i64 ((rd_T62 l2 x56_2).f0), .int .i64 0]) ?_ 1 _ rfl; (with_reducible repeat (first | refine blk_drewN ?_ _ | refine blk_drew ?_ | refine blk_alloc ?_ _)); refine blk_put (cs := #[.int .i64 0, .int .i64 0]) ?_ 0 _ rfl; (with_reducible repeat (first | refine blk_drewN ?_ _ | refine blk_drew ?_ | refine blk_alloc ?_ _)); exact BK602.out) hb); replace HB := ak (below_step (by repeat (first | (with_reducible first | exact HB.out | apply below_alloc | apply pw_below_drewN | apply below_drew1 | refine below_set ?_ GE588.out | refine below_set ?_ GE602.out) | exact HB.out)) hb); clear hb ho53; obtain ⟨Ao54, co54, eo54⟩ := Kd.V_slice HO_9.out; subst eo54; obtain ⟨Ao55, co55, eo55⟩ := Kd.R_slice HO605.out; subst eo55) | ((with_reducible refine gate_callee (f := 39) rfl ?_); refine goesL_ (some 64) rfl rfl Try.func39 (by kernel_rfl) rfl #[.slice Ao54 x9_2.length co54, .slice Ao55 y603.length co55] rfl mp_ ?_; (with_reducible refine (heap_Put.calls k2 (fun k_ => (((((P0_3_ k_ ∨ P0_4_ k_ ∨ P1_ k_) ∨ w.heap.size ≤ k_) ∧ k_ ≠ gb588) ∧ k_ ≠ gb602) ∧ some k_ ≠ (.slice Ao55 y603.length co55 : Value).ownBlock)) _ _ x9_2 _ _ y603 t606 t609 _ ?side1 ?side2 ?side3 A45.out).mono ?_); (case side1 => exact HO_9.out); (case side2 => repeat (first | exact (Kd.R_reads' HO605.out).2.2 | with_reducible first | refine Kd.C_alloc ?_ _ | refine Kd.C_drewN ?_ _ | refine Kd.C_drew ?_)); (case side3 => exact (Kd.R_reads' HO605.out).2.1); rintro e w56 ⟨v607, rfl, ho0, hb⟩; refine ⟨_, rfl, ?_⟩; replace HO_7 := vb_ HO_7 hb; replace HO_9 := vb_ HO_9 hb; replace HO_589003 := vb_ HO_589003 hb; replace HO_589004 := vb_ HO_589004 hb; replace HO608 := ak (Kd.V_lower (Kd.V_mono (ok' := fun k_ => ((P0_3_ k_ ∨ P0_4_ k_ ∨ P1_ k_) ∨ w.heap.size ≤ k_) ∧ some k_ ≠ (.slice Ao55 y603.length co55 : Value).ownBlock ∧ k_ ≠ gb588 ∧ k_ ≠ gb602) ho0 (fun k_ hk_ => ⟨Or.elim hk_ (fun hs_ => hs_.1.1.1) (fun hn_ => (.inr (Nat.le_trans (below_size (by repeat (first | (with_reducible first | exact HB.out | apply below_alloc | apply pw_below_drewN | apply below_drew1 | refine below_set ?_ GE588.out | refine below_set ?_ GE602.out) | exact HB.out))) hn_))), Or.elim hk_ (fun hs_ => hs_.2) (fun hn_ => (Kd.fresh' (Kd.R_lt (rq_ HO605)) k_ hn_)), Or.elim hk_ (fun hs_ => hs_.1.1.2) (fun hn_ => (Kd.freshB (g := gb588) (o := .cells #[.int .i64 a0_0, .int .i64 a0_1, .int .i64 a0_2, .slice A0_3 l0_3.length c0_3, .slice A0_4 l0_4.length c0_4] 26 (0, 0)) (bq_ BK588) k_ hn_)), Or.elim hk_ (fun hs_ => hs_.1.2) (fun hn_ => (Kd.freshB (g := gb602) (o := .cells #[.int .i64 ((rd_T62 l2 x56_2).f0), .int .i64 ((rd_T62 l2 x56_2).f1)] 62 (0, 0)) (bq_ BK602) k_ hn_))⟩)) (below_size (by repeat (first | (with_reducible first | exact HB.out | apply below_alloc | apply pw_below_drewN | apply below_drew1 | refine below_set ?_ GE588.out | refine below_set ?_ GE602.out) | exact HB.out)))); replace HO605 := rb_ HO605 hb; replace BK588 := bb_ BK588 hb; replace BK602 := bb_ BK602 hb; replace HB := ak (below_step (by repeat (first | (with_reducible first | exact HB.out | apply below_alloc | apply pw_below_drewN | apply below_drew1 | refine below_set ?_ GE588.out | refine below_set ?_ GE602.out) | exact HB.out)) hb); (try clear hb); (try clear hb2); (try clear hk); (try clear hi); (try clear ho0); obtain ⟨hcz57_0, hcz57_1, hfz57_0, hfz57_1⟩ := bz2_ BK602) | ((with_reducible refine gate_dst (N := 73) rfl ?_); (try (refine gate_guard (by rfl) ?_; dsimp only)); refine Kd.R_lit k62 _ 62 ?hg (N := 73) ?hd (xs := ([(⟨(rd_T62 l2 x56_2).f0, (rd_T62 l2 x56_2).f1⟩ : S62)] : List (S62))) (inner := [.int .i64 ((rd_T62 l2 x56_2).f0), .int .i64 ((rd_T62 l2 x56_2).f1)]) (ok := fun _ => True) (okp := fun _ => True) ?hr ?hp (fun _ hk => hk) trivial (Below.refl _ _) (Nat.le_refl _) (by simp) ?_; (case hd => rfl); (case hg => rfl); (case hr => first | (go_simp; done) | (go_simp; rfl)); (case hp => exact (Reps.c2 (show Kd.M k62 _ _ _ (⟨(rd_T62 l2 x56_2).f0, (rd_T62 l2 x56_2).f1⟩ : S62) [.int .i64 ((rd_T62 l2 x56_2).f0), .int .i64 ((rd_T62 l2 x56_2).f1)] from (k62_mkM _ _ _ (⟨(rd_T62 l2 x56_2).f0, (rd_T62 l2 x56_2).f1⟩ : S62) )) (Reps.none _ _))); intro v611 w58 ho59 hb hg_ hnew_; clear hg_ hnew_; (first | rw [← Ny610.out] at ho59 | (simp only [Int.reduceToNat] at ho59; rw [← Ny610.out] at ho59)); replace HO_7 := ak (Kd.V_elder' (vq_ HO_7) (Kd.R_base ho59) hb); replace HO_9 := ak (Kd.V_elder' (vq_ HO_9) (Kd.R_base ho59) hb); replace HO_589003 := ak (Kd.V_elder' (vq_ HO_589003) (Kd.R_base ho59) hb); replace HO_589004 := ak (Kd.V_elder' (vq_ HO_589004) (Kd.R_base ho59) hb); replace HO608 := ak (Kd.V_elder' (vq_ HO608) (Kd.R_base ho59) hb); replace HO612 := ak (Kd.R_lower (Kd.R_newB (Kd.R_new' (Kd.R_newM (M := fun k_ => (w.heap.size ≤ k_)) ho59 (below_size (by repeat (first | (with_reducible first | exact HB.out | apply below_alloc | apply pw_below_drewN | apply below_drew1 | refine below_set ?_ GE588.out | refine below_set ?_ GE602.out) | exact HB.out))) (fun k_ h_ => h_)) (Kd.R_lt (rq_ HO605))) (g := gb602) (o := .cells #[.int .i64 ((rd_T62 l2 x56_2).f0), .int .i64 ((rd_T62 l2 x56_2).f1)] 62 (0, 0)) (bq_ BK602)) (below_size (by repeat (first | (with_reducible first | exact HB.out | apply below_alloc | apply pw_below_drewN | apply below_drew1 | refine below_set ?_ GE588.out | refine below_set ?_ GE602.out) | exact HB.out)))); replace HO605 := ak (Kd.R_elder' (rq_ HO605) (Kd.R_base ho59) hb); replace BK588 := bb_ BK588 hb; replace BK602 := bb_ BK602 hb; replace HB := ak (below_step (by repeat (first | (with_reducible first | exact HB.out | apply below_alloc | apply pw_below_drewN | apply below_drew1 | refine below_set ?_ GE588.out | refine below_set ?_ GE602.out) | exact HB.out)) hb); clear hb ho59; obtain ⟨Ao60, co60, eo60⟩ := Kd.V_slice HO_7.out; subst eo60; obtain ⟨Ao61, co61, eo61⟩ := Kd.V_slice HO608.out; subst eo61; obtain ⟨Ao62, co62, eo62⟩ := Kd.R_slice HO612.out; subst eo62) | ((with_reducible refine gate_callee (f := 36) rfl ?_); refine goesL_ (some 74) rfl rfl Try.func36 (by kernel_rfl) rfl #[.slice Ao60 x7_2.length co60, .slice Ao61 t606.length co61, .slice Ao62 y610.length co62] rfl mp_ ?_; (with_reducible refine (filter_Wake.calls k2 (fun k_ => ((((((P0_3_ k_ ∨ P0_4_ k_ ∨ P1_ k_) ∨ w.heap.size ≤ k_) ∧ k_ ≠ gb588) ∧ k_ ≠ gb602) ∧ some k_ ≠ (.slice Ao55 y603.length co55 : Value).ownBlock) ∧ some k_ ≠ (.slice Ao62 y610.length co62 : Value).ownBlock)) _ _ x7_2 _ _ t606 _ _ y610 t613 t616 _ ?side1 ?side2 ?side3 ?side4 ?side5 A47.out).mono ?_); (case side1 => exact HO_7.out); (case side2 => exact vc_ HO608); (case side3 => exact vl_ HO608); (case side4 => repeat (first | exact (Kd.R_reads' HO612.out).2.2 | with_reducible first | refine Kd.C_alloc ?_ _ | refine Kd.C_drewN ?_ _ | refine Kd.C_drew ?_)); (case side5 => exact (Kd.R_reads' HO612.out).2.1); rintro e w63 ⟨v614, v617, rfl, ho0, ho1, hb⟩; refine ⟨_, rfl, ?_⟩; replace HO_7 := ak (Kd.V_elder' (vq_ HO_7) (Kd.R_base ho1) hb); replace HO_9 := ak (Kd.V_elder' (vq_ HO_9) (Kd.R_base ho1) hb); replace HO_589003 := ak (Kd.V_elder' (vq_ HO_589003) (Kd.R_base ho1) hb); replace HO_589004 := ak (Kd.V_elder' (vq_ HO_589004) (Kd.R_base ho1) hb); replace HO608 := ak (Kd.V_elder' (vq_ HO608) (Kd.R_base ho1) hb); replace HO615 := ak (Kd.V_lower (Kd.V_mono (ok' := fun k_ => ((P0_3_ k_ ∨ P0_4_ k_ ∨ P1_ k_) ∨ w.heap.size ≤ k_) ∧ some k_ ≠ (v617 : Value).ownBlock ∧ some k_ ≠ (.slice Ao55 y603.length co55 : Value).ownBlock ∧ some k_ ≠ (.slice Ao62 y610.length co62 : Value).ownBlock ∧ k_ ≠ gb588 ∧ k_ ≠ gb602) ho0 (fun k_ hk_ => ⟨Or.elim hk_.1 (fun hs_ => hs_.1.1.1.1) (fun hn_ => (.inr (Nat.le_trans (below_size (by repeat (first | (with_reducible first | exact HB.out | apply below_alloc | apply pw_below_drewN | apply below_drew1 | refine below_set ?_ GE588.out | refine below_set ?_ GE602.out) | exact HB.out))) hn_))), hk_.2, Or.elim hk_.1 (fun hs_ => hs_.1.2) (fun hn_ => (Kd.fresh' (Kd.R_lt (rq_ HO605)) k_ hn_)), Or.elim hk_.1 (fun hs_ => hs_.2) (fun hn_ => (Kd.fresh' (Kd.R_lt (rq_ HO612)) k_ hn_)), Or.elim hk_.1 (fun hs_ => hs_.1.1.1.2) (fun hn_ => (Kd.freshB (g := gb588) (o := .cells #[.int .i64 a0_0, .int .i64 a0_1, .int .i64 a0_2, .slice A0_3 l0_3.length c0_3, .slice A0_4 l0_4.length c0_4] 26 (0, 0)) (bq_ BK588) k_ hn_)), Or.elim hk_.1 (fun hs_ => hs_.1.1.2) (fun hn_ => (Kd.freshB (g := gb602) (o := .cells #[.int .i64 ((rd_T62 l2 x56_2).f0), .int .i64 ((rd_T62 l2 x56_2).f1)] 62 (0, 0)) (bq_ BK602) k_ hn_))⟩)) (below_size (by repeat (first | (with_reducible first | exact HB.out | apply below_alloc | apply pw_below_drewN | apply below_drew1 | refine below_set ?_ GE588.out | refine below_set ?_ GE602.out) | exact HB.out)))); replace HO605 := rb_ HO605 hb; replace HO612 := rb_ HO612 hb; replace HO618 := ak (Kd.R_lower (Kd.R_newM (M := fun k_ => (w.heap.size ≤ k_)) (Kd.R_mono (ok' := fun k_ => True) ho1 (fun _ hk_ => trivial)) (below_size (by repeat (first | (with_reducible first | exact HB.out | apply below_alloc | apply pw_below_drewN | apply below_drew1 | refine below_set ?_ GE588.out | refine below_set ?_ GE602.out) | exact HB.out))) (fun k_ h_ => h_)) (below_size (by repeat (first | (with_reducible first | exact HB.out | apply below_alloc | apply pw_below_drewN | apply below_drew1 | refine below_set ?_ GE588.out | refine below_set ?_ GE602.out) | exact HB.out)))); replace BK588 := bb_ BK588 hb; replace BK602 := bb_ BK602 hb; replace HB := ak (below_step (by repeat (first | (with_reducible first | exact HB.out | apply below_alloc | apply pw_below_drewN | apply below_drew1 | refine below_set ?_ GE588.out | refine below_set ?_ GE602.out) | exact HB.out)) hb); (try clear hb); (try clear hb2); (try clear hk); (try clear hi); (try clear ho0); (try clear ho1)))
                   (try simp only [Act.put, List.setIfInBounds_toArray, List.set_cons_zero, List.set_cons_succ])
                   go_cut [91] (fun v91 wc => ∃ (kq : Nat) (x91_47 : Bool), v91 = .bool x91_47 ∧ Aside0 (handshakerlaw16_FilterLasts.j2 kq t606 t613 t616 l2 (l2.length : Int) x56_2 x91_47 a0_0 a0_1 a0_2 l0_3 l0_4 = some r) ∧ Aside0 (kq ≤ k2) ∧ Aside0 (Kd.V k98 98 wc w.heap.size (fun k_ => ((P0_3_ k_ ∨ P0_4_ k_ ∨ P1_ k_) ∨ w.heap.size ≤ k_) ∧ some k_ ≠ (v617 : Value).ownBlock ∧ k_ ≠ gb588 ∧ k_ ≠ gb602) (.slice Ao61 t606.length co61) t606) ∧ Aside0 (Kd.V k26 26 wc w.heap.size (fun k_ => ((P0_3_ k_ ∨ P0_4_ k_ ∨ P1_ k_) ∨ w.heap.size ≤ k_) ∧ some k_ ≠ (v617 : Value).ownBlock ∧ k_ ≠ gb588 ∧ k_ ≠ gb602) v614 t613) ∧ Aside0 (Kd.R (Kd.int .i64) 3 wc w.heap.size (fun k_ => (w.heap.size ≤ k_)) v617 t616) ∧ Aside0 (Kd.V k62 62 wc w.heap.size (fun k_ => ((P0_3_ k_ ∨ P0_4_ k_ ∨ P1_ k_) ∨ w.heap.size ≤ k_) ∧ some k_ ≠ (v617 : Value).ownBlock ∧ k_ ≠ gb588 ∧ k_ ≠ gb602) (.slice A0_3 l0_3.length c0_3) l0_3) ∧ Aside0 (Kd.V k80 80 wc w.heap.size (fun k_ => ((P0_3_ k_ ∨ P0_4_ k_ ∨ P1_ k_) ∨ w.heap.size ≤ k_) ∧ some k_ ≠ (v617 : Value).ownBlock ∧ k_ ≠ gb588 ∧ k_ ≠ gb602) (.slice A0_4 l0_4.length c0_4) l0_4) ∧ Aside0 (wc.heap[gb588]? = some (.cells #[.int .i64 a0_0, .int .i64 a0_1, .int .i64 a0_2, (.slice A0_3 l0_3.length c0_3), (.slice A0_4 l0_4.length c0_4)] 26 (0, 0))) ∧ Aside0 (wc.heap[gb602]? = some (.cells #[.int .i64 ((rd_T62 l2 x56_2).f0), .int .i64 ((rd_T62 l2 x56_2).f1)] 62 (0, 0))) ∧ Aside0 (Below w.heap.size w wc))
                   case first =>
                    have H := HC48.out
                    clear HC48
                    obtain ⟨t619, A64, H⟩ := bd_ H
                    by_cases c65 : t619 = true
                    · subst c65
                      rw [if_pos rfl] at H
                      by_cases c66 : (t616.length : Int) = 1
                      · rw [if_pos c66] at H
                        have c66b0 : ((t616.length : Int) == 1) = true := beq_iff_eq.mpr c66
                        have c66b1 : ((t616.length : Int) != 1) = false := bne_eq_false_iff_eq.mpr c66
                        clear c66
                        (first | rw [c66b0] | (simp only [i64_w, i32_w]; rw [c66b0]) | skip)
                        have H' := ak H
                        clear H
                        have hnb67 := NB588_602.out
                        have hnc67 := NB602_588.out
                        obtain ⟨hcz68_0, hcz68_1, hcz68_2, hcz68_3, hcz68_4, hfz68_0, hfz68_1, hfz68_2, hfz68_3, hfz68_4⟩ := bz5_ BK588
                        go_wp2_with (first | ((with_reducible refine gate_callee (f := 37) rfl ?_); refine goesL_ (some 79) rfl rfl Try.func37 (by kernel_rfl) rfl #[.agg #[.int .i64 a0_0, .int .i64 a0_1, .int .i64 a0_2, .slice A0_3 l0_3.length c0_3, .slice A0_4 l0_4.length c0_4], .slice Ao61 t606.length co61] rfl mp_ ?_; (with_reducible refine (filter_May.calls k2 a0_0 a0_1 a0_2 (fun k_ => (((((((P0_3_ k_ ∨ P0_4_ k_ ∨ P1_ k_) ∨ w.heap.size ≤ k_) ∧ k_ ≠ gb588) ∧ k_ ≠ gb602) ∧ some k_ ≠ (.slice Ao55 y603.length co55 : Value).ownBlock) ∧ some k_ ≠ (.slice Ao62 y610.length co62 : Value).ownBlock) ∧ some k_ ≠ (v617 : Value).ownBlock)) _ _ l0_3 (fun k_ => (((((((P0_3_ k_ ∨ P0_4_ k_ ∨ P1_ k_) ∨ w.heap.size ≤ k_) ∧ k_ ≠ gb588) ∧ k_ ≠ gb602) ∧ some k_ ≠ (.slice Ao55 y603.length co55 : Value).ownBlock) ∧ some k_ ≠ (.slice Ao62 y610.length co62 : Value).ownBlock) ∧ some k_ ≠ (v617 : Value).ownBlock)) _ _ l0_4 _ _ t606 true _ ?side1 ?side2 ?side3 ?side4 A64.out).mono ?_); (case side1 => exact HO_589003.out); (case side2 => exact HO_589004.out); (case side3 => exact vc_ HO608); (case side4 => exact vl_ HO608); rintro e w69 ⟨rfl, hb⟩; refine ⟨_, rfl, ?_⟩; replace HO_7 := vb_ HO_7 hb; replace HO_9 := vb_ HO_9 hb; replace HO_589003 := vb_ HO_589003 hb; replace HO_589004 := vb_ HO_589004 hb; replace HO605 := rb_ HO605 hb; replace HO608 := vb_ HO608 hb; replace HO612 := rb_ HO612 hb; replace HO615 := vb_ HO615 hb; replace HO618 := rb_ HO618 hb; replace BK588 := bb_ BK588 hb; replace BK602 := bb_ BK602 hb; replace HB := ak (below_step (by repeat (first | (with_reducible first | exact HB.out | apply below_alloc | apply pw_below_drewN | apply below_drew1 | refine below_set ?_ GE588.out | refine below_set ?_ GE602.out) | exact HB.out)) hb); (try clear hb); (try clear hb2); (try clear hk); (try clear hi); obtain ⟨Ao70, co70, eo70⟩ := Kd.R_slice HO618.out; subst eo70; obtain ⟨Ao71, co71, eo71⟩ := Kd.V_slice HO615.out; subst eo71))
                        go_meet
                        case rel => exact ⟨_, (((wrap64 ((t613.length : Int) + (t616.length : Int))) != 1)), (by first | rfl | (simp; done) | (simp [*]; done)), H', ⟨by have := HJ3.out; have := HK2.out; first | omega | exact Nat.le_refl _⟩, ⟨Kd.V_mono (vq_ HO608) (fun _ hk => ⟨hk.1.1.1, ⟨hk.2, ⟨hk.1.1.2.2.1, hk.1.1.2.2.2⟩⟩⟩)⟩, ⟨Kd.V_mono (vq_ HO615) (fun _ hk => ⟨hk.1, ⟨hk.2.1, ⟨hk.2.2.2.2.1, hk.2.2.2.2.2⟩⟩⟩)⟩, ⟨Kd.R_mono (rq_ HO618) (fun _ hk => hk.1)⟩, ⟨Kd.V_mono (vq_ HO_589003) (fun _ hk => ⟨hk.1.1.1.1.1, ⟨hk.2, ⟨hk.1.1.1.1.2, hk.1.1.1.2⟩⟩⟩)⟩, ⟨Kd.V_mono (vq_ HO_589004) (fun _ hk => ⟨hk.1.1.1.1.1, ⟨hk.2, ⟨hk.1.1.1.1.2, hk.1.1.1.2⟩⟩⟩)⟩, ⟨bq_ BK588⟩, ⟨bq_ BK602⟩, ⟨by repeat (first | (with_reducible first | exact HB.out | apply below_alloc | apply pw_below_drewN | apply below_drew1 | refine below_set ?_ GE588.out | refine below_set ?_ GE602.out) | exact HB.out)⟩⟩
                      · rw [if_neg c66] at H
                        have c66b0 : ((t616.length : Int) == 1) = false := beq_eq_false_iff_ne.mpr c66
                        have c66b1 : ((t616.length : Int) != 1) = true := bne_iff_ne.mpr c66
                        (first | rw [c66b0] | (simp only [i64_w, i32_w]; rw [c66b0]) | skip)
                        have H' := ak H
                        clear H
                        have hnb72 := NB588_602.out
                        have hnc72 := NB602_588.out
                        obtain ⟨hcz73_0, hcz73_1, hcz73_2, hcz73_3, hcz73_4, hfz73_0, hfz73_1, hfz73_2, hfz73_3, hfz73_4⟩ := bz5_ BK588
                        go_wp2_with (first | ((with_reducible refine gate_callee (f := 37) rfl ?_); refine goesL_ (some 79) rfl rfl Try.func37 (by kernel_rfl) rfl #[.agg #[.int .i64 a0_0, .int .i64 a0_1, .int .i64 a0_2, .slice A0_3 l0_3.length c0_3, .slice A0_4 l0_4.length c0_4], .slice Ao61 t606.length co61] rfl mp_ ?_; (with_reducible refine (filter_May.calls k2 a0_0 a0_1 a0_2 (fun k_ => (((((((P0_3_ k_ ∨ P0_4_ k_ ∨ P1_ k_) ∨ w.heap.size ≤ k_) ∧ k_ ≠ gb588) ∧ k_ ≠ gb602) ∧ some k_ ≠ (.slice Ao55 y603.length co55 : Value).ownBlock) ∧ some k_ ≠ (.slice Ao62 y610.length co62 : Value).ownBlock) ∧ some k_ ≠ (v617 : Value).ownBlock)) _ _ l0_3 (fun k_ => (((((((P0_3_ k_ ∨ P0_4_ k_ ∨ P1_ k_) ∨ w.heap.size ≤ k_) ∧ k_ ≠ gb588) ∧ k_ ≠ gb602) ∧ some k_ ≠ (.slice Ao55 y603.length co55 : Value).ownBlock) ∧ some k_ ≠ (.slice Ao62 y610.length co62 : Value).ownBlock) ∧ some k_ ≠ (v617 : Value).ownBlock)) _ _ l0_4 _ _ t606 true _ ?side1 ?side2 ?side3 ?side4 A64.out).mono ?_); (case side1 => exact HO_589003.out); (case side2 => exact HO_589004.out); (case side3 => exact vc_ HO608); (case side4 => exact vl_ HO608); rintro e w74 ⟨rfl, hb⟩; refine ⟨_, rfl, ?_⟩; replace HO_7 := vb_ HO_7 hb; replace HO_9 := vb_ HO_9 hb; replace HO_589003 := vb_ HO_589003 hb; replace HO_589004 := vb_ HO_589004 hb; replace HO605 := rb_ HO605 hb; replace HO608 := vb_ HO608 hb; replace HO612 := rb_ HO612 hb; replace HO615 := vb_ HO615 hb; replace HO618 := rb_ HO618 hb; replace BK588 := bb_ BK588 hb; replace BK602 := bb_ BK602 hb; replace HB := ak (below_step (by repeat (first | (with_reducible first | exact HB.out | apply below_alloc | apply pw_below_drewN | apply below_drew1 | refine below_set ?_ GE588.out | refine below_set ?_ GE602.out) | exact HB.out)) hb); (try clear hb); (try clear hb2); (try clear hk); (try clear hi); obtain ⟨Ao75, co75, eo75⟩ := Kd.R_slice HO618.out; subst eo75))
                        go_meet
                        case rel => exact ⟨_, (true), (by first | rfl | (simp; done) | (simp [*]; done)), H', ⟨by have := HJ3.out; have := HK2.out; first | omega | exact Nat.le_refl _⟩, ⟨Kd.V_mono (vq_ HO608) (fun _ hk => ⟨hk.1.1.1, ⟨hk.2, ⟨hk.1.1.2.2.1, hk.1.1.2.2.2⟩⟩⟩)⟩, ⟨Kd.V_mono (vq_ HO615) (fun _ hk => ⟨hk.1, ⟨hk.2.1, ⟨hk.2.2.2.2.1, hk.2.2.2.2.2⟩⟩⟩)⟩, ⟨Kd.R_mono (rq_ HO618) (fun _ hk => hk.1)⟩, ⟨Kd.V_mono (vq_ HO_589003) (fun _ hk => ⟨hk.1.1.1.1.1, ⟨hk.2, ⟨hk.1.1.1.1.2, hk.1.1.1.2⟩⟩⟩)⟩, ⟨Kd.V_mono (vq_ HO_589004) (fun _ hk => ⟨hk.1.1.1.1.1, ⟨hk.2, ⟨hk.1.1.1.1.2, hk.1.1.1.2⟩⟩⟩)⟩, ⟨bq_ BK588⟩, ⟨bq_ BK602⟩, ⟨by repeat (first | (with_reducible first | exact HB.out | apply below_alloc | apply pw_below_drewN | apply below_drew1 | refine below_set ?_ GE588.out | refine below_set ?_ GE602.out) | exact HB.out)⟩⟩
                    · replace c65 := Bool.eq_false_iff.mpr c65
                      subst c65
                      rw [if_neg (show ¬ (false = true) by decide)] at H
                      by_cases c76 : (t616.length : Int) = 1
                      · rw [if_pos c76] at H
                        have c76b0 : ((t616.length : Int) == 1) = true := beq_iff_eq.mpr c76
                        have c76b1 : ((t616.length : Int) != 1) = false := bne_eq_false_iff_eq.mpr c76
                        clear c76
                        have H' := ak H
                        clear H
                        have hnb77 := NB588_602.out
                        have hnc77 := NB602_588.out
                        obtain ⟨hcz78_0, hcz78_1, hcz78_2, hcz78_3, hcz78_4, hfz78_0, hfz78_1, hfz78_2, hfz78_3, hfz78_4⟩ := bz5_ BK588
                        go_wp2_with (first | ((with_reducible refine gate_callee (f := 37) rfl ?_); refine goesL_ (some 79) rfl rfl Try.func37 (by kernel_rfl) rfl #[.agg #[.int .i64 a0_0, .int .i64 a0_1, .int .i64 a0_2, .slice A0_3 l0_3.length c0_3, .slice A0_4 l0_4.length c0_4], .slice Ao61 t606.length co61] rfl mp_ ?_; (with_reducible refine (filter_May.calls k2 a0_0 a0_1 a0_2 (fun k_ => (((((((P0_3_ k_ ∨ P0_4_ k_ ∨ P1_ k_) ∨ w.heap.size ≤ k_) ∧ k_ ≠ gb588) ∧ k_ ≠ gb602) ∧ some k_ ≠ (.slice Ao55 y603.length co55 : Value).ownBlock) ∧ some k_ ≠ (.slice Ao62 y610.length co62 : Value).ownBlock) ∧ some k_ ≠ (v617 : Value).ownBlock)) _ _ l0_3 (fun k_ => (((((((P0_3_ k_ ∨ P0_4_ k_ ∨ P1_ k_) ∨ w.heap.size ≤ k_) ∧ k_ ≠ gb588) ∧ k_ ≠ gb602) ∧ some k_ ≠ (.slice Ao55 y603.length co55 : Value).ownBlock) ∧ some k_ ≠ (.slice Ao62 y610.length co62 : Value).ownBlock) ∧ some k_ ≠ (v617 : Value).ownBlock)) _ _ l0_4 _ _ t606 false _ ?side1 ?side2 ?side3 ?side4 A64.out).mono ?_); (case side1 => exact HO_589003.out); (case side2 => exact HO_589004.out); (case side3 => exact vc_ HO608); (case side4 => exact vl_ HO608); rintro e w79 ⟨rfl, hb⟩; refine ⟨_, rfl, ?_⟩; replace HO_7 := vb_ HO_7 hb; replace HO_9 := vb_ HO_9 hb; replace HO_589003 := vb_ HO_589003 hb; replace HO_589004 := vb_ HO_589004 hb; replace HO605 := rb_ HO605 hb; replace HO608 := vb_ HO608 hb; replace HO612 := rb_ HO612 hb; replace HO615 := vb_ HO615 hb; replace HO618 := rb_ HO618 hb; replace BK588 := bb_ BK588 hb; replace BK602 := bb_ BK602 hb; replace HB := ak (below_step (by repeat (first | (with_reducible first | exact HB.out | apply below_alloc | apply pw_below_drewN | apply below_drew1 | refine below_set ?_ GE588.out | refine below_set ?_ GE602.out) | exact HB.out)) hb); (try clear hb); (try clear hb2); (try clear hk); (try clear hi); obtain ⟨Ao80, co80, eo80⟩ := Kd.R_slice HO618.out; subst eo80))
                        go_meet
                        case rel => exact ⟨_, (true), (by first | rfl | (simp; done) | (simp [*]; done)), H', ⟨by have := HJ3.out; have := HK2.out; first | omega | exact Nat.le_refl _⟩, ⟨Kd.V_mono (vq_ HO608) (fun _ hk => ⟨hk.1.1.1, ⟨hk.2, ⟨hk.1.1.2.2.1, hk.1.1.2.2.2⟩⟩⟩)⟩, ⟨Kd.V_mono (vq_ HO615) (fun _ hk => ⟨hk.1, ⟨hk.2.1, ⟨hk.2.2.2.2.1, hk.2.2.2.2.2⟩⟩⟩)⟩, ⟨Kd.R_mono (rq_ HO618) (fun _ hk => hk.1)⟩, ⟨Kd.V_mono (vq_ HO_589003) (fun _ hk => ⟨hk.1.1.1.1.1, ⟨hk.2, ⟨hk.1.1.1.1.2, hk.1.1.1.2⟩⟩⟩)⟩, ⟨Kd.V_mono (vq_ HO_589004) (fun _ hk => ⟨hk.1.1.1.1.1, ⟨hk.2, ⟨hk.1.1.1.1.2, hk.1.1.1.2⟩⟩⟩)⟩, ⟨bq_ BK588⟩, ⟨bq_ BK602⟩, ⟨by repeat (first | (with_reducible first | exact HB.out | apply below_alloc | apply pw_below_drewN | apply below_drew1 | refine below_set ?_ GE588.out | refine below_set ?_ GE602.out) | exact HB.out)⟩⟩
                      · rw [if_neg c76] at H
                        have c76b0 : ((t616.length : Int) == 1) = false := beq_eq_false_iff_ne.mpr c76
                        have c76b1 : ((t616.length : Int) != 1) = true := bne_iff_ne.mpr c76
                        have H' := ak H
                        clear H
                        have hnb81 := NB588_602.out
                        have hnc81 := NB602_588.out
                        obtain ⟨hcz82_0, hcz82_1, hcz82_2, hcz82_3, hcz82_4, hfz82_0, hfz82_1, hfz82_2, hfz82_3, hfz82_4⟩ := bz5_ BK588
                        go_wp2_with (first | ((with_reducible refine gate_callee (f := 37) rfl ?_); refine goesL_ (some 79) rfl rfl Try.func37 (by kernel_rfl) rfl #[.agg #[.int .i64 a0_0, .int .i64 a0_1, .int .i64 a0_2, .slice A0_3 l0_3.length c0_3, .slice A0_4 l0_4.length c0_4], .slice Ao61 t606.length co61] rfl mp_ ?_; (with_reducible refine (filter_May.calls k2 a0_0 a0_1 a0_2 (fun k_ => (((((((P0_3_ k_ ∨ P0_4_ k_ ∨ P1_ k_) ∨ w.heap.size ≤ k_) ∧ k_ ≠ gb588) ∧ k_ ≠ gb602) ∧ some k_ ≠ (.slice Ao55 y603.length co55 : Value).ownBlock) ∧ some k_ ≠ (.slice Ao62 y610.length co62 : Value).ownBlock) ∧ some k_ ≠ (v617 : Value).ownBlock)) _ _ l0_3 (fun k_ => (((((((P0_3_ k_ ∨ P0_4_ k_ ∨ P1_ k_) ∨ w.heap.size ≤ k_) ∧ k_ ≠ gb588) ∧ k_ ≠ gb602) ∧ some k_ ≠ (.slice Ao55 y603.length co55 : Value).ownBlock) ∧ some k_ ≠ (.slice Ao62 y610.length co62 : Value).ownBlock) ∧ some k_ ≠ (v617 : Value).ownBlock)) _ _ l0_4 _ _ t606 false _ ?side1 ?side2 ?side3 ?side4 A64.out).mono ?_); (case side1 => exact HO_589003.out); (case side2 => exact HO_589004.out); (case side3 => exact vc_ HO608); (case side4 => exact vl_ HO608); rintro e w83 ⟨rfl, hb⟩; refine ⟨_, rfl, ?_⟩; replace HO_7 := vb_ HO_7 hb; replace HO_9 := vb_ HO_9 hb; replace HO_589003 := vb_ HO_589003 hb; replace HO_589004 := vb_ HO_589004 hb; replace HO605 := rb_ HO605 hb; replace HO608 := vb_ HO608 hb; replace HO612 := rb_ HO612 hb; replace HO615 := vb_ HO615 hb; replace HO618 := rb_ HO618 hb; replace BK588 := bb_ BK588 hb; replace BK602 := bb_ BK602 hb; replace HB := ak (below_step (by repeat (first | (with_reducible first | exact HB.out | apply below_alloc | apply pw_below_drewN | apply below_drew1 | refine below_set ?_ GE588.out | refine below_set ?_ GE602.out) | exact HB.out)) hb); (try clear hb); (try clear hb2); (try clear hk); (try clear hi); obtain ⟨Ao84, co84, eo84⟩ := Kd.R_slice HO618.out; subst eo84; obtain ⟨Ao85, co85, eo85⟩ := Kd.V_slice HO615.out; subst eo85))
                        go_meet
                        case rel => exact ⟨_, (((wrap64 ((t613.length : Int) + (t616.length : Int))) != 1)), (by first | rfl | (simp; done) | (simp [*]; done)), H', ⟨by have := HJ3.out; have := HK2.out; first | omega | exact Nat.le_refl _⟩, ⟨Kd.V_mono (vq_ HO608) (fun _ hk => ⟨hk.1.1.1, ⟨hk.2, ⟨hk.1.1.2.2.1, hk.1.1.2.2.2⟩⟩⟩)⟩, ⟨Kd.V_mono (vq_ HO615) (fun _ hk => ⟨hk.1, ⟨hk.2.1, ⟨hk.2.2.2.2.1, hk.2.2.2.2.2⟩⟩⟩)⟩, ⟨Kd.R_mono (rq_ HO618) (fun _ hk => hk.1)⟩, ⟨Kd.V_mono (vq_ HO_589003) (fun _ hk => ⟨hk.1.1.1.1.1, ⟨hk.2, ⟨hk.1.1.1.1.2, hk.1.1.1.2⟩⟩⟩)⟩, ⟨Kd.V_mono (vq_ HO_589004) (fun _ hk => ⟨hk.1.1.1.1.1, ⟨hk.2, ⟨hk.1.1.1.1.2, hk.1.1.1.2⟩⟩⟩)⟩, ⟨bq_ BK588⟩, ⟨bq_ BK602⟩, ⟨by repeat (first | (with_reducible first | exact HB.out | apply below_alloc | apply pw_below_drewN | apply below_drew1 | refine below_set ?_ GE588.out | refine below_set ?_ GE602.out) | exact HB.out)⟩⟩
                   case rest =>
                    clear HC48
                    try clear c1
                    try clear c2
                    try clear p2
                    try clear c3
                    try clear c4
                    try clear c5
                    try clear c6
                    try clear p6
                    try clear q6
                    try clear hx6
                    try clear c7
                    try clear c7b0
                    try clear c8
                    try clear c12
                    try clear c13
                    try clear c13b0
                    try clear c13b1
                    try clear c14
                    try clear c19
                    try clear c19b0
                    try clear c19b1
                    try clear c31
                    try clear c35
                    try clear c35b0
                    try clear c35b1
                    try clear c36
                    try clear c37
                    try clear c38
                    try clear c39
                    try clear c42
                    try clear c42b0
                    try clear c43
                    try clear c43b0
                    try clear c44
                    try clear c44b0
                    try clear c46
                    try clear c46b0
                    try clear c46b1
                    try clear c50
                    try clear p60
                    try clear q60
                    try clear hx60
                    try clear p64
                    try clear c65
                    try clear c66
                    try clear c66b0
                    try clear c66b1
                    try clear c67
                    try clear c72
                    try clear c76
                    try clear c76b0
                    try clear c76b1
                    try clear c77
                    try clear c81
                    try clear hcz14_0
                    try clear hcz14_1
                    try clear hcz14_2
                    try clear hcz14_3
                    try clear hcz14_4
                    try clear hcz20_0
                    try clear hcz20_1
                    try clear hcz20_2
                    try clear hcz20_3
                    try clear hcz20_4
                    try clear hcz25_0
                    try clear hcz25_1
                    try clear hcz25_2
                    try clear hcz25_3
                    try clear hcz25_4
                    try clear hcz30_0
                    try clear hcz30_1
                    try clear hcz30_2
                    try clear hcz30_3
                    try clear hcz30_4
                    try clear hcz38_0
                    try clear hcz38_1
                    try clear hcz38_2
                    try clear hcz38_3
                    try clear hcz38_4
                    try clear hcz40_0
                    try clear hcz40_1
                    try clear hcz40_2
                    try clear hcz40_3
                    try clear hcz40_4
                    try clear hcz51_0
                    try clear hcz51_1
                    try clear hcz57_0
                    try clear hcz57_1
                    try clear hcz68_0
                    try clear hcz68_1
                    try clear hcz68_2
                    try clear hcz68_3
                    try clear hcz68_4
                    try clear hcz73_0
                    try clear hcz73_1
                    try clear hcz73_2
                    try clear hcz73_3
                    try clear hcz73_4
                    try clear hcz78_0
                    try clear hcz78_1
                    try clear hcz78_2
                    try clear hcz78_3
                    try clear hcz78_4
                    try clear hcz82_0
                    try clear hcz82_1
                    try clear hcz82_2
                    try clear hcz82_3
                    try clear hcz82_4
                    try clear hcz8_0
                    try clear hcz8_1
                    try clear hcz8_2
                    try clear hcz8_3
                    try clear hcz8_4
                    try clear hfz14_0
                    try clear hfz14_1
                    try clear hfz14_2
                    try clear hfz14_3
                    try clear hfz14_4
                    try clear hfz20_0
                    try clear hfz20_1
                    try clear hfz20_2
                    try clear hfz20_3
                    try clear hfz20_4
                    try clear hfz25_0
                    try clear hfz25_1
                    try clear hfz25_2
                    try clear hfz25_3
                    try clear hfz25_4
                    try clear hfz30_0
                    try clear hfz30_1
                    try clear hfz30_2
                    try clear hfz30_3
                    try clear hfz30_4
                    try clear hfz38_0
                    try clear hfz38_1
                    try clear hfz38_2
                    try clear hfz38_3
                    try clear hfz38_4
                    try clear hfz40_0
                    try clear hfz40_1
                    try clear hfz40_2
                    try clear hfz40_3
                    try clear hfz40_4
                    try clear hfz51_0
                    try clear hfz51_1
                    try clear hfz57_0
                    try clear hfz57_1
                    try clear hfz68_0
                    try clear hfz68_1
                    try clear hfz68_2
                    try clear hfz68_3
                    try clear hfz68_4
                    try clear hfz73_0
                    try clear hfz73_1
                    try clear hfz73_2
                    try clear hfz73_3
                    try clear hfz73_4
                    try clear hfz78_0
                    try clear hfz78_1
                    try clear hfz78_2
                    try clear hfz78_3
                    try clear hfz78_4
                    try clear hfz82_0
                    try clear hfz82_1
                    try clear hfz82_2
                    try clear hfz82_3
                    try clear hfz82_4
                    try clear hfz8_0
                    try clear hfz8_1
                    try clear hfz8_2
                    try clear hfz8_3
                    try clear hfz8_4
                    try clear hx601_0
                    try clear hx601_1
                    try clear p2
                    try clear p601
                    try clear q601
                    obtain ⟨kq, x91_47, rfl, HA, HJ47, HO_12, HO_14, HO_15, HO_589003, HO_589004, BK588, BK602, HB⟩ := hcut
                    cases kq with
                    | zero => exact absurd HA.out (by simp [handshakerlaw16_FilterLasts.j2])
                    | succ kj47 =>
                     have H := HA.out
                     clear HA
                     simp only [handshakerlaw16_FilterLasts.j2] at H
                     by_cases c86 : x91_47 = true
                     · subst c86
                       rw [if_pos rfl] at H
                       exact absurd (Option.some.inj H) (by rw [HT.out]; decide)
                     · replace c86 := Bool.eq_false_iff.mpr c86
                       subst c86
                       rw [if_neg (show ¬ (false = true) by decide)] at H
                       by_cases c87 : (t616.length : Int) = 1
                       · rw [if_pos c87] at H
                         have c87b0 : ((t616.length : Int) == 1) = true := beq_iff_eq.mpr c87
                         have c87b1 : ((t616.length : Int) != 1) = false := bne_eq_false_iff_eq.mpr c87
                         clear c87
                         by_cases c88 : 0 < (t616.length : Int)
                         · rw [if_pos c88] at H
                           have c88b0 : decide (0 < (t616.length : Int)) = true := decide_eq_true c88
                           have c88b1 : decide (0 < t616.length) = true := decide_eq_true (by omega)
                           clear c88
                           by_cases c89 : (rd t616 0) = a0_0
                           · rw [if_pos c89] at H
                             have c89b0 : ((rd t616 0) == a0_0) = true := beq_iff_eq.mpr c89
                             have c89b1 : ((rd t616 0) != a0_0) = false := bne_eq_false_iff_eq.mpr c89
                             clear c89
                             obtain ⟨t621, A90, H⟩ := bd_ H
                             obtain rfl := Option.some.inj H
                             obtain ⟨Ao91, co91, eo91⟩ := Kd.R_slice HO_15.out
                             subst eo91
                             try go_wp2
                             have n0_ := ak (Kd.V_drew HO_12.out)
                             have n1_ := ak (Kd.V_drew HO_14.out)
                             have n2_ := ak (Kd.R_drew HO_15.out)
                             have n3_ := ak (Kd.V_drew HO_589003.out)
                             have n4_ := ak (Kd.V_drew HO_589004.out)
                             have n5_ := ak (blk_drew BK588.out)
                             have n6_ := ak (blk_drew BK602.out)
                             have n7_ := ak (below_drew1 HB.out)
                             clear HO_12
                             clear HO_14
                             clear HO_15
                             clear HO_589003
                             clear HO_589004
                             clear BK588
                             clear BK602
                             clear HB
                             have HO_12 := n0_
                             have HO_14 := n1_
                             have HO_15 := n2_
                             have HO_589003 := n3_
                             have HO_589004 := n4_
                             have BK588 := n5_
                             have BK602 := n6_
                             have HB := n7_
                             clear n0_ n1_ n2_ n3_ n4_ n5_ n6_ n7_
                             have p620 : 0 ≤ (0 : Int) := (by omega)
                             have q620 : 0 < (t616.length : Int) := oda_
                             obtain ⟨ad620, e620, hx620_0⟩ := Kd.at_int (Kd.R_reads' HO_15.out).2.2 0 p620 q620
                             cases e620
                             have qi620 : (0 < t616.length) = True := eq_true (by omega)
                             (try rw [show ((0 : Int)).toNat = 0 from rfl] at hx620_0)
                             (try rw [Addr.add_zero'] at hx620_0)
                             replace p620 := eq_true p620
                             replace q620 := eq_true q620
                             refine start_ (n := 10) (S := fun w' => w'.cell? ⟨gb588, 0, none⟩ = some (.int .i64 a0_0) ∧ w'.cell? ⟨gb588, 1, none⟩ = some (.int .i64 a0_1) ∧ w'.cell? ⟨gb588, 2, none⟩ = some (.int .i64 a0_2) ∧ w'.cell? ⟨gb588, 3, none⟩ = some (.slice A0_3 l0_3.length c0_3) ∧ w'.cell? ⟨gb588, 4, none⟩ = some (.slice A0_4 l0_4.length c0_4) ∧ w'.cell? ad620 = some (.int .i64 (rd t616 0))) (ds := []) (fb 10 0) (by kernel_rfl) rfl rfl ⟨(blk_cell BK588.out 0).trans rfl, (blk_cell BK588.out 1).trans rfl, (blk_cell BK588.out 2).trans rfl, (blk_cell BK588.out 3).trans rfl, (blk_cell BK588.out 4).trans rfl, hx620_0⟩ (fun hHeld => ?_); refine with_tabW handshakerlaw16_FilterLasts.tab18 handshakerlaw16_FilterLasts.bits18 (fun HT_ HW_ => ?_)
                             generalize wc.drew = w92 at HO_12 HO_14 HO_15 HO_589003 HO_589004 BK588 BK602 HB hx620_0 hHeld ⊢
                             refine pu_ 0 (some 95) (fb 10 1) HT_ ?_
                             refine pu_ 1 (some 96) (fb 10 3) HT_ ?_
                             refine pu_ 3 (some 98) (fb 10 11) HT_ ?_
                             refine ta6_ 2 (some 97) (fb 10 15) HT_ HW_ hHeld ?_
                             refine ta6_ 4 (some 99) (fb 10 31) HT_ HW_ hHeld ?_
                             refine pu_ 5 (some 100) (fb 10 63) HT_ ?_
                             refine pu_ 6 (some 101) (fb 10 127) HT_ ?_
                             refine one_ (i := 7) (N := some 102) (fb 10 255) rfl rfl (one_of HT_.out (by kernel_rfl)) (by decide) (fun K hK => ?_)
                             refine goes_ Try.func35 (by kernel_rfl) rfl #[] (by rfl) rfl rfl (by (try simp only [List.map_toArray, List.map_cons, List.map_nil]); first | done | rfl | (simp only [List.length_drop, List.length_take]; rfl)) ?_
                             with_reducible refine (handshakerlaw16_awake.calls kj47  t621 _ A90.out).mono ?_
                             rintro e w93 ⟨rfl, hb⟩
                             have HS5_ := (hb.cell (World.block_lt_of_cell? _ _ (hHeld.2.2.2.2.2))).trans (hHeld.2.2.2.2.2)
                             refine ⟨_, rfl, ?_⟩
                             have n0_ := vb_ HO_12 hb
                             have n1_ := vb_ HO_14 hb
                             have n2_ := rb_ HO_15 hb
                             have n3_ := vb_ HO_589003 hb
                             have n4_ := vb_ HO_589004 hb
                             have n5_ := bb_ BK588 hb
                             have n6_ := bb_ BK602 hb
                             have n7_ := ak (below_step (by repeat (first | (with_reducible first | exact HB.out | apply below_alloc | apply pw_below_drewN | apply below_drew1 | refine below_set ?_ GE588.out | refine below_set ?_ GE602.out) | exact HB.out)) hb)
                             clear HO_12
                             clear HO_14
                             clear HO_15
                             clear HO_589003
                             clear HO_589004
                             clear BK588
                             clear BK602
                             clear HB
                             have HO_12 := n0_
                             have HO_14 := n1_
                             have HO_15 := n2_
                             have HO_589003 := n3_
                             have HO_589004 := n4_
                             have BK588 := n5_
                             have BK602 := n6_
                             have HB := n7_
                             clear n0_ n1_ n2_ n3_ n4_ n5_ n6_ n7_
                             (try clear hb)
                             (try clear hb2)
                             (try clear hk)
                             (try clear hi)
                             refine hK.out _ _ ⟨(blk_cell BK588.out 0).trans rfl, (blk_cell BK588.out 1).trans rfl, (blk_cell BK588.out 2).trans rfl, (blk_cell BK588.out 3).trans rfl, (blk_cell BK588.out 4).trans rfl, HS5_⟩ (fun hHeld => ?_)
                             clear hK K
                             refine no_ (some 102) ?_
                             refine pu_ 8 (some 103) (fb 10 511) HT_ ?_
                             refine pu_ 9 (some 6) (fb 10 1023) HT_ ?_
                             refine done_ (done_of HT_.out (by kernel_rfl)) ?_
                             try go_wp2
                             go_ret
                             exact ⟨by first | rfl | (simp [errW_none, errW_some] <;> rfl) | (simp [*, errW_none, errW_some] <;> rfl), by repeat (first | (with_reducible first | exact HB.out | apply below_alloc | apply pw_below_drewN | apply below_drew1 | refine below_set ?_ GE588.out | refine below_set ?_ GE602.out) | exact HB.out)⟩
                           · rw [if_neg c89] at H
                             have c89b0 : ((rd t616 0) == a0_0) = false := beq_eq_false_iff_ne.mpr c89
                             have c89b1 : ((rd t616 0) != a0_0) = true := bne_iff_ne.mpr c89
                             exact absurd (Option.some.inj H) (by rw [HT.out]; decide)
                         · rw [if_neg c88] at H
                           exact absurd H (by simp)
                       · rw [if_neg c87] at H
                         have c87b0 : ((t616.length : Int) == 1) = false := beq_eq_false_iff_ne.mpr c87
                         have c87b1 : ((t616.length : Int) != 1) = true := bne_iff_ne.mpr c87
                         have H' := ak H
                         clear H
                         obtain ⟨Ao94, co94, eo94⟩ := Kd.R_slice HO_15.out
                         subst eo94
                         go_wp2
                         go_roundg kj47
                         case measure => have := HJ3.out; have := HK2.out; have := HJ47.out; omega
                         case rel => exact ⟨(t613), (t606), (wrap64 (x56_2 + 1)), (by first | rfl | (simp; done) | (simp [*]; done)), H', ⟨by have := HJ3.out; have := HK2.out; have := HJ47.out; omega⟩, ⟨Kd.V_mono (vq_ HO_14) (fun _ hk => ⟨hk.1, hk.2.2.1⟩)⟩, ⟨Kd.V_mono (vq_ HO_12) (fun _ hk => ⟨hk.1, hk.2.2.1⟩)⟩, ⟨Kd.V_mono (vq_ HO_589003) (fun _ hk => ⟨hk.1, hk.2.2.1⟩)⟩, ⟨Kd.V_mono (vq_ HO_589004) (fun _ hk => ⟨hk.1, hk.2.2.1⟩)⟩, ⟨bq_ BK588⟩, ⟨by repeat (first | (with_reducible first | exact HB.out | apply below_alloc | apply pw_below_drewN | apply below_drew1 | refine below_set ?_ GE588.out | refine below_set ?_ GE602.out) | exact HB.out)⟩⟩
                 · rw [if_neg c46] at H
                   have c46b0 : (t609 == 0) = false := beq_eq_false_iff_ne.mpr c46
                   have c46b1 : (t609 != 0) = true := bne_iff_ne.mpr c46
                   have H' := ak H
                   clear H
                   have p601 : 0 ≤ (x56_2 : Int) := oda_
                   have q601 : x56_2 < (l2.length : Int) := oda_
                   obtain ⟨ad601, e601, hx601_0, hx601_1⟩ := at_T62 HR2.out x56_2 p601 q601
                   cases e601
                   replace hx601_0 := bl_ HB hx601_0
                   replace hx601_1 := bl_ HB hx601_1
                   replace p601 := eq_true p601
                   replace q601 := eq_true q601
                   go_wp2_with (first | ((with_reducible refine gate_dst (N := 11) rfl ?_); (try (refine gate_guard (by rfl) ?_; dsimp only)); refine box_event ?hg (N := 11) ?hd (cs := #[.int .i64 0, .int .i64 0]) (t := 62) ?hr ?_; (case hd => rfl); (case hg => rfl); (case hr => first | (go_simp; done) | (go_simp; rfl)); intro gb602 hg w95 hbox hb; replace HO_7 := ak (Kd.V_below (Kd.V_elderB (vq_ HO_7) gb602 (Nat.le_of_eq hg.symm)) hb); replace HO_9 := ak (Kd.V_below (Kd.V_elderB (vq_ HO_9) gb602 (Nat.le_of_eq hg.symm)) hb); replace HO_589003 := ak (Kd.V_below (Kd.V_elderB (vq_ HO_589003) gb602 (Nat.le_of_eq hg.symm)) hb); replace HO_589004 := ak (Kd.V_below (Kd.V_elderB (vq_ HO_589004) gb602 (Nat.le_of_eq hg.symm)) hb); replace BK602 := ak (hbox); replace GW602 := ak ((by rw [hg]; exact (below_size bsw_) : w.heap.size ≤ gb602)); replace HB := ak (below_step bsw_ hb); replace GE602 := GW602; replace NB588_602 := ak ((by rw [hg]; exact Nat.ne_of_lt (blk_lt (g := gb588) (o := .cells #[.int .i64 a0_0, .int .i64 a0_1, .int .i64 a0_2, .slice A0_3 l0_3.length c0_3, .slice A0_4 l0_4.length c0_4] 26 (0, 0)) (bq_ BK588)) : gb588 ≠ gb602)); replace NB602_588 := ak ((by rw [hg]; exact Nat.ne_of_gt (blk_lt (g := gb588) (o := .cells #[.int .i64 a0_0, .int .i64 a0_1, .int .i64 a0_2, .slice A0_3 l0_3.length c0_3, .slice A0_4 l0_4.length c0_4] 26 (0, 0)) (bq_ BK588)) : gb602 ≠ gb588)); replace BK588 := bb_ BK588 hb; clear hb hbox hg; have hnb96 := NB602_588.out; have hnc96 := NB588_602.out; obtain ⟨hcz97_0, hcz97_1, hfz97_0, hfz97_1⟩ := bz2_ BK602) | ((with_reducible refine gate_dst (N := 63) rfl ?_); (try (refine gate_guard (by rfl) ?_; dsimp only)); refine Kd.R_lit k62 _ 62 ?hg (N := 63) ?hd (xs := ([(⟨(rd_T62 l2 x56_2).f0, (rd_T62 l2 x56_2).f1⟩ : S62)] : List (S62))) (inner := [.int .i64 ((rd_T62 l2 x56_2).f0), .int .i64 ((rd_T62 l2 x56_2).f1)]) (ok := fun _ => True) (okp := fun _ => True) ?hr ?hp (fun _ hk => hk) trivial (Below.refl _ _) (Nat.le_refl _) (by simp) ?_; (case hd => rfl); (case hg => rfl); (case hr => first | (go_simp; done) | (go_simp; rfl)); (case hp => exact (Reps.c2 (show Kd.M k62 _ _ _ (⟨(rd_T62 l2 x56_2).f0, (rd_T62 l2 x56_2).f1⟩ : S62) [.int .i64 ((rd_T62 l2 x56_2).f0), .int .i64 ((rd_T62 l2 x56_2).f1)] from (k62_mkM _ _ _ (⟨(rd_T62 l2 x56_2).f0, (rd_T62 l2 x56_2).f1⟩ : S62) )) (Reps.none _ _))); intro v604 w98 ho99 hb hg_ hnew_; clear hg_ hnew_; (first | rw [← Ny603.out] at ho99 | (simp only [Int.reduceToNat] at ho99; rw [← Ny603.out] at ho99)); replace HO_7 := ak (Kd.V_elder' (by (with_reducible repeat (first | apply Kd.V_alloc | apply Kd.V_drewN | apply Kd.V_drew)); exact (Kd.V_mono (Kd.V_far (p := ⟨gb602, 1, none⟩) (Kd.V_far (p := ⟨gb602, 0, none⟩) (Kd.V_mono HO_7.out (fun k_ hk => (⟨hk, hk.2⟩ : _ ∧ k_ ≠ gb602))) (fun _ hk => hk.2) (.int .i64 ((rd_T62 l2 x56_2).f0))) (fun _ hk => hk.2) (.int .i64 ((rd_T62 l2 x56_2).f1))) (fun _ h_ => h_.1))) (Kd.R_base ho99) hb); replace HO_9 := ak (Kd.V_elder' (by (with_reducible repeat (first | apply Kd.V_alloc | apply Kd.V_drewN | apply Kd.V_drew)); exact (Kd.V_mono (Kd.V_far (p := ⟨gb602, 1, none⟩) (Kd.V_far (p := ⟨gb602, 0, none⟩) (Kd.V_mono HO_9.out (fun k_ hk => (⟨hk, hk.2⟩ : _ ∧ k_ ≠ gb602))) (fun _ hk => hk.2) (.int .i64 ((rd_T62 l2 x56_2).f0))) (fun _ hk => hk.2) (.int .i64 ((rd_T62 l2 x56_2).f1))) (fun _ h_ => h_.1))) (Kd.R_base ho99) hb); replace HO_589003 := ak (Kd.V_elder' (by (with_reducible repeat (first | apply Kd.V_alloc | apply Kd.V_drewN | apply Kd.V_drew)); exact (Kd.V_mono (Kd.V_far (p := ⟨gb602, 1, none⟩) (Kd.V_far (p := ⟨gb602, 0, none⟩) (Kd.V_mono HO_589003.out (fun k_ hk => (⟨hk, hk.2⟩ : _ ∧ k_ ≠ gb602))) (fun _ hk => hk.2) (.int .i64 ((rd_T62 l2 x56_2).f0))) (fun _ hk => hk.2) (.int .i64 ((rd_T62 l2 x56_2).f1))) (fun _ h_ => h_.1))) (Kd.R_base ho99) hb); replace HO_589004 := ak (Kd.V_elder' (by (with_reducible repeat (first | apply Kd.V_alloc | apply Kd.V_drewN | apply Kd.V_drew)); exact (Kd.V_mono (Kd.V_far (p := ⟨gb602, 1, none⟩) (Kd.V_far (p := ⟨gb602, 0, none⟩) (Kd.V_mono HO_589004.out (fun k_ hk => (⟨hk, hk.2⟩ : _ ∧ k_ ≠ gb602))) (fun _ hk => hk.2) (.int .i64 ((rd_T62 l2 x56_2).f0))) (fun _ hk => hk.2) (.int .i64 ((rd_T62 l2 x56_2).f1))) (fun _ h_ => h_.1))) (Kd.R_base ho99) hb); replace HO605 := ak (Kd.R_lower (Kd.R_newB (Kd.R_newM (M := fun k_ => (w.heap.size ≤ k_)) ho99 (below_size (by repeat (first | (with_reducible first | exact HB.out | apply below_alloc | apply pw_below_drewN | apply below_drew1 | refine below_set ?_ GE588.out | refine below_set ?_ GE602.out) | exact HB.out))) (fun k_ h_ => h_)) (g := gb602) (o := .cells #[.int .i64 ((rd_T62 l2 x56_2).f0), .int .i64 ((rd_T62 l2 x56_2).f1)] 62 (0, 0)) (by (with_reducible repeat (first | refine blk_drewN ?_ _ | refine blk_drew ?_ | refine blk_alloc ?_ _)); refine blk_put (cs := #[.int .i64 ((rd_T62 l2 x56_2).f0), .int .i64 0]) ?_ 1 _ rfl; (with_reducible repeat (first | refine blk_drewN ?_ _ | refine blk_drew ?_ | refine blk_alloc ?_ _)); refine blk_put (cs := #[.int .i64 0, .int .i64 0]) ?_ 0 _ rfl; (with_reducible repeat (first | refine blk_drewN ?_ _ | refine blk_drew ?_ | refine blk_alloc ?_ _)); exact BK602.out)) (below_size (by repeat (first | (with_reducible first | exact HB.out | apply below_alloc | apply pw_below_drewN | apply below_drew1 | refine below_set ?_ GE588.out | refine below_set ?_ GE602.out) | exact HB.out)))); replace BK588 := ak (blk_below (g := gb588) (o := .cells #[.int .i64 a0_0, .int .i64 a0_1, .int .i64 a0_2, .slice A0_3 l0_3.length c0_3, .slice A0_4 l0_4.length c0_4] 26 (0, 0)) (by (with_reducible repeat (first | refine blk_drewN ?_ _ | refine blk_drew ?_ | refine blk_alloc ?_ _)); refine blk_far ?_ NB588_602.out _; (with_reducible repeat (first | refine blk_drewN ?_ _ | refine blk_drew ?_ | refine blk_alloc ?_ _)); refine blk_far ?_ NB588_602.out _; (with_reducible repeat (first | refine blk_drewN ?_ _ | refine blk_drew ?_ | refine blk_alloc ?_ _)); exact BK588.out) hb); replace BK602 := ak (blk_below (g := gb602) (o := .cells #[.int .i64 ((rd_T62 l2 x56_2).f0), .int .i64 ((rd_T62 l2 x56_2).f1)] 62 (0, 0)) (by (with_reducible repeat (first | refine blk_drewN ?_ _ | refine blk_drew ?_ | refine blk_alloc ?_ _)); refine blk_put (cs := #[.int .i64 ((rd_T62 l2 x56_2).f0), .int .i64 0]) ?_ 1 _ rfl; (with_reducible repeat (first | refine blk_drewN ?_ _ | refine blk_drew ?_ | refine blk_alloc ?_ _)); refine blk_put (cs := #[.int .i64 0, .int .i64 0]) ?_ 0 _ rfl; (with_reducible repeat (first | refine blk_drewN ?_ _ | refine blk_drew ?_ | refine blk_alloc ?_ _)); exact BK602.out) hb); replace HB := ak (below_step (by repeat (first | (with_reducible first | exact HB.out | apply below_alloc | apply pw_below_drewN | apply below_drew1 | refine below_set ?_ GE588.out | refine below_set ?_ GE602.out) | exact HB.out)) hb); clear hb ho99; obtain ⟨Ao100, co100, eo100⟩ := Kd.V_slice HO_9.out; subst eo100; obtain ⟨Ao101, co101, eo101⟩ := Kd.R_slice HO605.out; subst eo101) | ((with_reducible refine gate_callee (f := 39) rfl ?_); refine goesL_ (some 64) rfl rfl Try.func39 (by kernel_rfl) rfl #[.slice Ao100 x9_2.length co100, .slice Ao101 y603.length co101] rfl mp_ ?_; (with_reducible refine (heap_Put.calls k2 (fun k_ => (((((P0_3_ k_ ∨ P0_4_ k_ ∨ P1_ k_) ∨ w.heap.size ≤ k_) ∧ k_ ≠ gb588) ∧ k_ ≠ gb602) ∧ some k_ ≠ (.slice Ao101 y603.length co101 : Value).ownBlock)) _ _ x9_2 _ _ y603 t606 t609 _ ?side1 ?side2 ?side3 A45.out).mono ?_); (case side1 => exact HO_9.out); (case side2 => repeat (first | exact (Kd.R_reads' HO605.out).2.2 | with_reducible first | refine Kd.C_alloc ?_ _ | refine Kd.C_drewN ?_ _ | refine Kd.C_drew ?_)); (case side3 => exact (Kd.R_reads' HO605.out).2.1); rintro e w102 ⟨v607, rfl, ho0, hb⟩; refine ⟨_, rfl, ?_⟩; replace HO_7 := vb_ HO_7 hb; replace HO_9 := vb_ HO_9 hb; replace HO_589003 := vb_ HO_589003 hb; replace HO_589004 := vb_ HO_589004 hb; replace HO608 := ak (Kd.V_lower (Kd.V_mono (ok' := fun k_ => ((P0_3_ k_ ∨ P0_4_ k_ ∨ P1_ k_) ∨ w.heap.size ≤ k_) ∧ some k_ ≠ (.slice Ao101 y603.length co101 : Value).ownBlock ∧ k_ ≠ gb588 ∧ k_ ≠ gb602) ho0 (fun k_ hk_ => ⟨Or.elim hk_ (fun hs_ => hs_.1.1.1) (fun hn_ => (.inr (Nat.le_trans (below_size (by repeat (first | (with_reducible first | exact HB.out | apply below_alloc | apply pw_below_drewN | apply below_drew1 | refine below_set ?_ GE588.out | refine below_set ?_ GE602.out) | exact HB.out))) hn_))), Or.elim hk_ (fun hs_ => hs_.2) (fun hn_ => (Kd.fresh' (Kd.R_lt (rq_ HO605)) k_ hn_)), Or.elim hk_ (fun hs_ => hs_.1.1.2) (fun hn_ => (Kd.freshB (g := gb588) (o := .cells #[.int .i64 a0_0, .int .i64 a0_1, .int .i64 a0_2, .slice A0_3 l0_3.length c0_3, .slice A0_4 l0_4.length c0_4] 26 (0, 0)) (bq_ BK588) k_ hn_)), Or.elim hk_ (fun hs_ => hs_.1.2) (fun hn_ => (Kd.freshB (g := gb602) (o := .cells #[.int .i64 ((rd_T62 l2 x56_2).f0), .int .i64 ((rd_T62 l2 x56_2).f1)] 62 (0, 0)) (bq_ BK602) k_ hn_))⟩)) (below_size (by repeat (first | (with_reducible first | exact HB.out | apply below_alloc | apply pw_below_drewN | apply below_drew1 | refine below_set ?_ GE588.out | refine below_set ?_ GE602.out) | exact HB.out)))); replace HO605 := rb_ HO605 hb; replace BK588 := bb_ BK588 hb; replace BK602 := bb_ BK602 hb; replace HB := ak (below_step (by repeat (first | (with_reducible first | exact HB.out | apply below_alloc | apply pw_below_drewN | apply below_drew1 | refine below_set ?_ GE588.out | refine below_set ?_ GE602.out) | exact HB.out)) hb); (try clear hb); (try clear hb2); (try clear hk); (try clear hi); (try clear ho0)))
                   go_roundg k2
                   case measure => have := HJ3.out; have := HK2.out; omega
                   case rel => exact ⟨(x7_2), (x9_2), (wrap64 (x56_2 + 1)), (by first | rfl | (simp; done) | (simp [*]; done)), H', ⟨by have := HJ3.out; have := HK2.out; omega⟩, ⟨Kd.V_mono (vq_ HO_7) (fun _ hk => ⟨hk.1.1.1, hk.1.1.2⟩)⟩, ⟨Kd.V_mono (vq_ HO_9) (fun _ hk => ⟨hk.1.1.1, hk.1.1.2⟩)⟩, ⟨Kd.V_mono (vq_ HO_589003) (fun _ hk => ⟨hk.1.1.1, hk.1.1.2⟩)⟩, ⟨Kd.V_mono (vq_ HO_589004) (fun _ hk => ⟨hk.1.1.1, hk.1.1.2⟩)⟩, ⟨bq_ BK588⟩, ⟨by repeat (first | (with_reducible first | exact HB.out | apply below_alloc | apply pw_below_drewN | apply below_drew1 | refine below_set ?_ GE588.out | refine below_set ?_ GE602.out) | exact HB.out)⟩⟩
               · rw [if_neg c44] at H
                 exact absurd H (by simp)
             · rw [if_neg c43] at H
               exact absurd H (by simp)
           · rw [if_neg c42] at H
             have c42b0 : decide (x56_2 < (l2.length : Int)) = false := decide_eq_false c42
             clear c42
             obtain ⟨t600, A103, H⟩ := bd_ H
             obtain rfl := Option.some.inj H
             go_wp2_with (first | ((with_reducible refine gate_callee (f := 35) rfl ?_); refine goesL_ (some 107) rfl rfl Try.func35 (by kernel_rfl) rfl #[] rfl mp_ ?_; (with_reducible refine (handshakerlaw16_awake.calls k2  t600 _ A103.out).mono ?_); rintro e w104 ⟨rfl, hb⟩; refine ⟨_, rfl, ?_⟩; replace HO_7 := vb_ HO_7 hb; replace HO_9 := vb_ HO_9 hb; replace HO_589003 := vb_ HO_589003 hb; replace HO_589004 := vb_ HO_589004 hb; replace BK588 := bb_ BK588 hb; replace HB := ak (below_step bsw_ hb); (try clear hb); (try clear hb2); (try clear hk); (try clear hi)))
             go_ret
             exact ⟨by first | rfl | (simp [errW_none, errW_some] <;> rfl) | (simp [*, errW_none, errW_some] <;> rfl), bsw_⟩
     · rw [if_neg c35] at H
       have c35b0 : (t597 == 0) = false := beq_eq_false_iff_ne.mpr c35
       have c35b1 : (t597 != 0) = true := bne_iff_ne.mpr c35
       by_cases c105 : (t594.length : Int) = 0
       · rw [if_pos c105] at H
         have c105b0 : ((t594.length : Int) == 0) = true := beq_iff_eq.mpr c105
         have c105b1 : ((t594.length : Int) != 0) = false := bne_eq_false_iff_eq.mpr c105
         clear c105
         obtain ⟨t598, A106, H⟩ := bd_ H
         obtain rfl := Option.some.inj H
         obtain ⟨hcz107_0, hcz107_1, hcz107_2, hcz107_3, hcz107_4, hfz107_0, hfz107_1, hfz107_2, hfz107_3, hfz107_4⟩ := bz5_ BK588
         go_wp2_with (first | ((with_reducible refine gate_callee (f := 38) rfl ?_); refine goesL_ (some 39) rfl rfl Try.func38 (by kernel_rfl) rfl #[.slice none 0 0, .agg #[.int .i64 a0_0, .int .i64 a0_1, .int .i64 a0_2, .slice A0_3 l0_3.length c0_3, .slice A0_4 l0_4.length c0_4], .slice A1 l1.length c1] rfl mp_ ?_; (refine (filter_Lie.calls kj3 (fun k_ => False) _ _ ([] : List (S26)) a0_0 a0_1 a0_2 (fun k_ => (((P0_3_ k_ ∨ P0_4_ k_ ∨ P1_ k_) ∨ w.heap.size ≤ k_) ∧ k_ ≠ gb588)) _ _ l0_3 (fun k_ => (((P0_3_ k_ ∨ P0_4_ k_ ∨ P1_ k_) ∨ w.heap.size ≤ k_) ∧ k_ ≠ gb588)) _ _ l0_4 _ _ l1 t594 t597 _ ?side1 ?side2 ?side3 ?side4 ?side5 A34.out).mono ?_); (case side1 => exact Kd.V_nil _ _ _ _ _); (case side2 => exact HO_589003.out); (case side3 => exact HO_589004.out); (case side4 => exact vc_ HO_1); (case side5 => exact vl_ HO_1); rintro e w108 ⟨v595, rfl, ho0, hb⟩; refine ⟨_, rfl, ?_⟩; replace HO_1 := vb_ HO_1 hb; replace HO_589003 := vb_ HO_589003 hb; replace HO_589004 := vb_ HO_589004 hb; replace HO596 := ak (Kd.V_lower (Kd.V_mono (ok' := fun k_ => ((P0_3_ k_ ∨ P0_4_ k_ ∨ P1_ k_) ∨ w.heap.size ≤ k_) ∧ k_ ≠ gb588) ho0 (fun k_ hk_ => ⟨Or.elim hk_ (fun hs_ => Or.elim hs_ (fun hs_ => (hs_).elim) (fun hs_ => Or.elim hs_ (fun hs_ => hs_.1) (fun hs_ => hs_.1))) (fun hn_ => (.inr (Nat.le_trans (below_size bsw_) hn_))), Or.elim hk_ (fun hs_ => Or.elim hs_ (fun hs_ => (hs_).elim) (fun hs_ => Or.elim hs_ (fun hs_ => hs_.2) (fun hs_ => hs_.2))) (fun hn_ => (Kd.freshB (g := gb588) (o := .cells #[.int .i64 a0_0, .int .i64 a0_1, .int .i64 a0_2, .slice A0_3 l0_3.length c0_3, .slice A0_4 l0_4.length c0_4] 26 (0, 0)) (bq_ BK588) k_ hn_))⟩)) (below_size bsw_)); replace BK588 := bb_ BK588 hb; replace HB := ak (below_step bsw_ hb); (try clear hb); (try clear hb2); (try clear hk); (try clear hi); (try clear ho0); obtain ⟨Ao109, co109, eo109⟩ := Kd.V_slice HO596.out; subst eo109) | (go_at_call 35; (with_reducible refine (handshakerlaw16_awake.calls kj3  t598 _ A106.out).mono ?_); rintro e w110 ⟨rfl, hb⟩; replace HO_1 := vb_ HO_1 hb; replace HO_589003 := vb_ HO_589003 hb; replace HO_589004 := vb_ HO_589004 hb; replace HO596 := vb_ HO596 hb; replace BK588 := bb_ BK588 hb; replace HB := ak (below_step bsw_ hb); (try clear hb); (try clear hb2); (try clear hk); (try clear hi)))
         go_ret
         exact ⟨by first | rfl | (simp [errW_none, errW_some] <;> rfl) | (simp [*, errW_none, errW_some] <;> rfl), bsw_⟩
       · rw [if_neg c105] at H
         have c105b0 : ((t594.length : Int) == 0) = false := beq_eq_false_iff_ne.mpr c105
         have c105b1 : ((t594.length : Int) != 0) = true := bne_iff_ne.mpr c105
         have c105b2 : ¬ (t594 = []) := fun h_ => c105 (by rw [h_]; rfl)
         exact absurd (Option.some.inj H) (by rw [HT.out]; decide)

/-- THE ONE PURE STATEMENT of handshakerlaw16_FilterLasts. -/
def handshakerlaw16_FilterLasts.Pure : Prop := ∀ (x0 : S26) (l1 : List (S98)) (l2 : List (S62)), wfS26 x0 → l1.length ≤ maxLen → l1.length * 16 ≤ 140737488351232 → (∀ y ∈ l1, wfS98 y) → l2.length ≤ maxLen → l2.length * 16 ≤ 140737488351232 → (∀ y ∈ l2, wfS62 y) → ∃ k, handshakerlaw16_FilterLasts.f k x0.f0 x0.f1 x0.f2 x0.f3 x0.f4 l1 l2 = some true

end Go.Proofs.Ytjnkpocfmpbpoaa.F
