-- PRINTED by print.py (a twelfth state) out of the translation. Not trusted: Lean checks it.
import Derived.Test.YtjnkpocfmpbpoaaFx0
import Derived.Test.YtjnkpocfmpbpoaaFx6
import Derived.Test.YtjnkpocfmpbpoaaFx7
import Derived.Test.YtjnkpocfmpbpoaaFx8
import Derived.Test.YtjnkpocfmpbpoaaFx10
import Derived.Test.YtjnkpocfmpbpoaaFx11
import Derived.Test.YtjnkpocfmpbpoaaFx12
import Derived.Test.YtjnkpocfmpbpoaaFx13
import Derived.Test.YtjnkpocfmpbpoaaFx15
namespace Go.Proofs.Ytjnkpocfmpbpoaa.F
open Go.Proofs.Ytjnkpocfmpbpoaa.Ho
open Go.RowKit Go.Proofs.YtjnkpocfmpbpoaaW.PrintWords Go.Proofs.YtjnkpocfmpbpoaaW.PrintLast Go.Proofs.YtjnkpocfmpbpoaaW.PrintMore
attribute [local go_sem] max2_int min2_int max_two min_two max_three min_three max_four min_four   -- for this text's walks alone
set_option linter.unusedVariables false
set_option linter.unusedSimpArgs false

/-! ### handshakerlaw16_FilterSure: function 9 -/
mutual
def handshakerlaw16_FilterSure.j0 : Nat → List (S26) → List (S98) → List (S62) → Bool → Option (Bool)
 | 0, _, _, _, _ => none
 | k + 1, x0, x1, x2, x40 => if x40 = true then ((handshakerlaw16_awake.f k).bind fun t445 => (some t445)) else ((filter_Wake.f k x0 x1 x2).bind fun bt446 => (handshakerlaw16_FilterSure.l0 k x0 x1 bt446.1 bt446.2 ([] : List Int) x2 (x2.length : Int) 0))
def handshakerlaw16_FilterSure.l0 : Nat → List (S26) → List (S98) → List (S26) → List Int → List Int → List (S62) → Int → Int → Option (Bool)
 | 0, _, _, _, _, _, _, _, _ => none
 | k + 1, x0, x1, x7, x8, x9, x49, x50, x51 => if x51 < x50 then (if 0 ≤ x51 then (if x51 < (x49.length : Int) then (if x9.length < 17592186044416 then (handshakerlaw16_FilterSure.l0 k x0 x1 x7 x8 (x9 ++ [(rd_T62 x49 x51).f0]) x49 x50 (wrap64 (x51 + 1))) else (none)) else (none)) else (none)) else ((sleep_Of.f k x0 x9).bind fun t457 => (handshakerlaw16_FilterSure.l1 k x0 x1 x7 x8 t457 x0 (x0.length : Int) 0))
def handshakerlaw16_FilterSure.l1 : Nat → List (S26) → List (S98) → List (S26) → List Int → List Int → List (S26) → Int → Int → Option (Bool)
 | 0, _, _, _, _, _, _, _, _ => none
 | k + 1, x0, x1, x7, x8, x12, x64, x65, x66 => if x66 < x65 then (if 0 ≤ x66 then (if x66 < (x64.length : Int) then (handshakerlaw16_FilterSure.l2 k x0 x1 x7 x8 x12 false false x64 x65 x66 x12 (x12.length : Int) 0 ((rd_T26 x64 x66).f0) ((rd_T26 x64 x66).f1) ((rd_T26 x64 x66).f2) ((rd_T26 x64 x66).f3) ((rd_T26 x64 x66).f4)) else (none)) else (none)) else (if (wrap64 ((x7.length : Int) + (x8.length : Int))) = (x0.length : Int) then ((handshakerlaw16_awake.f k).bind fun t460 => (some t460)) else (some false))
def handshakerlaw16_FilterSure.l2 : Nat → List (S26) → List (S98) → List (S26) → List Int → List Int → Bool → Bool → List (S26) → Int → Int → List Int → Int → Int → Int → Int → Int → List (S62) → List (S80) → Option (Bool)
 | 0, _, _, _, _, _, _, _, _, _, _, _, _, _, _, _, _, _, _ => none
 | k + 1, x0, x1, x7, x8, x12, x15, x16, x64, x65, x66, x70, x71, x72, x463000, x463001, x463002, x463003, x463004 => if x72 < x71 then (if 0 ≤ x72 then (if x72 < (x70.length : Int) then (if x15 = true then (handshakerlaw16_FilterSure.l2 k x0 x1 x7 x8 x12 true x16 x64 x65 x66 x70 x71 (wrap64 (x72 + 1)) x463000 x463001 x463002 x463003 x463004) else (handshakerlaw16_FilterSure.l2 k x0 x1 x7 x8 x12 ((rd x70 x72) == x463000) x16 x64 x65 x66 x70 x71 (wrap64 (x72 + 1)) x463000 x463001 x463002 x463003 x463004)) else (none)) else (none)) else (handshakerlaw16_FilterSure.l3 k x0 x1 x7 x8 x12 x15 x16 x64 x65 x66 x8 (x8.length : Int) 0 x463000 x463001 x463002 x463003 x463004)
def handshakerlaw16_FilterSure.l3 : Nat → List (S26) → List (S98) → List (S26) → List Int → List Int → Bool → Bool → List (S26) → Int → Int → List Int → Int → Int → Int → Int → Int → List (S62) → List (S80) → Option (Bool)
 | 0, _, _, _, _, _, _, _, _, _, _, _, _, _, _, _, _, _, _ => none
 | k + 1, x0, x1, x7, x8, x12, x15, x16, x64, x65, x66, x84, x85, x86, x463000, x463001, x463002, x463003, x463004 => if x86 < x85 then (if 0 ≤ x86 then (if x86 < (x84.length : Int) then (if x16 = true then (handshakerlaw16_FilterSure.l3 k x0 x1 x7 x8 x12 x15 true x64 x65 x66 x84 x85 (wrap64 (x86 + 1)) x463000 x463001 x463002 x463003 x463004) else (handshakerlaw16_FilterSure.l3 k x0 x1 x7 x8 x12 x15 ((rd x84 x86) == x463000) x64 x65 x66 x84 x85 (wrap64 (x86 + 1)) x463000 x463001 x463002 x463003 x463004)) else (none)) else (none)) else ((sleep_Find.f k x7 x463000).bind fun bt465 => (if x15 = true then ((filter_May.f k x463000 x463001 x463002 x463003 x463004 x1).bind fun t476 => (if x16 = true then (if t476 = true then (if bt465.2.2.2.2.2 = 0 then (some false) else (handshakerlaw16_FilterSure.l1 k x0 x1 x7 x8 x12 x64 x65 (wrap64 (x66 + 1)))) else (some false)) else (if t476 = true then (some false) else (if bt465.2.2.2.2.2 = 0 then (handshakerlaw16_FilterSure.l1 k x0 x1 x7 x8 x12 x64 x65 (wrap64 (x66 + 1))) else (some false))))) else (if x16 = true then (some false) else (if bt465.2.2.2.2.2 = 0 then (handshakerlaw16_FilterSure.l1 k x0 x1 x7 x8 x12 x64 x65 (wrap64 (x66 + 1))) else (some false)))))
end
def handshakerlaw16_FilterSure.f (k : Nat) (l0 : List (S26)) (l1 : List (S98)) (l2 : List (S62)) : Option (Bool) := (handshakerlaw15_Small.f k l0).bind fun t443 => (if t443 < 0 then (handshakerlaw16_FilterSure.j0 k l0 l1 l2 true) else (if (l1.length : Int) > 80 then (handshakerlaw16_FilterSure.j0 k l0 l1 l2 true) else (if (l2.length : Int) > 40 then (handshakerlaw16_FilterSure.j0 k l0 l1 l2 true) else ((sleep_Right.f k l0).bind fun t444 => (handshakerlaw16_FilterSure.j0 k l0 l1 l2 (!t444))))))
theorem handshakerlaw16_FilterSure.mono_l : ∀ k, (∀ y0 y1 y2 y3, LeO (handshakerlaw16_FilterSure.j0 k y0 y1 y2 y3) (handshakerlaw16_FilterSure.j0 (k + 1) y0 y1 y2 y3)) ∧ (∀ y0 y1 y2 y3 y4 y5 y6 y7, LeO (handshakerlaw16_FilterSure.l0 k y0 y1 y2 y3 y4 y5 y6 y7) (handshakerlaw16_FilterSure.l0 (k + 1) y0 y1 y2 y3 y4 y5 y6 y7)) ∧ (∀ y0 y1 y2 y3 y4 y5 y6 y7, LeO (handshakerlaw16_FilterSure.l1 k y0 y1 y2 y3 y4 y5 y6 y7) (handshakerlaw16_FilterSure.l1 (k + 1) y0 y1 y2 y3 y4 y5 y6 y7)) ∧ (∀ y0 y1 y2 y3 y4 y5 y6 y7 y8 y9 y10 y11 y12 y13 y14 y15 y16 y17, LeO (handshakerlaw16_FilterSure.l2 k y0 y1 y2 y3 y4 y5 y6 y7 y8 y9 y10 y11 y12 y13 y14 y15 y16 y17) (handshakerlaw16_FilterSure.l2 (k + 1) y0 y1 y2 y3 y4 y5 y6 y7 y8 y9 y10 y11 y12 y13 y14 y15 y16 y17)) ∧ (∀ y0 y1 y2 y3 y4 y5 y6 y7 y8 y9 y10 y11 y12 y13 y14 y15 y16 y17, LeO (handshakerlaw16_FilterSure.l3 k y0 y1 y2 y3 y4 y5 y6 y7 y8 y9 y10 y11 y12 y13 y14 y15 y16 y17) (handshakerlaw16_FilterSure.l3 (k + 1) y0 y1 y2 y3 y4 y5 y6 y7 y8 y9 y10 y11 y12 y13 y14 y15 y16 y17))
 | 0 => ⟨fun _ _ _ _ r h => by simp [handshakerlaw16_FilterSure.j0] at h, fun _ _ _ _ _ _ _ _ r h => by simp [handshakerlaw16_FilterSure.l0] at h, fun _ _ _ _ _ _ _ _ r h => by simp [handshakerlaw16_FilterSure.l1] at h, fun _ _ _ _ _ _ _ _ _ _ _ _ _ _ _ _ _ _ r h => by simp [handshakerlaw16_FilterSure.l2] at h, fun _ _ _ _ _ _ _ _ _ _ _ _ _ _ _ _ _ _ r h => by simp [handshakerlaw16_FilterSure.l3] at h⟩
 | k + 1 => by
  obtain ⟨ih0, ih1, ih2, ih3, ih4⟩ := handshakerlaw16_FilterSure.mono_l k
  refine ⟨?_, ?_, ?_, ?_, ?_⟩
  · intro y0 y1 y2 y3
    unfold handshakerlaw16_FilterSure.j0
    repeat' first
    | (with_reducible exact ih0 _ _ _ _)
    | (with_reducible exact ih1 _ _ _ _ _ _ _ _)
    | (with_reducible exact ih2 _ _ _ _ _ _ _ _)
    | (with_reducible exact ih3 _ _ _ _ _ _ _ _ _ _ _ _ _ _ _ _ _ _)
    | (with_reducible exact ih4 _ _ _ _ _ _ _ _ _ _ _ _ _ _ _ _ _ _)
    | (with_reducible exact filter_May.mono _ _ _ _ _ _ _)
    | (with_reducible exact filter_Wake.mono _ _ _ _)
    | (with_reducible exact handshakerlaw15_Small.mono _ _)
    | (with_reducible exact handshakerlaw16_awake.mono _)
    | (with_reducible exact sleep_Find.mono _ _ _)
    | (with_reducible exact sleep_Of.mono _ _ _)
    | (with_reducible exact sleep_Right.mono _ _)
    | (with_reducible exact LeO.refl _)
    | (with_reducible exact LeO.none _)
    | (with_reducible refine LeO.ite ?_ ?_)
    | (with_reducible refine LeO.bind ?_ (fun _ => ?_))
    | exact ih0 _ _ _ _
    | exact ih1 _ _ _ _ _ _ _ _
    | exact ih2 _ _ _ _ _ _ _ _
    | exact ih3 _ _ _ _ _ _ _ _ _ _ _ _ _ _ _ _ _ _
    | exact ih4 _ _ _ _ _ _ _ _ _ _ _ _ _ _ _ _ _ _
    | exact filter_May.mono _ _ _ _ _ _ _
    | exact filter_Wake.mono _ _ _ _
    | exact handshakerlaw15_Small.mono _ _
    | exact handshakerlaw16_awake.mono _
    | exact sleep_Find.mono _ _ _
    | exact sleep_Of.mono _ _ _
    | exact sleep_Right.mono _ _
    | exact LeO.none _
    | refine LeO.ite ?_ ?_
    | refine LeO.bind ?_ (fun _ => ?_)
  · intro y0 y1 y2 y3 y4 y5 y6 y7
    unfold handshakerlaw16_FilterSure.l0
    repeat' first
    | (with_reducible exact ih0 _ _ _ _)
    | (with_reducible exact ih1 _ _ _ _ _ _ _ _)
    | (with_reducible exact ih2 _ _ _ _ _ _ _ _)
    | (with_reducible exact ih3 _ _ _ _ _ _ _ _ _ _ _ _ _ _ _ _ _ _)
    | (with_reducible exact ih4 _ _ _ _ _ _ _ _ _ _ _ _ _ _ _ _ _ _)
    | (with_reducible exact filter_May.mono _ _ _ _ _ _ _)
    | (with_reducible exact filter_Wake.mono _ _ _ _)
    | (with_reducible exact handshakerlaw15_Small.mono _ _)
    | (with_reducible exact handshakerlaw16_awake.mono _)
    | (with_reducible exact sleep_Find.mono _ _ _)
    | (with_reducible exact sleep_Of.mono _ _ _)
    | (with_reducible exact sleep_Right.mono _ _)
    | (with_reducible exact LeO.refl _)
    | (with_reducible exact LeO.none _)
    | (with_reducible refine LeO.ite ?_ ?_)
    | (with_reducible refine LeO.bind ?_ (fun _ => ?_))
    | exact ih0 _ _ _ _
    | exact ih1 _ _ _ _ _ _ _ _
    | exact ih2 _ _ _ _ _ _ _ _
    | exact ih3 _ _ _ _ _ _ _ _ _ _ _ _ _ _ _ _ _ _
    | exact ih4 _ _ _ _ _ _ _ _ _ _ _ _ _ _ _ _ _ _
    | exact filter_May.mono _ _ _ _ _ _ _
    | exact filter_Wake.mono _ _ _ _
    | exact handshakerlaw15_Small.mono _ _
    | exact handshakerlaw16_awake.mono _
    | exact sleep_Find.mono _ _ _
    | exact sleep_Of.mono _ _ _
    | exact sleep_Right.mono _ _
    | exact LeO.none _
    | refine LeO.ite ?_ ?_
    | refine LeO.bind ?_ (fun _ => ?_)
  · intro y0 y1 y2 y3 y4 y5 y6 y7
    unfold handshakerlaw16_FilterSure.l1
    repeat' first
    | (with_reducible exact ih0 _ _ _ _)
    | (with_reducible exact ih1 _ _ _ _ _ _ _ _)
    | (with_reducible exact ih2 _ _ _ _ _ _ _ _)
    | (with_reducible exact ih3 _ _ _ _ _ _ _ _ _ _ _ _ _ _ _ _ _ _)
    | (with_reducible exact ih4 _ _ _ _ _ _ _ _ _ _ _ _ _ _ _ _ _ _)
    | (with_reducible exact filter_May.mono _ _ _ _ _ _ _)
    | (with_reducible exact filter_Wake.mono _ _ _ _)
    | (with_reducible exact handshakerlaw15_Small.mono _ _)
    | (with_reducible exact handshakerlaw16_awake.mono _)
    | (with_reducible exact sleep_Find.mono _ _ _)
    | (with_reducible exact sleep_Of.mono _ _ _)
    | (with_reducible exact sleep_Right.mono _ _)
    | (with_reducible exact LeO.refl _)
    | (with_reducible exact LeO.none _)
    | (with_reducible refine LeO.ite ?_ ?_)
    | (with_reducible refine LeO.bind ?_ (fun _ => ?_))
    | exact ih0 _ _ _ _
    | exact ih1 _ _ _ _ _ _ _ _
    | exact ih2 _ _ _ _ _ _ _ _
    | exact ih3 _ _ _ _ _ _ _ _ _ _ _ _ _ _ _ _ _ _
    | exact ih4 _ _ _ _ _ _ _ _ _ _ _ _ _ _ _ _ _ _
    | exact filter_May.mono _ _ _ _ _ _ _
    | exact filter_Wake.mono _ _ _ _
    | exact handshakerlaw15_Small.mono _ _
    | exact handshakerlaw16_awake.mono _
    | exact sleep_Find.mono _ _ _
    | exact sleep_Of.mono _ _ _
    | exact sleep_Right.mono _ _
    | exact LeO.none _
    | refine LeO.ite ?_ ?_
    | refine LeO.bind ?_ (fun _ => ?_)
  · intro y0 y1 y2 y3 y4 y5 y6 y7 y8 y9 y10 y11 y12 y13 y14 y15 y16 y17
    unfold handshakerlaw16_FilterSure.l2
    repeat' first
    | (with_reducible exact ih0 _ _ _ _)
    | (with_reducible exact ih1 _ _ _ _ _ _ _ _)
    | (with_reducible exact ih2 _ _ _ _ _ _ _ _)
    | (with_reducible exact ih3 _ _ _ _ _ _ _ _ _ _ _ _ _ _ _ _ _ _)
    | (with_reducible exact ih4 _ _ _ _ _ _ _ _ _ _ _ _ _ _ _ _ _ _)
    | (with_reducible exact filter_May.mono _ _ _ _ _ _ _)
    | (with_reducible exact filter_Wake.mono _ _ _ _)
    | (with_reducible exact handshakerlaw15_Small.mono _ _)
    | (with_reducible exact handshakerlaw16_awake.mono _)
    | (with_reducible exact sleep_Find.mono _ _ _)
    | (with_reducible exact sleep_Of.mono _ _ _)
    | (with_reducible exact sleep_Right.mono _ _)
    | (with_reducible exact LeO.refl _)
    | (with_reducible exact LeO.none _)
    | (with_reducible refine LeO.ite ?_ ?_)
    | (with_reducible refine LeO.bind ?_ (fun _ => ?_))
    | exact ih0 _ _ _ _
    | exact ih1 _ _ _ _ _ _ _ _
    | exact ih2 _ _ _ _ _ _ _ _
    | exact ih3 _ _ _ _ _ _ _ _ _ _ _ _ _ _ _ _ _ _
    | exact ih4 _ _ _ _ _ _ _ _ _ _ _ _ _ _ _ _ _ _
    | exact filter_May.mono _ _ _ _ _ _ _
    | exact filter_Wake.mono _ _ _ _
    | exact handshakerlaw15_Small.mono _ _
    | exact handshakerlaw16_awake.mono _
    | exact sleep_Find.mono _ _ _
    | exact sleep_Of.mono _ _ _
    | exact sleep_Right.mono _ _
    | exact LeO.none _
    | refine LeO.ite ?_ ?_
    | refine LeO.bind ?_ (fun _ => ?_)
  · intro y0 y1 y2 y3 y4 y5 y6 y7 y8 y9 y10 y11 y12 y13 y14 y15 y16 y17
    unfold handshakerlaw16_FilterSure.l3
    repeat' first
    | (with_reducible exact ih0 _ _ _ _)
    | (with_reducible exact ih1 _ _ _ _ _ _ _ _)
    | (with_reducible exact ih2 _ _ _ _ _ _ _ _)
    | (with_reducible exact ih3 _ _ _ _ _ _ _ _ _ _ _ _ _ _ _ _ _ _)
    | (with_reducible exact ih4 _ _ _ _ _ _ _ _ _ _ _ _ _ _ _ _ _ _)
    | (with_reducible exact filter_May.mono _ _ _ _ _ _ _)
    | (with_reducible exact filter_Wake.mono _ _ _ _)
    | (with_reducible exact handshakerlaw15_Small.mono _ _)
    | (with_reducible exact handshakerlaw16_awake.mono _)
    | (with_reducible exact sleep_Find.mono _ _ _)
    | (with_reducible exact sleep_Of.mono _ _ _)
    | (with_reducible exact sleep_Right.mono _ _)
    | (with_reducible exact LeO.refl _)
    | (with_reducible exact LeO.none _)
    | (with_reducible refine LeO.ite ?_ ?_)
    | (with_reducible refine LeO.bind ?_ (fun _ => ?_))
    | exact ih0 _ _ _ _
    | exact ih1 _ _ _ _ _ _ _ _
    | exact ih2 _ _ _ _ _ _ _ _
    | exact ih3 _ _ _ _ _ _ _ _ _ _ _ _ _ _ _ _ _ _
    | exact ih4 _ _ _ _ _ _ _ _ _ _ _ _ _ _ _ _ _ _
    | exact filter_May.mono _ _ _ _ _ _ _
    | exact filter_Wake.mono _ _ _ _
    | exact handshakerlaw15_Small.mono _ _
    | exact handshakerlaw16_awake.mono _
    | exact sleep_Find.mono _ _ _
    | exact sleep_Of.mono _ _ _
    | exact sleep_Right.mono _ _
    | exact LeO.none _
    | refine LeO.ite ?_ ?_
    | refine LeO.bind ?_ (fun _ => ?_)
theorem handshakerlaw16_FilterSure.mono : ∀ a0 a1 a2 k, LeO (handshakerlaw16_FilterSure.f k a0 a1 a2) (handshakerlaw16_FilterSure.f (k + 1) a0 a1 a2) := by
 intro a0 a1 a2 k
 obtain ⟨ih0, ih1, ih2, ih3, ih4⟩ := handshakerlaw16_FilterSure.mono_l k
 unfold handshakerlaw16_FilterSure.f
 repeat' first
  | (with_reducible exact ih0 _ _ _ _)
  | (with_reducible exact ih1 _ _ _ _ _ _ _ _)
  | (with_reducible exact ih2 _ _ _ _ _ _ _ _)
  | (with_reducible exact ih3 _ _ _ _ _ _ _ _ _ _ _ _ _ _ _ _ _ _)
  | (with_reducible exact ih4 _ _ _ _ _ _ _ _ _ _ _ _ _ _ _ _ _ _)
  | (with_reducible exact filter_May.mono _ _ _ _ _ _ _)
  | (with_reducible exact filter_Wake.mono _ _ _ _)
  | (with_reducible exact handshakerlaw15_Small.mono _ _)
  | (with_reducible exact handshakerlaw16_awake.mono _)
  | (with_reducible exact sleep_Find.mono _ _ _)
  | (with_reducible exact sleep_Of.mono _ _ _)
  | (with_reducible exact sleep_Right.mono _ _)
  | (with_reducible exact LeO.refl _)
  | (with_reducible exact LeO.none _)
  | (with_reducible refine LeO.ite ?_ ?_)
  | (with_reducible refine LeO.bind ?_ (fun _ => ?_))
  | exact ih0 _ _ _ _
  | exact ih1 _ _ _ _ _ _ _ _
  | exact ih2 _ _ _ _ _ _ _ _
  | exact ih3 _ _ _ _ _ _ _ _ _ _ _ _ _ _ _ _ _ _
  | exact ih4 _ _ _ _ _ _ _ _ _ _ _ _ _ _ _ _ _ _
  | exact filter_May.mono _ _ _ _ _ _ _
  | exact filter_Wake.mono _ _ _ _
  | exact handshakerlaw15_Small.mono _ _
  | exact handshakerlaw16_awake.mono _
  | exact sleep_Find.mono _ _ _
  | exact sleep_Of.mono _ _ _
  | exact sleep_Right.mono _ _
  | exact LeO.none _
  | refine LeO.ite ?_ ?_
  | refine LeO.bind ?_ (fun _ => ?_)
set_option maxHeartbeats 8000000 in
set_option maxRecDepth 100000 in
theorem handshakerlaw16_FilterSure.calls (k : Nat) (A0 : Option Addr) (c0 : Nat) (l0 : List (S26)) (A1 : Option Addr) (c1 : Nat) (l1 : List (S98)) (A2 : Option Addr) (c2 : Nat) (l2 : List (S62)) (r : Bool) (w : World) (HT : Aside0 (r = true)) (hr0 : Kd.C k26 w A0 l0.length l0) (hc0 : l0.length ≤ c0) (hr1 : Kd.C k98 w A1 l1.length l1) (hc1 : l1.length ≤ c1) (hr2 : Kd.C k62 w A2 l2.length l2) (hc2 : l2.length ≤ c2) (h : handshakerlaw16_FilterSure.f k l0 l1 l2 = some r) :
 Calls Try.prog 9 #[.slice A0 l0.length c0, .slice A1 l1.length c1, .slice A2 l2.length c2] w fun e w' => e = .returned (.bool r) ∧ Below w.heap.size w w' := by
 have hu62 := Try.underlying62
 have hu26 := Try.underlying26
 have HR0 := ak hr0
 have HC0 := ak hc0
 clear hr0 hc0
 have HR1 := ak hr1
 have HC1 := ak hc1
 clear hr1 hc1
 have HR2 := ak hr2
 have HC2 := ak hc2
 clear hr2 hc2
 have HB := ak (Below.refl w.heap.size w)
 have H : ((handshakerlaw15_Small.f k l0).bind fun t443 => (if t443 < 0 then (handshakerlaw16_FilterSure.j0 k l0 l1 l2 true) else (if (l1.length : Int) > 80 then (handshakerlaw16_FilterSure.j0 k l0 l1 l2 true) else (if (l2.length : Int) > 40 then (handshakerlaw16_FilterSure.j0 k l0 l1 l2 true) else ((sleep_Right.f k l0).bind fun t444 => (handshakerlaw16_FilterSure.j0 k l0 l1 l2 (!t444))))))) = some r := h
 clear h
 have HC4 := ak H
 clear H
 go_enter Try.func9, Try.ntmps9
 go_upto_region 1 with (fail)
 go_cut [40] (fun v40 wc => ∃ (kq : Nat) (x40_3 : Bool), v40 = .bool x40_3 ∧ Aside0 (handshakerlaw16_FilterSure.j0 kq l0 l1 l2 x40_3 = some r) ∧ Aside0 (kq ≤ k) ∧ Aside0 (Below w.heap.size w wc))
 case first =>
  have H := HC4.out
  clear HC4
  obtain ⟨t443, A5, H⟩ := bd_ H
  by_cases c6 : t443 < 0
  · rw [if_pos c6] at H
    have c6b0 : decide (t443 < 0) = true := decide_eq_true c6
    clear c6
    (first | rw [c6b0] | (simp only [i64_w, i32_w]; rw [c6b0]) | skip)
    have H' := ak H
    clear H
    go_wp2_with (first | ((with_reducible refine gate_callee (f := 14) rfl ?_); refine goesL_ (some 24) rfl rfl Try.func14 (by kernel_rfl) rfl #[.slice A0 l0.length c0] rfl mp_ ?_; (with_reducible refine (handshakerlaw15_Small.calls k _ _ l0 t443 _ ?side1 ?side2 A5.out).mono ?_); (case side1 => repeat (first | exact (Kd.C_below HR0.out HB.out) | with_reducible first | refine Kd.C_alloc ?_ _ | refine Kd.C_drewN ?_ _ | refine Kd.C_drew ?_)); (case side2 => exact HC0.out); rintro e w7 ⟨rfl, hb⟩; refine ⟨_, rfl, ?_⟩; replace HB := ak (bst_ hb); (try clear hb); (try clear hb2); (try clear hk); (try clear hi)))
    go_meet
    case rel => exact ⟨_, (true), (by first | rfl | (simp; done) | (simp [*]; done)), H', ⟨by first | omega | exact Nat.le_refl _⟩, ⟨bsv_⟩⟩
  · rw [if_neg c6] at H
    have c6b0 : decide (t443 < 0) = false := decide_eq_false c6
    clear c6
    (first | rw [c6b0] | (simp only [i64_w, i32_w]; rw [c6b0]) | skip)
    by_cases c8 : (l1.length : Int) > 80
    · rw [if_pos c8] at H
      have c8b0 : decide (80 < (l1.length : Int)) = true := decide_eq_true c8
      have c8b1 : decide (80 < l1.length) = true := decide_eq_true (by omega)
      clear c8
      have H' := ak H
      clear H
      go_wp2_with (first | ((with_reducible refine gate_callee (f := 14) rfl ?_); refine goesL_ (some 24) rfl rfl Try.func14 (by kernel_rfl) rfl #[.slice A0 l0.length c0] rfl mp_ ?_; (with_reducible refine (handshakerlaw15_Small.calls k _ _ l0 t443 _ ?side1 ?side2 A5.out).mono ?_); (case side1 => repeat (first | exact (Kd.C_below HR0.out HB.out) | with_reducible first | refine Kd.C_alloc ?_ _ | refine Kd.C_drewN ?_ _ | refine Kd.C_drew ?_)); (case side2 => exact HC0.out); rintro e w9 ⟨rfl, hb⟩; refine ⟨_, rfl, ?_⟩; replace HB := ak (bst_ hb); (try clear hb); (try clear hb2); (try clear hk); (try clear hi)))
      go_meet
      case rel => exact ⟨_, (true), (by first | rfl | (simp; done) | (simp [*]; done)), H', ⟨by first | omega | exact Nat.le_refl _⟩, ⟨bsv_⟩⟩
    · rw [if_neg c8] at H
      have c8b0 : decide (80 < (l1.length : Int)) = false := decide_eq_false c8
      have c8b1 : decide (80 < l1.length) = false := decide_eq_false (by omega)
      clear c8
      by_cases c10 : (l2.length : Int) > 40
      · rw [if_pos c10] at H
        have c10b0 : decide (40 < (l2.length : Int)) = true := decide_eq_true c10
        have c10b1 : decide (40 < l2.length) = true := decide_eq_true (by omega)
        clear c10
        have H' := ak H
        clear H
        go_wp2_with (first | ((with_reducible refine gate_callee (f := 14) rfl ?_); refine goesL_ (some 24) rfl rfl Try.func14 (by kernel_rfl) rfl #[.slice A0 l0.length c0] rfl mp_ ?_; (with_reducible refine (handshakerlaw15_Small.calls k _ _ l0 t443 _ ?side1 ?side2 A5.out).mono ?_); (case side1 => repeat (first | exact (Kd.C_below HR0.out HB.out) | with_reducible first | refine Kd.C_alloc ?_ _ | refine Kd.C_drewN ?_ _ | refine Kd.C_drew ?_)); (case side2 => exact HC0.out); rintro e w11 ⟨rfl, hb⟩; refine ⟨_, rfl, ?_⟩; replace HB := ak (bst_ hb); (try clear hb); (try clear hb2); (try clear hk); (try clear hi)))
        go_meet
        case rel => exact ⟨_, (true), (by first | rfl | (simp; done) | (simp [*]; done)), H', ⟨by first | omega | exact Nat.le_refl _⟩, ⟨bsv_⟩⟩
      · rw [if_neg c10] at H
        have c10b0 : decide (40 < (l2.length : Int)) = false := decide_eq_false c10
        have c10b1 : decide (40 < l2.length) = false := decide_eq_false (by omega)
        clear c10
        obtain ⟨t444, A12, H⟩ := bd_ H
        have H' := ak H
        clear H
        go_wp2_with (first | ((with_reducible refine gate_callee (f := 14) rfl ?_); refine goesL_ (some 24) rfl rfl Try.func14 (by kernel_rfl) rfl #[.slice A0 l0.length c0] rfl mp_ ?_; (with_reducible refine (handshakerlaw15_Small.calls k _ _ l0 t443 _ ?side1 ?side2 A5.out).mono ?_); (case side1 => repeat (first | exact (Kd.C_below HR0.out HB.out) | with_reducible first | refine Kd.C_alloc ?_ _ | refine Kd.C_drewN ?_ _ | refine Kd.C_drew ?_)); (case side2 => exact HC0.out); rintro e w13 ⟨rfl, hb⟩; refine ⟨_, rfl, ?_⟩; replace HB := ak (bst_ hb); (try clear hb); (try clear hb2); (try clear hk); (try clear hi)) | (go_at_call 26; (with_reducible refine (sleep_Right.calls k _ _ l0 t444 _ ?side1 ?side2 A12.out).mono ?_); (case side1 => repeat (first | exact (Kd.C_below HR0.out HB.out) | with_reducible first | refine Kd.C_alloc ?_ _ | refine Kd.C_drewN ?_ _ | refine Kd.C_drew ?_)); (case side2 => exact HC0.out); rintro e w14 ⟨rfl, hb⟩; replace HB := ak (bst_ hb); (try clear hb); (try clear hb2); (try clear hk); (try clear hi)))
        go_meet
        case rel => exact ⟨_, (!t444), (by first | rfl | (simp; done) | (simp [*]; done)), H', ⟨by first | omega | exact Nat.le_refl _⟩, ⟨bsv_⟩⟩
 case rest =>
  clear HC4
  try clear c1
  try clear c2
  try clear p2
  try clear c6
  try clear c6b0
  try clear c8
  try clear c8b0
  try clear c8b1
  try clear c9
  try clear c10
  try clear c10b0
  try clear c10b1
  try clear c14
  obtain ⟨kq, x40_3, rfl, HA, HJ3, HB⟩ := hcut
  cases kq with
  | zero => exact absurd HA.out (by simp [handshakerlaw16_FilterSure.j0])
  | succ kj3 =>
   have H := HA.out
   clear HA
   simp only [handshakerlaw16_FilterSure.j0] at H
   by_cases c15 : x40_3 = true
   · subst c15
     rw [if_pos rfl] at H
     obtain ⟨t445, A16, H⟩ := bd_ H
     obtain rfl := Option.some.inj H
     go_wp2_with (first | ((with_reducible refine gate_callee (f := 35) rfl ?_); refine goesL_ (some 41) rfl rfl Try.func35 (by kernel_rfl) rfl #[] rfl mp_ ?_; (with_reducible refine (handshakerlaw16_awake.calls kj3  t445 _ A16.out).mono ?_); rintro e w17 ⟨rfl, hb⟩; refine ⟨_, rfl, ?_⟩; replace HB := ak (bst_ hb); (try clear hb); (try clear hb2); (try clear hk); (try clear hi)))
     go_ret
     exact ⟨by first | rfl | (simp [errW_none, errW_some] <;> rfl) | (simp [*, errW_none, errW_some] <;> rfl), bsv_⟩
   · replace c15 := Bool.eq_false_iff.mpr c15
     subst c15
     rw [if_neg (show ¬ (false = true) by decide)] at H
     replace H := Option.bind_eq_some_iff.mp H
     obtain ⟨⟨t446, t449⟩, A180, H⟩ := H
     have A18 := ak A180
     clear A180
     have H' := ak H
     clear H
     go_wp2_with (first | ((with_reducible refine gate_callee (f := 36) rfl ?_); refine goesL_ (some 46) rfl rfl Try.func36 (by kernel_rfl) rfl #[.slice A0 l0.length c0, .slice A1 l1.length c1, .slice A2 l2.length c2] rfl mp_ ?_; (with_reducible refine (filter_Wake.calls kj3 (fun k_ => k_ < w.heap.size) _ _ l0 _ _ l1 _ _ l2 t446 t449 _ ?side1 ?side2 ?side3 ?side4 ?side5 A18.out).mono ?_); (case side1 => exact Kd.V_mk HC0.out (Kd.F_below (Kd.C_F k26_heap HR0.out) bsv_)); (case side2 => repeat (first | exact (Kd.C_below HR1.out HB.out) | with_reducible first | refine Kd.C_alloc ?_ _ | refine Kd.C_drewN ?_ _ | refine Kd.C_drew ?_)); (case side3 => exact HC1.out); (case side4 => repeat (first | exact (Kd.C_below HR2.out HB.out) | with_reducible first | refine Kd.C_alloc ?_ _ | refine Kd.C_drewN ?_ _ | refine Kd.C_drew ?_)); (case side5 => exact HC2.out); rintro e w19 ⟨v447, v450, rfl, ho0, ho1, hb⟩; refine ⟨_, rfl, ?_⟩; replace HO448 := ak (Kd.V_lower (Kd.V_mono (ok' := fun k_ => some k_ ≠ (v450 : Value).ownBlock) ho0 (fun k_ hk_ => hk_.2)) bsz_); replace HO451 := ak (Kd.R_lower (Kd.R_mono (ok' := fun k_ => True) ho1 (fun _ hk_ => trivial)) bsz_); replace HB := ak (bst_ hb); (try clear hb); (try clear hb2); (try clear hk); (try clear hi); (try clear ho0); (try clear ho1)))
     go_loopg [9, 51] kj3 (fun kq v9 v51 w' => ∃ (x9_2 : List Int) (x51_2 : Int), v51 = .int .i64 x51_2 ∧ Aside0 (handshakerlaw16_FilterSure.l0 kq l0 l1 t446 t449 x9_2 l2 (l2.length : Int) x51_2 = some r) ∧ Aside0 (kq ≤ kj3) ∧ Aside0 (Kd.V k26 26 w' w.heap.size (fun k_ => some k_ ≠ (v450 : Value).ownBlock ∧ some k_ ≠ (v9 : Value).ownBlock) v447 t446) ∧ Aside0 (Kd.R (Kd.int .i64) 3 w' w.heap.size (fun k_ => some k_ ≠ (v9 : Value).ownBlock) v450 t449) ∧ Aside0 (Kd.R (Kd.int .i64) 3 w' w.heap.size (fun k_ => some k_ ≠ (v450 : Value).ownBlock) v9 x9_2) ∧ Aside0 (Below w.heap.size w w'))
     case atStart => exact ⟨(([] : List Int)), (0), (by first | rfl | (simp; done) | (simp [*]; done)), H', ⟨Nat.le_refl _⟩, ⟨Kd.V_mono (vq_ HO448) (fun _ hk => ⟨hk, (by simp [Value.ownBlock])⟩)⟩, ⟨Kd.R_mono (rq_ HO451) (fun _ hk => (by simp [Value.ownBlock]))⟩, ⟨by first | exact Kd.R_nil _ _ _ _ _ | exact Kd.N_nil _ _ _ _ _ | exact Kd.V_nil _ _ _ _ _ | exact Kd.Q_nil _ _ _ _ _ | exact Kd.S_nil _ _ _ _ _⟩, ⟨bsv_⟩⟩
     case round =>
      clear H'
      try clear c1
      try clear c2
      try clear p2
      try clear c3
      try clear c6
      try clear c6b0
      try clear c8
      try clear c8b0
      try clear c8b1
      try clear c9
      try clear c10
      try clear c10b0
      try clear c10b1
      try clear c14
      try clear c15
      try clear p2
      obtain ⟨x9_2, x51_2, rfl, HA, HK2, HO_7, HO_8, HO_9, HB⟩ := hrel
      cases gk with
      | zero => exact absurd HA.out (by simp [handshakerlaw16_FilterSure.l0])
      | succ k2 =>
       have H := HA.out
       clear HA
       simp only [handshakerlaw16_FilterSure.l0] at H
       by_cases c20 : x51_2 < (l2.length : Int)
       · rw [if_pos c20] at H
         have c20b0 : decide (x51_2 < (l2.length : Int)) = true := decide_eq_true c20
         clear c20
         by_cases c21 : 0 ≤ x51_2
         · rw [if_pos c21] at H
           have c21b0 : decide (0 ≤ x51_2) = true := decide_eq_true c21
           clear c21
           by_cases c22 : x51_2 < (l2.length : Int)
           · rw [if_pos c22] at H
             have c22b0 : decide (x51_2 < (l2.length : Int)) = true := decide_eq_true c22
             clear c22
             by_cases c23 : x9_2.length < 17592186044416
             · rw [if_pos c23] at H
               have LMc23 := ak c23
               clear c23
               obtain ⟨y454, hy454⟩ : ∃ y_ : List Int, y_ = (x9_2 ++ [(rd_T62 l2 x51_2).f0]) := ⟨_, rfl⟩
               replace H : (handshakerlaw16_FilterSure.l0 k2 l0 l1 t446 t449 y454 l2 (l2.length : Int) (wrap64 (x51_2 + 1))) = some r := by first | (rw [hy454]; with_reducible exact H) | (have H2_ := (Option.bind_some _ _).symm.trans H; rw [hy454]; with_reducible exact H2_) | (have H2_ := (Option.bind_some _ _).symm.trans H; with_reducible exact H2_) | with_reducible exact H | (rw [hy454]; exact H) | exact H
               have Ny454 := ak hy454
               clear hy454
               have H' := ak H
               clear H
               have p452 : 0 ≤ (x51_2 : Int) := oda_
               have q452 : x51_2 < (l2.length : Int) := oda_
               obtain ⟨ad452, e452, hx452_0, hx452_1⟩ := at_T62 HR2.out x51_2 p452 q452
               cases e452
               replace hx452_0 := bl_ HB hx452_0
               replace hx452_1 := bl_ HB hx452_1
               replace p452 := eq_true p452
               replace q452 := eq_true q452
               go_wp2_with (first | ((with_reducible refine gate_dst (N := 11) rfl ?_); (try (refine gate_guard (by rfl) ?_; dsimp only)); refine box_event ?hg (N := 11) ?hd (cs := #[.int .i64 0, .int .i64 0]) (t := 62) ?hr ?_; (case hd => rfl); (case hg => rfl); (case hr => first | (go_simp; done) | (go_simp; rfl)); intro gb453 hg w24 hbox hb; replace HO_7 := ak (Kd.V_below (Kd.V_elderB (vq_ HO_7) gb453 (Nat.le_of_eq hg.symm)) hb); replace HO_8 := rb_ HO_8 hb; replace HO_9 := rb_ HO_9 hb; replace BK453 := ak (hbox); replace GW453 := ak ((by rw [hg]; exact bsz_ : w.heap.size ≤ gb453)); replace HB := ak (bst_ hb); replace GE453 := GW453; clear hb hbox hg; obtain ⟨hcz25_0, hcz25_1, hfz25_0, hfz25_1⟩ := bz2_ BK453) | ((with_reducible refine gate_builtin (b := .append) (xs := #[.tmp 55, .tmp 58]) rfl ?_); (try (refine gate_guard (by rfl) ?_; dsimp only)); at_builtin; refine Kd.R_append (Kd.int .i64) (w0 := w) w.heap.size rfl (.tmp 55) (.tmp 58) 27 3 (.int .i64 0) 8 rfl Try.underlying27 info3 rfl (by decide) (by omega) u9 x9_2 ((rd_T62 l2 x51_2).f0) [.int .i64 ((rd_T62 l2 x51_2).f0)] (fun k_ => some k_ ≠ (v450 : Value).ownBlock) (fun _ => False) rfl (by first | (go_simp; done) | (go_simp; rfl)) ?aP (fun _ hk => hk.elim) ?aF ?aO ?aB ?aS ?aL ?_; (case aP => exact rfl); (case aB => exact bsw_); (case aF => exact (fun k_ hk => Kd.fresh' (Kd.R_lt (by (with_reducible repeat (first | apply Kd.R_alloc | apply Kd.R_drewN | apply Kd.R_drew)); exact (Kd.R_mono (Kd.R_far (p := ⟨gb453, 1, none⟩) (Kd.R_far (p := ⟨gb453, 0, none⟩) (Kd.R_types HO_8.out BK453.out (by decide)) (fun _ hk => hk.2) (.int .i64 ((rd_T62 l2 x51_2).f0))) (fun _ hk => hk.2) (.int .i64 ((rd_T62 l2 x51_2).f1))) (fun _ h_ => h_.1)))) k_ hk)); (case aO => exact (by (with_reducible repeat (first | apply Kd.R_alloc | apply Kd.R_drewN | apply Kd.R_drew)); exact Kd.R_mono (Kd.R_far (p := ⟨gb453, 1, none⟩) (Kd.R_far (p := ⟨gb453, 0, none⟩) (Kd.R_types HO_9.out BK453.out (by decide)) (fun _ hk => hk.2) (.int .i64 ((rd_T62 l2 x51_2).f0))) (fun _ hk => hk.2) (.int .i64 ((rd_T62 l2 x51_2).f1))) (fun _ hk => hk.1))); (case aS => exact (below_size bsw_)); (case aL => have := LMc23.out; omega); intro v455 w26 ho hb hg hat; rw [← Ny454.out] at ho; replace HO_7 := ak (Kd.V_afterv (ok := (fun k_ => some k_ ≠ (v450 : Value).ownBlock ∧ k_ ≠ gb453)) (by (with_reducible repeat (first | apply Kd.V_alloc | apply Kd.V_drewN | apply Kd.V_drew)); exact Kd.V_mono (Kd.V_far (p := ⟨gb453, 1, none⟩) (Kd.V_far (p := ⟨gb453, 0, none⟩) (Kd.V_mono HO_7.out (fun k_ hk => (⟨hk, hk.2⟩ : _ ∧ k_ ≠ gb453))) (fun _ hk => hk.2) (.int .i64 ((rd_T62 l2 x51_2).f0))) (fun _ hk => hk.2) (.int .i64 ((rd_T62 l2 x51_2).f1))) (fun _ hk => ⟨⟨hk.1.1.1, hk.1.2⟩, hk.1.1.2⟩)) hg hat); replace HO_8 := ak (Kd.R_after (ok := (fun _ => True)) (by (with_reducible repeat (first | apply Kd.R_alloc | apply Kd.R_drewN | apply Kd.R_drew)); exact Kd.R_mono (Kd.R_far (p := ⟨gb453, 1, none⟩) (Kd.R_far (p := ⟨gb453, 0, none⟩) (Kd.R_types HO_8.out BK453.out (by decide)) (fun _ hk => hk.2) (.int .i64 ((rd_T62 l2 x51_2).f0))) (fun _ hk => hk.2) (.int .i64 ((rd_T62 l2 x51_2).f1))) (fun _ hk => ⟨trivial, hk.1⟩)) hg hat); replace BK453 := ak (blk_grown (g := gb453) (o := .cells #[.int .i64 ((rd_T62 l2 x51_2).f0), .int .i64 ((rd_T62 l2 x51_2).f1)] 62 (0, 0)) (by (with_reducible repeat (first | refine blk_drewN ?_ _ | refine blk_drew ?_ | refine blk_alloc ?_ _)); refine blk_put (cs := #[.int .i64 ((rd_T62 l2 x51_2).f0), .int .i64 0]) ?_ 1 _ rfl; (with_reducible repeat (first | refine blk_drewN ?_ _ | refine blk_drew ?_ | refine blk_alloc ?_ _)); refine blk_put (cs := #[.int .i64 0, .int .i64 0]) ?_ 0 _ rfl; (with_reducible repeat (first | refine blk_drewN ?_ _ | refine blk_drew ?_ | refine blk_alloc ?_ _)); exact BK453.out) hg (Kd.R_ne HO_9.out BK453.out (by decide))); replace HB := ak (hb); replace HO456 := ak (ho); clear HO_9; clear ho hb hg hat))
               go_roundg k2
               case measure => have := HJ3.out; have := HK2.out; omega
               case rel => exact ⟨(y454), (wrap64 (x51_2 + 1)), (by first | rfl | (simp; done) | (simp [*]; done)), H', ⟨by have := HJ3.out; have := HK2.out; omega⟩, ⟨Kd.V_mono (vq_ HO_7) (fun _ hk => ⟨hk.1.1, hk.2⟩)⟩, ⟨Kd.R_mono (rq_ HO_8) (fun _ hk => hk.2)⟩, ⟨rq_ HO456⟩, ⟨bsw_⟩⟩
             · rw [if_neg c23] at H
               exact absurd H (by simp)
           · rw [if_neg c22] at H
             exact absurd H (by simp)
         · rw [if_neg c21] at H
           exact absurd H (by simp)
       · rw [if_neg c20] at H
         have c20b0 : decide (x51_2 < (l2.length : Int)) = false := decide_eq_false c20
         clear c20
         obtain ⟨t457, A27, H⟩ := bd_ H
         have H' := ak H
         clear H
         obtain ⟨Ao28, co28, eo28⟩ := Kd.R_slice HO_9.out
         subst eo28
         go_wp2_with (first | ((with_reducible refine gate_callee (f := 29) rfl ?_); refine goesL_ (some 63) rfl rfl Try.func29 (by kernel_rfl) rfl #[.slice A0 l0.length c0, .slice Ao28 x9_2.length co28] rfl mp_ ?_; (with_reducible refine (sleep_Of.calls k2 _ _ l0 _ _ x9_2 t457 _ ?side1 ?side2 ?side3 ?side4 A27.out).mono ?_); (case side1 => repeat (first | exact (Kd.C_below HR0.out HB.out) | with_reducible first | refine Kd.C_alloc ?_ _ | refine Kd.C_drewN ?_ _ | refine Kd.C_drew ?_)); (case side2 => exact HC0.out); (case side3 => repeat (first | exact (Kd.R_reads' HO_9.out).2.2 | with_reducible first | refine Kd.C_alloc ?_ _ | refine Kd.C_drewN ?_ _ | refine Kd.C_drew ?_)); (case side4 => exact (Kd.R_reads' HO_9.out).2.1); rintro e w29 ⟨v458, rfl, ho0, hb⟩; refine ⟨_, rfl, ?_⟩; replace HO_7 := ak (Kd.V_elder' (vq_ HO_7) (Kd.R_base ho0) hb); replace HO459 := ak (Kd.R_lower (Kd.R_new' (Kd.R_new' ho0 (Kd.R_lt (rq_ HO_8))) (Kd.R_lt (rq_ HO_9))) bsz_); replace HO_8 := ak (Kd.R_elder' (rq_ HO_8) (Kd.R_base ho0) hb); replace HO_9 := ak (Kd.R_elder' (rq_ HO_9) (Kd.R_base ho0) hb); replace HB := ak (bst_ hb); (try clear hb); (try clear hb2); (try clear hk); (try clear hi); (try clear ho0)))
         go_loopg [66] k2 (fun kq v66 w' => ∃ (x66_3 : Int), v66 = .int .i64 x66_3 ∧ Aside0 (handshakerlaw16_FilterSure.l1 kq l0 l1 t446 t449 t457 l0 (l0.length : Int) x66_3 = some r) ∧ Aside0 (kq ≤ k2) ∧ Aside0 (Kd.V k26 26 w' w.heap.size (fun k_ => some k_ ≠ (v450 : Value).ownBlock ∧ some k_ ≠ (v458 : Value).ownBlock) v447 t446) ∧ Aside0 (Kd.R (Kd.int .i64) 3 w' w.heap.size (fun k_ => some k_ ≠ (v458 : Value).ownBlock) v450 t449) ∧ Aside0 (Kd.R (Kd.int .i64) 3 w' w.heap.size (fun k_ => some k_ ≠ (v450 : Value).ownBlock) v458 t457) ∧ Aside0 (Below w.heap.size w w'))
         case atStart => exact ⟨(0), (by first | rfl | (simp; done) | (simp [*]; done)), H', ⟨Nat.le_refl _⟩, ⟨Kd.V_mono (vq_ HO_7) (fun _ hk => ⟨hk.1.1, hk.2⟩)⟩, ⟨Kd.R_mono (rq_ HO_8) (fun _ hk => hk.2)⟩, ⟨Kd.R_mono (rq_ HO459) (fun _ hk => hk.1.2)⟩, ⟨bsv_⟩⟩
         case round =>
          clear H'
          try clear c1
          try clear c2
          try clear p2
          try clear c3
          try clear p4
          try clear q4
          try clear hx4
          try clear c6
          try clear c6b0
          try clear p6
          try clear c8
          try clear c8b0
          try clear c8b1
          try clear c9
          try clear c10
          try clear c10b0
          try clear c10b1
          try clear c14
          try clear c15
          try clear c20
          try clear c20b0
          try clear c21
          try clear c21b0
          try clear c22
          try clear c22b0
          try clear c23
          try clear c29
          try clear hcz25_0
          try clear hcz25_1
          try clear hfz25_0
          try clear hfz25_1
          try clear hx452_0
          try clear hx452_1
          try clear p2
          try clear p452
          try clear q452
          obtain ⟨x66_3, rfl, HA, HK3, HO_7, HO_8, HO_12, HB⟩ := hrel
          cases gk with
          | zero => exact absurd HA.out (by simp [handshakerlaw16_FilterSure.l1])
          | succ k3 =>
           have H := HA.out
           clear HA
           simp only [handshakerlaw16_FilterSure.l1] at H
           by_cases c30 : x66_3 < (l0.length : Int)
           · rw [if_pos c30] at H
             have c30b0 : decide (x66_3 < (l0.length : Int)) = true := decide_eq_true c30
             clear c30
             by_cases c31 : 0 ≤ x66_3
             · rw [if_pos c31] at H
               have c31b0 : decide (0 ≤ x66_3) = true := decide_eq_true c31
               clear c31
               by_cases c32 : x66_3 < (l0.length : Int)
               · rw [if_pos c32] at H
                 have c32b0 : decide (x66_3 < (l0.length : Int)) = true := decide_eq_true c32
                 clear c32
                 have H' := ak H
                 clear H
                 have p461 : 0 ≤ (x66_3 : Int) := oda_
                 have q461 : x66_3 < (l0.length : Int) := oda_
                 obtain ⟨ad461, A461_3, c461_3, A461_4, c461_4, e461, hx461_0, hx461_1, hx461_2, hx461_3, hx461_4, hl461_3, hi461_3, hl461_4, hi461_4⟩ := at_T26 HR0.out x66_3 p461 q461
                 cases e461
                 replace hx461_0 := bl_ HB hx461_0
                 replace hx461_1 := bl_ HB hx461_1
                 replace hx461_2 := bl_ HB hx461_2
                 replace hx461_3 := bl_ HB hx461_3
                 replace hx461_4 := bl_ HB hx461_4
                 have HR461_3 := ak hi461_3
                 have HC461_3 := ak hl461_3
                 clear hi461_3 hl461_3
                 have HR461_4 := ak hi461_4
                 have HC461_4 := ak hl461_4
                 clear hi461_4 hl461_4
                 replace p461 := eq_true p461
                 replace q461 := eq_true q461
                 go_wp2_with (first | ((with_reducible refine gate_dst (N := 14) rfl ?_); (try (refine gate_guard (by rfl) ?_; dsimp only)); refine box_event ?hg (N := 14) ?hd (cs := #[.int .i64 0, .int .i64 0, .int .i64 0, .slice none 0 0, .slice none 0 0]) (t := 26) ?hr ?_; (case hd => rfl); (case hg => rfl); (case hr => first | (go_simp; done) | (go_simp; rfl)); intro gb462 hg w33 hbox hb; replace HO_7 := ak (Kd.V_below (Kd.V_elderB (vq_ HO_7) gb462 (Nat.le_of_eq hg.symm)) hb); replace HO_8 := rb_ HO_8 hb; replace HO_12 := rb_ HO_12 hb; replace BK462 := ak (hbox); replace GW462 := ak ((by rw [hg]; exact bsz_ : w.heap.size ≤ gb462)); replace HB := ak (bst_ hb); replace GE462 := GW462; clear hb hbox hg; obtain ⟨hcz34_0, hcz34_1, hcz34_2, hcz34_3, hcz34_4, hfz34_0, hfz34_1, hfz34_2, hfz34_3, hfz34_4⟩ := bz5_ BK462; obtain ⟨Ao35, co35, eo35⟩ := Kd.R_slice HO_12.out; subst eo35))
                 go_loopg [15, 72] k3 (fun kq v15 v72 w' => ∃ (x15_4 : Bool) (x72_4 : Int), v15 = .bool x15_4 ∧ v72 = .int .i64 x72_4 ∧ Aside0 (handshakerlaw16_FilterSure.l2 kq l0 l1 t446 t449 t457 x15_4 false l0 (l0.length : Int) x66_3 t457 (t457.length : Int) x72_4 ((rd_T26 l0 x66_3).f0) ((rd_T26 l0 x66_3).f1) ((rd_T26 l0 x66_3).f2) ((rd_T26 l0 x66_3).f3) ((rd_T26 l0 x66_3).f4) = some r) ∧ Aside0 (kq ≤ k3) ∧ Aside0 (Kd.V k26 26 w' w.heap.size (fun k_ => some k_ ≠ (v450 : Value).ownBlock ∧ some k_ ≠ ((.slice Ao35 t457.length co35) : Value).ownBlock ∧ some k_ ≠ ((.slice Ao35 t457.length co35) : Value).ownBlock ∧ k_ ≠ gb462) v447 t446) ∧ Aside0 (Kd.R (Kd.int .i64) 3 w' w.heap.size (fun k_ => some k_ ≠ ((.slice Ao35 t457.length co35) : Value).ownBlock ∧ some k_ ≠ ((.slice Ao35 t457.length co35) : Value).ownBlock) v450 t449) ∧ Aside0 (Kd.R (Kd.int .i64) 3 w' w.heap.size (fun k_ => some k_ ≠ (v450 : Value).ownBlock) (.slice Ao35 t457.length co35) t457) ∧ Aside0 (Kd.R (Kd.int .i64) 3 w' w.heap.size (fun k_ => some k_ ≠ (v450 : Value).ownBlock) (.slice Ao35 t457.length co35) t457) ∧ Aside0 (w'.heap[gb462]? = some (.cells #[.int .i64 ((rd_T26 l0 x66_3).f0), .int .i64 ((rd_T26 l0 x66_3).f1), .int .i64 ((rd_T26 l0 x66_3).f2), (.slice A461_3 ((rd_T26 l0 x66_3).f3).length c461_3), (.slice A461_4 ((rd_T26 l0 x66_3).f4).length c461_4)] 26 (0, 0))) ∧ Aside0 (Below w.heap.size w w'))
                 case atStart => exact ⟨(false), (0), (by first | rfl | (simp; done) | (simp [*]; done)), (by first | rfl | (simp; done) | (simp [*]; done)), H', ⟨Nat.le_refl _⟩, ⟨by (with_reducible repeat (first | apply Kd.V_alloc | apply Kd.V_drewN | apply Kd.V_drew)); exact Kd.V_mono (Kd.V_far (p := ⟨gb462, 4, none⟩) (Kd.V_far (p := ⟨gb462, 3, none⟩) (Kd.V_far (p := ⟨gb462, 2, none⟩) (Kd.V_far (p := ⟨gb462, 1, none⟩) (Kd.V_far (p := ⟨gb462, 0, none⟩) (Kd.V_mono HO_7.out (fun k_ hk => (⟨hk, hk.2⟩ : _ ∧ k_ ≠ gb462))) (fun _ hk => hk.2) (.int .i64 ((rd_T26 l0 x66_3).f0))) (fun _ hk => hk.2) (.int .i64 ((rd_T26 l0 x66_3).f1))) (fun _ hk => hk.2) (.int .i64 ((rd_T26 l0 x66_3).f2))) (fun _ hk => hk.2) (.slice A461_3 ((rd_T26 l0 x66_3).f3).length c461_3)) (fun _ hk => hk.2) (.slice A461_4 ((rd_T26 l0 x66_3).f4).length c461_4)) (fun _ hk => ⟨hk.1.1.1, ⟨hk.1.1.2, ⟨hk.1.1.2, hk.1.2⟩⟩⟩)⟩, ⟨by (with_reducible repeat (first | apply Kd.R_alloc | apply Kd.R_drewN | apply Kd.R_drew)); exact Kd.R_mono (Kd.R_far (p := ⟨gb462, 4, none⟩) (Kd.R_far (p := ⟨gb462, 3, none⟩) (Kd.R_far (p := ⟨gb462, 2, none⟩) (Kd.R_far (p := ⟨gb462, 1, none⟩) (Kd.R_far (p := ⟨gb462, 0, none⟩) (Kd.R_types HO_8.out BK462.out (by decide)) (fun _ hk => hk.2) (.int .i64 ((rd_T26 l0 x66_3).f0))) (fun _ hk => hk.2) (.int .i64 ((rd_T26 l0 x66_3).f1))) (fun _ hk => hk.2) (.int .i64 ((rd_T26 l0 x66_3).f2))) (fun _ hk => hk.2) (.slice A461_3 ((rd_T26 l0 x66_3).f3).length c461_3)) (fun _ hk => hk.2) (.slice A461_4 ((rd_T26 l0 x66_3).f4).length c461_4)) (fun _ hk => ⟨hk.1, hk.1⟩)⟩, ⟨by (with_reducible repeat (first | apply Kd.R_alloc | apply Kd.R_drewN | apply Kd.R_drew)); exact Kd.R_mono (Kd.R_far (p := ⟨gb462, 4, none⟩) (Kd.R_far (p := ⟨gb462, 3, none⟩) (Kd.R_far (p := ⟨gb462, 2, none⟩) (Kd.R_far (p := ⟨gb462, 1, none⟩) (Kd.R_far (p := ⟨gb462, 0, none⟩) (Kd.R_types HO_12.out BK462.out (by decide)) (fun _ hk => hk.2) (.int .i64 ((rd_T26 l0 x66_3).f0))) (fun _ hk => hk.2) (.int .i64 ((rd_T26 l0 x66_3).f1))) (fun _ hk => hk.2) (.int .i64 ((rd_T26 l0 x66_3).f2))) (fun _ hk => hk.2) (.slice A461_3 ((rd_T26 l0 x66_3).f3).length c461_3)) (fun _ hk => hk.2) (.slice A461_4 ((rd_T26 l0 x66_3).f4).length c461_4)) (fun _ hk => hk.1)⟩, ⟨by (with_reducible repeat (first | apply Kd.R_alloc | apply Kd.R_drewN | apply Kd.R_drew)); exact Kd.R_mono (Kd.R_far (p := ⟨gb462, 4, none⟩) (Kd.R_far (p := ⟨gb462, 3, none⟩) (Kd.R_far (p := ⟨gb462, 2, none⟩) (Kd.R_far (p := ⟨gb462, 1, none⟩) (Kd.R_far (p := ⟨gb462, 0, none⟩) (Kd.R_types HO_12.out BK462.out (by decide)) (fun _ hk => hk.2) (.int .i64 ((rd_T26 l0 x66_3).f0))) (fun _ hk => hk.2) (.int .i64 ((rd_T26 l0 x66_3).f1))) (fun _ hk => hk.2) (.int .i64 ((rd_T26 l0 x66_3).f2))) (fun _ hk => hk.2) (.slice A461_3 ((rd_T26 l0 x66_3).f3).length c461_3)) (fun _ hk => hk.2) (.slice A461_4 ((rd_T26 l0 x66_3).f4).length c461_4)) (fun _ hk => hk.1)⟩, ⟨by (with_reducible repeat (first | refine blk_drewN ?_ _ | refine blk_drew ?_ | refine blk_alloc ?_ _)); refine blk_put (cs := #[.int .i64 ((rd_T26 l0 x66_3).f0), .int .i64 ((rd_T26 l0 x66_3).f1), .int .i64 ((rd_T26 l0 x66_3).f2), .slice A461_3 ((rd_T26 l0 x66_3).f3).length c461_3, .slice none 0 0]) ?_ 4 _ rfl; (with_reducible repeat (first | refine blk_drewN ?_ _ | refine blk_drew ?_ | refine blk_alloc ?_ _)); refine blk_put (cs := #[.int .i64 ((rd_T26 l0 x66_3).f0), .int .i64 ((rd_T26 l0 x66_3).f1), .int .i64 ((rd_T26 l0 x66_3).f2), .slice none 0 0, .slice none 0 0]) ?_ 3 _ rfl; (with_reducible repeat (first | refine blk_drewN ?_ _ | refine blk_drew ?_ | refine blk_alloc ?_ _)); refine blk_put (cs := #[.int .i64 ((rd_T26 l0 x66_3).f0), .int .i64 ((rd_T26 l0 x66_3).f1), .int .i64 0, .slice none 0 0, .slice none 0 0]) ?_ 2 _ rfl; (with_reducible repeat (first | refine blk_drewN ?_ _ | refine blk_drew ?_ | refine blk_alloc ?_ _)); refine blk_put (cs := #[.int .i64 ((rd_T26 l0 x66_3).f0), .int .i64 0, .int .i64 0, .slice none 0 0, .slice none 0 0]) ?_ 1 _ rfl; (with_reducible repeat (first | refine blk_drewN ?_ _ | refine blk_drew ?_ | refine blk_alloc ?_ _)); refine blk_put (cs := #[.int .i64 0, .int .i64 0, .int .i64 0, .slice none 0 0, .slice none 0 0]) ?_ 0 _ rfl; (with_reducible repeat (first | refine blk_drewN ?_ _ | refine blk_drew ?_ | refine blk_alloc ?_ _)); exact BK462.out⟩, ⟨bsw_⟩⟩
                 case round =>
                  clear H'
                  try clear c1
                  try clear c2
                  try clear p2
                  try clear c3
                  try clear c4
                  try clear p4
                  try clear q4
                  try clear hx4
                  try clear c6
                  try clear c6b0
                  try clear p6
                  try clear c8
                  try clear c8b0
                  try clear c8b1
                  try clear c9
                  try clear c10
                  try clear c10b0
                  try clear c10b1
                  try clear c14
                  try clear c15
                  try clear c20
                  try clear c20b0
                  try clear c21
                  try clear c21b0
                  try clear c22
                  try clear c22b0
                  try clear c23
                  try clear c29
                  try clear c30
                  try clear c30b0
                  try clear c31
                  try clear c31b0
                  try clear c32
                  try clear c32b0
                  try clear c35
                  try clear hcz25_0
                  try clear hcz25_1
                  try clear hcz34_0
                  try clear hcz34_1
                  try clear hcz34_2
                  try clear hcz34_3
                  try clear hcz34_4
                  try clear hfz25_0
                  try clear hfz25_1
                  try clear hfz34_0
                  try clear hfz34_1
                  try clear hfz34_2
                  try clear hfz34_3
                  try clear hfz34_4
                  try clear hx452_0
                  try clear hx452_1
                  try clear hx461_0
                  try clear hx461_1
                  try clear hx461_2
                  try clear hx461_3
                  try clear hx461_4
                  try clear p2
                  try clear p4
                  try clear p452
                  try clear p461
                  try clear p6
                  try clear q4
                  try clear q452
                  try clear q461
                  obtain ⟨x15_4, x72_4, rfl, rfl, HA, HK4, HO_7, HO_8, HO_12, HO_70, BK462, HB⟩ := hrel
                  cases gk with
                  | zero => exact absurd HA.out (by simp [handshakerlaw16_FilterSure.l2])
                  | succ k4 =>
                   have H := HA.out
                   clear HA
                   simp only [handshakerlaw16_FilterSure.l2] at H
                   by_cases c36 : x72_4 < (t457.length : Int)
                   · rw [if_pos c36] at H
                     have c36b0 : decide (x72_4 < (t457.length : Int)) = true := decide_eq_true c36
                     clear c36
                     by_cases c37 : 0 ≤ x72_4
                     · rw [if_pos c37] at H
                       have c37b0 : decide (0 ≤ x72_4) = true := decide_eq_true c37
                       clear c37
                       by_cases c38 : x72_4 < (t457.length : Int)
                       · rw [if_pos c38] at H
                         have c38b0 : decide (x72_4 < (t457.length : Int)) = true := decide_eq_true c38
                         clear c38
                         by_cases c39 : x15_4 = true
                         · subst c39
                           rw [if_pos rfl] at H
                           have H' := ak H
                           clear H
                           have p463 : 0 ≤ (x72_4 : Int) := oda_
                           have q463 : x72_4 < (t457.length : Int) := oda_
                           obtain ⟨ad463, e463, hx463_0⟩ := Kd.at_int (Kd.R_reads' HO_70.out).2.2 x72_4 p463 q463
                           cases e463
                           replace p463 := eq_true p463
                           replace q463 := eq_true q463
                           go_wp2
                           go_roundg k4
                           case measure => have := HJ3.out; have := HK2.out; have := HK3.out; have := HK4.out; omega
                           case rel => exact ⟨(true), (wrap64 (x72_4 + 1)), (by first | rfl | (simp; done) | (simp [*]; done)), (by first | rfl | (simp; done) | (simp [*]; done)), H', ⟨by have := HJ3.out; have := HK2.out; have := HK3.out; have := HK4.out; omega⟩, ⟨vq_ HO_7⟩, ⟨rq_ HO_8⟩, ⟨rq_ HO_12⟩, ⟨rq_ HO_70⟩, ⟨bq_ BK462⟩, ⟨bsw_⟩⟩
                         · replace c39 := Bool.eq_false_iff.mpr c39
                           subst c39
                           rw [if_neg (show ¬ (false = true) by decide)] at H
                           have H' := ak H
                           clear H
                           have p463 : 0 ≤ (x72_4 : Int) := oda_
                           have q463 : x72_4 < (t457.length : Int) := oda_
                           obtain ⟨ad463, e463, hx463_0⟩ := Kd.at_int (Kd.R_reads' HO_70.out).2.2 x72_4 p463 q463
                           cases e463
                           replace p463 := eq_true p463
                           replace q463 := eq_true q463
                           obtain ⟨hcz40_0, hcz40_1, hcz40_2, hcz40_3, hcz40_4, hfz40_0, hfz40_1, hfz40_2, hfz40_3, hfz40_4⟩ := bz5_ BK462
                           go_wp2
                           go_roundg k4
                           case measure => have := HJ3.out; have := HK2.out; have := HK3.out; have := HK4.out; omega
                           case rel => exact ⟨(((rd t457 x72_4) == ((rd_T26 l0 x66_3).f0))), (wrap64 (x72_4 + 1)), (by first | rfl | (simp; done) | (simp [*]; done)), (by first | rfl | (simp; done) | (simp [*]; done)), H', ⟨by have := HJ3.out; have := HK2.out; have := HK3.out; have := HK4.out; omega⟩, ⟨vq_ HO_7⟩, ⟨rq_ HO_8⟩, ⟨rq_ HO_12⟩, ⟨rq_ HO_70⟩, ⟨bq_ BK462⟩, ⟨bsw_⟩⟩
                       · rw [if_neg c38] at H
                         exact absurd H (by simp)
                     · rw [if_neg c37] at H
                       exact absurd H (by simp)
                   · rw [if_neg c36] at H
                     have c36b0 : decide (x72_4 < (t457.length : Int)) = false := decide_eq_false c36
                     clear c36
                     have H' := ak H
                     clear H
                     obtain ⟨Ao41, co41, eo41⟩ := Kd.R_slice HO_8.out
                     subst eo41
                     go_wp2
                     go_loopg [16, 86] k4 (fun kq v16 v86 w' => ∃ (x16_5 : Bool) (x86_5 : Int), v16 = .bool x16_5 ∧ v86 = .int .i64 x86_5 ∧ Aside0 (handshakerlaw16_FilterSure.l3 kq l0 l1 t446 t449 t457 x15_4 x16_5 l0 (l0.length : Int) x66_3 t449 (t449.length : Int) x86_5 ((rd_T26 l0 x66_3).f0) ((rd_T26 l0 x66_3).f1) ((rd_T26 l0 x66_3).f2) ((rd_T26 l0 x66_3).f3) ((rd_T26 l0 x66_3).f4) = some r) ∧ Aside0 (kq ≤ k4) ∧ Aside0 (Kd.V k26 26 w' w.heap.size (fun k_ => some k_ ≠ ((.slice Ao41 t449.length co41) : Value).ownBlock ∧ some k_ ≠ ((.slice Ao35 t457.length co35) : Value).ownBlock ∧ some k_ ≠ ((.slice Ao41 t449.length co41) : Value).ownBlock ∧ k_ ≠ gb462) v447 t446) ∧ Aside0 (Kd.R (Kd.int .i64) 3 w' w.heap.size (fun k_ => some k_ ≠ ((.slice Ao35 t457.length co35) : Value).ownBlock) (.slice Ao41 t449.length co41) t449) ∧ Aside0 (Kd.R (Kd.int .i64) 3 w' w.heap.size (fun k_ => some k_ ≠ ((.slice Ao41 t449.length co41) : Value).ownBlock ∧ some k_ ≠ ((.slice Ao41 t449.length co41) : Value).ownBlock) (.slice Ao35 t457.length co35) t457) ∧ Aside0 (Kd.R (Kd.int .i64) 3 w' w.heap.size (fun k_ => some k_ ≠ ((.slice Ao35 t457.length co35) : Value).ownBlock) (.slice Ao41 t449.length co41) t449) ∧ Aside0 (w'.heap[gb462]? = some (.cells #[.int .i64 ((rd_T26 l0 x66_3).f0), .int .i64 ((rd_T26 l0 x66_3).f1), .int .i64 ((rd_T26 l0 x66_3).f2), (.slice A461_3 ((rd_T26 l0 x66_3).f3).length c461_3), (.slice A461_4 ((rd_T26 l0 x66_3).f4).length c461_4)] 26 (0, 0))) ∧ Aside0 (Below w.heap.size w w'))
                     case atStart => exact ⟨(false), (0), (by first | rfl | (simp; done) | (simp [*]; done)), (by first | rfl | (simp; done) | (simp [*]; done)), H', ⟨Nat.le_refl _⟩, ⟨Kd.V_mono (vq_ HO_7) (fun _ hk => ⟨hk.1, ⟨hk.2.1, ⟨hk.1, hk.2.2.2⟩⟩⟩)⟩, ⟨Kd.R_mono (rq_ HO_8) (fun _ hk => hk.1)⟩, ⟨Kd.R_mono (rq_ HO_12) (fun _ hk => ⟨hk, hk⟩)⟩, ⟨Kd.R_mono (rq_ HO_8) (fun _ hk => hk.1)⟩, ⟨bq_ BK462⟩, ⟨bsw_⟩⟩
                     case round =>
                      clear H'
                      try clear c1
                      try clear c2
                      try clear p2
                      try clear c3
                      try clear c4
                      try clear p4
                      try clear q4
                      try clear hx4
                      try clear c6
                      try clear c6b0
                      try clear p6
                      try clear c8
                      try clear c8b0
                      try clear c8b1
                      try clear c9
                      try clear c10
                      try clear c10b0
                      try clear c10b1
                      try clear c14
                      try clear c15
                      try clear c20
                      try clear c20b0
                      try clear c21
                      try clear c21b0
                      try clear c22
                      try clear c22b0
                      try clear c23
                      try clear c29
                      try clear c30
                      try clear c30b0
                      try clear c31
                      try clear c31b0
                      try clear c32
                      try clear c32b0
                      try clear c35
                      try clear c36
                      try clear c36b0
                      try clear c37
                      try clear c37b0
                      try clear c38
                      try clear c38b0
                      try clear c39
                      try clear hcz25_0
                      try clear hcz25_1
                      try clear hcz34_0
                      try clear hcz34_1
                      try clear hcz34_2
                      try clear hcz34_3
                      try clear hcz34_4
                      try clear hcz40_0
                      try clear hcz40_1
                      try clear hcz40_2
                      try clear hcz40_3
                      try clear hcz40_4
                      try clear hfz25_0
                      try clear hfz25_1
                      try clear hfz34_0
                      try clear hfz34_1
                      try clear hfz34_2
                      try clear hfz34_3
                      try clear hfz34_4
                      try clear hfz40_0
                      try clear hfz40_1
                      try clear hfz40_2
                      try clear hfz40_3
                      try clear hfz40_4
                      try clear hx452_0
                      try clear hx452_1
                      try clear hx461_0
                      try clear hx461_1
                      try clear hx461_2
                      try clear hx461_3
                      try clear hx461_4
                      try clear hx463_0
                      try clear p2
                      try clear p4
                      try clear p452
                      try clear p461
                      try clear p463
                      try clear p6
                      try clear q4
                      try clear q452
                      try clear q461
                      try clear q463
                      obtain ⟨x16_5, x86_5, rfl, rfl, HA, HK5, HO_7, HO_8, HO_12, HO_84, BK462, HB⟩ := hrel
                      cases gk with
                      | zero => exact absurd HA.out (by simp [handshakerlaw16_FilterSure.l3])
                      | succ k5 =>
                       have H := HA.out
                       clear HA
                       simp only [handshakerlaw16_FilterSure.l3] at H
                       by_cases c42 : x86_5 < (t449.length : Int)
                       · rw [if_pos c42] at H
                         have c42b0 : decide (x86_5 < (t449.length : Int)) = true := decide_eq_true c42
                         clear c42
                         by_cases c43 : 0 ≤ x86_5
                         · rw [if_pos c43] at H
                           have c43b0 : decide (0 ≤ x86_5) = true := decide_eq_true c43
                           clear c43
                           by_cases c44 : x86_5 < (t449.length : Int)
                           · rw [if_pos c44] at H
                             have c44b0 : decide (x86_5 < (t449.length : Int)) = true := decide_eq_true c44
                             clear c44
                             by_cases c45 : x16_5 = true
                             · subst c45
                               rw [if_pos rfl] at H
                               have H' := ak H
                               clear H
                               have p464 : 0 ≤ (x86_5 : Int) := oda_
                               have q464 : x86_5 < (t449.length : Int) := oda_
                               obtain ⟨ad464, e464, hx464_0⟩ := Kd.at_int (Kd.R_reads' HO_84.out).2.2 x86_5 p464 q464
                               cases e464
                               replace p464 := eq_true p464
                               replace q464 := eq_true q464
                               go_wp2
                               go_roundg k5
                               case measure => have := HJ3.out; have := HK2.out; have := HK3.out; have := HK4.out; have := HK5.out; omega
                               case rel => exact ⟨(true), (wrap64 (x86_5 + 1)), (by first | rfl | (simp; done) | (simp [*]; done)), (by first | rfl | (simp; done) | (simp [*]; done)), H', ⟨by have := HJ3.out; have := HK2.out; have := HK3.out; have := HK4.out; have := HK5.out; omega⟩, ⟨vq_ HO_7⟩, ⟨rq_ HO_8⟩, ⟨rq_ HO_12⟩, ⟨rq_ HO_84⟩, ⟨bq_ BK462⟩, ⟨bsw_⟩⟩
                             · replace c45 := Bool.eq_false_iff.mpr c45
                               subst c45
                               rw [if_neg (show ¬ (false = true) by decide)] at H
                               have H' := ak H
                               clear H
                               have p464 : 0 ≤ (x86_5 : Int) := oda_
                               have q464 : x86_5 < (t449.length : Int) := oda_
                               obtain ⟨ad464, e464, hx464_0⟩ := Kd.at_int (Kd.R_reads' HO_84.out).2.2 x86_5 p464 q464
                               cases e464
                               replace p464 := eq_true p464
                               replace q464 := eq_true q464
                               obtain ⟨hcz46_0, hcz46_1, hcz46_2, hcz46_3, hcz46_4, hfz46_0, hfz46_1, hfz46_2, hfz46_3, hfz46_4⟩ := bz5_ BK462
                               go_wp2
                               go_roundg k5
                               case measure => have := HJ3.out; have := HK2.out; have := HK3.out; have := HK4.out; have := HK5.out; omega
                               case rel => exact ⟨(((rd t449 x86_5) == ((rd_T26 l0 x66_3).f0))), (wrap64 (x86_5 + 1)), (by first | rfl | (simp; done) | (simp [*]; done)), (by first | rfl | (simp; done) | (simp [*]; done)), H', ⟨by have := HJ3.out; have := HK2.out; have := HK3.out; have := HK4.out; have := HK5.out; omega⟩, ⟨vq_ HO_7⟩, ⟨rq_ HO_8⟩, ⟨rq_ HO_12⟩, ⟨rq_ HO_84⟩, ⟨bq_ BK462⟩, ⟨bsw_⟩⟩
                           · rw [if_neg c44] at H
                             exact absurd H (by simp)
                         · rw [if_neg c43] at H
                           exact absurd H (by simp)
                       · rw [if_neg c42] at H
                         have c42b0 : decide (x86_5 < (t449.length : Int)) = false := decide_eq_false c42
                         clear c42
                         replace H := Option.bind_eq_some_iff.mp H
                         obtain ⟨⟨t465, t466, t467, t468, t471, t474⟩, A470, H⟩ := H
                         have A47 := ak A470
                         clear A470
                         by_cases c48 : x15_4 = true
                         · subst c48
                           rw [if_pos rfl] at H
                           obtain ⟨t476, A49, H⟩ := bd_ H
                           by_cases c50 : x16_5 = true
                           · subst c50
                             rw [if_pos rfl] at H
                             by_cases c51 : t476 = true
                             · subst c51
                               rw [if_pos rfl] at H
                               by_cases c52 : t474 = 0
                               · rw [if_pos c52] at H
                                 have c52b0 : (t474 == 0) = true := beq_iff_eq.mpr c52
                                 have c52b1 : (t474 != 0) = false := bne_eq_false_iff_eq.mpr c52
                                 clear c52
                                 exact absurd (Option.some.inj H) (by rw [HT.out]; decide)
                               · rw [if_neg c52] at H
                                 have c52b0 : (t474 == 0) = false := beq_eq_false_iff_ne.mpr c52
                                 have c52b1 : (t474 != 0) = true := bne_iff_ne.mpr c52
                                 have H' := ak H
                                 clear H
                                 obtain ⟨hcz53_0, hcz53_1, hcz53_2, hcz53_3, hcz53_4, hfz53_0, hfz53_1, hfz53_2, hfz53_3, hfz53_4⟩ := bz5_ BK462
                                 obtain ⟨Ao54, co54, eo54⟩ := Kd.V_slice HO_7.out
                                 subst eo54
                                 go_wp2_with (first | ((with_reducible refine gate_callee (f := 23) rfl ?_); refine goesL_ (some 102) rfl rfl Try.func23 (by kernel_rfl) rfl #[.slice Ao54 t446.length co54, .int .i64 ((rd_T26 l0 x66_3).f0)] rfl mp_ ?_; (with_reducible refine (sleep_Find.calls k5 (fun k_ => (some k_ ≠ (.slice Ao41 t449.length co41 : Value).ownBlock ∧ (some k_ ≠ (.slice Ao35 t457.length co35 : Value).ownBlock ∧ (some k_ ≠ (.slice Ao41 t449.length co41 : Value).ownBlock ∧ k_ ≠ gb462)))) _ _ t446 ((rd_T26 l0 x66_3).f0) t465 t466 t467 t468 t471 t474 _ ?side1 A47.out).mono ?_); (case side1 => exact HO_7.out); rintro e w55 ⟨v469, v472, rfl, ho0, ho1, hb⟩; refine ⟨_, rfl, ?_⟩; replace HO_7 := vb_ HO_7 hb; replace HO470 := ak (Kd.V_lower (Kd.V_mono (ok' := fun k_ => some k_ ≠ (.slice Ao41 t449.length co41 : Value).ownBlock ∧ some k_ ≠ (.slice Ao35 t457.length co35 : Value).ownBlock ∧ some k_ ≠ (.slice Ao41 t449.length co41 : Value).ownBlock ∧ k_ ≠ gb462) ho0 (fun k_ hk_ => ⟨Or.elim hk_ (fun hs_ => hs_.1) (fun hn_ => (Kd.fresh' (Kd.R_lt (rq_ HO_8)) k_ hn_)), Or.elim hk_ (fun hs_ => hs_.2.1) (fun hn_ => (Kd.fresh' (Kd.R_lt (rq_ HO_12)) k_ hn_)), Or.elim hk_ (fun hs_ => hs_.2.2.1) (fun hn_ => (Kd.fresh' (Kd.R_lt (rq_ HO_84)) k_ hn_)), Or.elim hk_ (fun hs_ => hs_.2.2.2) (fun hn_ => (Kd.freshB (g := gb462) (o := .cells #[.int .i64 ((rd_T26 l0 x66_3).f0), .int .i64 ((rd_T26 l0 x66_3).f1), .int .i64 ((rd_T26 l0 x66_3).f2), .slice A461_3 ((rd_T26 l0 x66_3).f3).length c461_3, .slice A461_4 ((rd_T26 l0 x66_3).f4).length c461_4] 26 (0, 0)) (bq_ BK462) k_ hn_))⟩)) (below_size bsw_)); replace HO473 := ak (Kd.V_lower (Kd.V_mono (ok' := fun k_ => some k_ ≠ (.slice Ao41 t449.length co41 : Value).ownBlock ∧ some k_ ≠ (.slice Ao35 t457.length co35 : Value).ownBlock ∧ some k_ ≠ (.slice Ao41 t449.length co41 : Value).ownBlock ∧ k_ ≠ gb462) ho1 (fun k_ hk_ => ⟨Or.elim hk_ (fun hs_ => hs_.1) (fun hn_ => (Kd.fresh' (Kd.R_lt (rq_ HO_8)) k_ hn_)), Or.elim hk_ (fun hs_ => hs_.2.1) (fun hn_ => (Kd.fresh' (Kd.R_lt (rq_ HO_12)) k_ hn_)), Or.elim hk_ (fun hs_ => hs_.2.2.1) (fun hn_ => (Kd.fresh' (Kd.R_lt (rq_ HO_84)) k_ hn_)), Or.elim hk_ (fun hs_ => hs_.2.2.2) (fun hn_ => (Kd.freshB (g := gb462) (o := .cells #[.int .i64 ((rd_T26 l0 x66_3).f0), .int .i64 ((rd_T26 l0 x66_3).f1), .int .i64 ((rd_T26 l0 x66_3).f2), .slice A461_3 ((rd_T26 l0 x66_3).f3).length c461_3, .slice A461_4 ((rd_T26 l0 x66_3).f4).length c461_4] 26 (0, 0)) (bq_ BK462) k_ hn_))⟩)) (below_size bsw_)); replace HO_8 := rb_ HO_8 hb; replace HO_12 := rb_ HO_12 hb; replace HO_84 := rb_ HO_84 hb; replace BK462 := bb_ BK462 hb; replace HB := ak (below_step bsw_ hb); (try clear hb); (try clear hb2); (try clear hk); (try clear hi); (try clear ho0); (try clear ho1)) | ((with_reducible refine gate_dst (N := 21) rfl ?_); (try (refine gate_guard (by rfl) ?_; dsimp only)); refine box_event ?hg (N := 21) ?hd (cs := #[.int .i64 0, .int .i64 0, .int .i64 0, .slice none 0 0, .slice none 0 0]) (t := 26) ?hr ?_; (case hd => rfl); (case hg => rfl); (case hr => first | (go_simp; done) | (go_simp; rfl)); intro gb475 hg w56 hbox hb; replace HO_7 := ak (Kd.V_below (Kd.V_elderB (vq_ HO_7) gb475 (Nat.le_of_eq hg.symm)) hb); replace HO_8 := rb_ HO_8 hb; replace HO_12 := rb_ HO_12 hb; replace HO_84 := rb_ HO_84 hb; replace HO470 := ak (Kd.V_below (Kd.V_elderB (vq_ HO470) gb475 (Nat.le_of_eq hg.symm)) hb); replace HO473 := ak (Kd.V_below (Kd.V_elderB (vq_ HO473) gb475 (Nat.le_of_eq hg.symm)) hb); replace BK475 := ak (hbox); replace GW475 := ak ((by rw [hg]; exact (below_size bsw_) : w.heap.size ≤ gb475)); replace HB := ak (below_step bsw_ hb); replace GE475 := GW475; replace NB462_475 := ak ((by rw [hg]; exact Nat.ne_of_lt (blk_lt (g := gb462) (o := .cells #[.int .i64 ((rd_T26 l0 x66_3).f0), .int .i64 ((rd_T26 l0 x66_3).f1), .int .i64 ((rd_T26 l0 x66_3).f2), .slice A461_3 ((rd_T26 l0 x66_3).f3).length c461_3, .slice A461_4 ((rd_T26 l0 x66_3).f4).length c461_4] 26 (0, 0)) (bq_ BK462)) : gb462 ≠ gb475)); replace NB475_462 := ak ((by rw [hg]; exact Nat.ne_of_gt (blk_lt (g := gb462) (o := .cells #[.int .i64 ((rd_T26 l0 x66_3).f0), .int .i64 ((rd_T26 l0 x66_3).f1), .int .i64 ((rd_T26 l0 x66_3).f2), .slice A461_3 ((rd_T26 l0 x66_3).f3).length c461_3, .slice A461_4 ((rd_T26 l0 x66_3).f4).length c461_4] 26 (0, 0)) (bq_ BK462)) : gb475 ≠ gb462)); replace BK462 := bb_ BK462 hb; clear hb hbox hg; have hnb57 := NB475_462.out; have hnc57 := NB462_475.out; obtain ⟨hcz58_0, hcz58_1, hcz58_2, hcz58_3, hcz58_4, hfz58_0, hfz58_1, hfz58_2, hfz58_3, hfz58_4⟩ := bz5_ BK475; obtain ⟨Ao59, co59, eo59⟩ := Kd.V_slice HO470.out; subst eo59; obtain ⟨Ao60, co60, eo60⟩ := Kd.V_slice HO473.out; subst eo60) | ((with_reducible refine gate_store (t := 26) (p := 21) rfl ?_); refine store_event (t := 26) (p := 21) (v := ?vo_w61) (w1 := (((((w56.setCell ⟨gb475, 0, none⟩ (.int .i64 t465)).setCell ⟨gb475, 1, none⟩ (.int .i64 t466)).setCell ⟨gb475, 2, none⟩ (.int .i64 t467)).setCell ⟨gb475, 3, none⟩ (.slice Ao59 t468.length co59)).setCell ⟨gb475, 4, none⟩ (.slice Ao60 t471.length co60))) ?hg ?ho ?hn ?hr ?_; (case ho => rfl); (case hg => rfl); (case hn => rfl); (case hr => first | (go_simp; done) | (go_simp; rfl)); intro w61 hw; have n0_ : Aside0 (Kd.V k26 26 w61 w.heap.size (fun k_ => some k_ ≠ (.slice Ao41 t449.length co41 : Value).ownBlock ∧ some k_ ≠ (.slice Ao35 t457.length co35 : Value).ownBlock ∧ some k_ ≠ (.slice Ao41 t449.length co41 : Value).ownBlock ∧ k_ ≠ gb462 ∧ k_ ≠ gb475) (.slice Ao54 t446.length co54) t446) := ⟨(by rw [hw]; exact (by (with_reducible repeat (first | apply Kd.V_alloc | apply Kd.V_drewN | apply Kd.V_drew)); exact Kd.V_mono (Kd.V_far (p := ⟨gb475, 4, none⟩) (Kd.V_far (p := ⟨gb475, 3, none⟩) (Kd.V_far (p := ⟨gb475, 2, none⟩) (Kd.V_far (p := ⟨gb475, 1, none⟩) (Kd.V_far (p := ⟨gb475, 0, none⟩) (Kd.V_mono HO_7.out (fun k_ hk => (⟨hk, hk.2⟩ : _ ∧ k_ ≠ gb475))) (fun _ hk => hk.2) (.int .i64 t465)) (fun _ hk => hk.2) (.int .i64 t466)) (fun _ hk => hk.2) (.int .i64 t467)) (fun _ hk => hk.2) (.slice Ao59 t468.length co59)) (fun _ hk => hk.2) (.slice Ao60 t471.length co60)) (fun _ hk => ⟨hk.1.1.1, ⟨hk.1.1.2.1, ⟨hk.1.1.2.2.1, ⟨hk.1.1.2.2.2, hk.1.2⟩⟩⟩⟩)))⟩; have n1_ : Aside0 (Kd.R (Kd.int .i64) 3 w61 w.heap.size (fun k_ => some k_ ≠ (.slice Ao35 t457.length co35 : Value).ownBlock) (.slice Ao41 t449.length co41) t449) := ⟨(by rw [hw]; exact (by (with_reducible repeat (first | apply Kd.R_alloc | apply Kd.R_drewN | apply Kd.R_drew)); exact Kd.R_mono (Kd.R_far (p := ⟨gb475, 4, none⟩) (Kd.R_far (p := ⟨gb475, 3, none⟩) (Kd.R_far (p := ⟨gb475, 2, none⟩) (Kd.R_far (p := ⟨gb475, 1, none⟩) (Kd.R_far (p := ⟨gb475, 0, none⟩) (Kd.R_types HO_8.out BK475.out (by decide)) (fun _ hk => hk.2) (.int .i64 t465)) (fun _ hk => hk.2) (.int .i64 t466)) (fun _ hk => hk.2) (.int .i64 t467)) (fun _ hk => hk.2) (.slice Ao59 t468.length co59)) (fun _ hk => hk.2) (.slice Ao60 t471.length co60)) (fun _ hk => hk.1)))⟩; have n2_ : Aside0 (Kd.R (Kd.int .i64) 3 w61 w.heap.size (fun k_ => some k_ ≠ (.slice Ao41 t449.length co41 : Value).ownBlock ∧ some k_ ≠ (.slice Ao41 t449.length co41 : Value).ownBlock) (.slice Ao35 t457.length co35) t457) := ⟨(by rw [hw]; exact (by (with_reducible repeat (first | apply Kd.R_alloc | apply Kd.R_drewN | apply Kd.R_drew)); exact Kd.R_mono (Kd.R_far (p := ⟨gb475, 4, none⟩) (Kd.R_far (p := ⟨gb475, 3, none⟩) (Kd.R_far (p := ⟨gb475, 2, none⟩) (Kd.R_far (p := ⟨gb475, 1, none⟩) (Kd.R_far (p := ⟨gb475, 0, none⟩) (Kd.R_types HO_12.out BK475.out (by decide)) (fun _ hk => hk.2) (.int .i64 t465)) (fun _ hk => hk.2) (.int .i64 t466)) (fun _ hk => hk.2) (.int .i64 t467)) (fun _ hk => hk.2) (.slice Ao59 t468.length co59)) (fun _ hk => hk.2) (.slice Ao60 t471.length co60)) (fun _ hk => ⟨hk.1.1, hk.1.2⟩)))⟩; have n3_ : Aside0 (Kd.R (Kd.int .i64) 3 w61 w.heap.size (fun k_ => some k_ ≠ (.slice Ao35 t457.length co35 : Value).ownBlock) (.slice Ao41 t449.length co41) t449) := ⟨(by rw [hw]; exact (by (with_reducible repeat (first | apply Kd.R_alloc | apply Kd.R_drewN | apply Kd.R_drew)); exact Kd.R_mono (Kd.R_far (p := ⟨gb475, 4, none⟩) (Kd.R_far (p := ⟨gb475, 3, none⟩) (Kd.R_far (p := ⟨gb475, 2, none⟩) (Kd.R_far (p := ⟨gb475, 1, none⟩) (Kd.R_far (p := ⟨gb475, 0, none⟩) (Kd.R_types HO_84.out BK475.out (by decide)) (fun _ hk => hk.2) (.int .i64 t465)) (fun _ hk => hk.2) (.int .i64 t466)) (fun _ hk => hk.2) (.int .i64 t467)) (fun _ hk => hk.2) (.slice Ao59 t468.length co59)) (fun _ hk => hk.2) (.slice Ao60 t471.length co60)) (fun _ hk => hk.1)))⟩; have n4_ : Aside0 (Kd.V k62 62 w61 w.heap.size (fun k_ => some k_ ≠ (.slice Ao41 t449.length co41 : Value).ownBlock ∧ some k_ ≠ (.slice Ao35 t457.length co35 : Value).ownBlock ∧ some k_ ≠ (.slice Ao41 t449.length co41 : Value).ownBlock ∧ k_ ≠ gb462 ∧ k_ ≠ gb475) (.slice Ao59 t468.length co59) t468) := ⟨(by rw [hw]; exact (by (with_reducible repeat (first | apply Kd.V_alloc | apply Kd.V_drewN | apply Kd.V_drew)); exact Kd.V_mono (Kd.V_far (p := ⟨gb475, 4, none⟩) (Kd.V_far (p := ⟨gb475, 3, none⟩) (Kd.V_far (p := ⟨gb475, 2, none⟩) (Kd.V_far (p := ⟨gb475, 1, none⟩) (Kd.V_far (p := ⟨gb475, 0, none⟩) (Kd.V_mono HO470.out (fun k_ hk => (⟨hk, hk.2⟩ : _ ∧ k_ ≠ gb475))) (fun _ hk => hk.2) (.int .i64 t465)) (fun _ hk => hk.2) (.int .i64 t466)) (fun _ hk => hk.2) (.int .i64 t467)) (fun _ hk => hk.2) (.slice Ao59 t468.length co59)) (fun _ hk => hk.2) (.slice Ao60 t471.length co60)) (fun _ hk => ⟨hk.1.1.1, ⟨hk.1.1.2.1, ⟨hk.1.1.2.2.1, ⟨hk.1.1.2.2.2, hk.1.2⟩⟩⟩⟩)))⟩; have n5_ : Aside0 (Kd.V k80 80 w61 w.heap.size (fun k_ => some k_ ≠ (.slice Ao41 t449.length co41 : Value).ownBlock ∧ some k_ ≠ (.slice Ao35 t457.length co35 : Value).ownBlock ∧ some k_ ≠ (.slice Ao41 t449.length co41 : Value).ownBlock ∧ k_ ≠ gb462 ∧ k_ ≠ gb475) (.slice Ao60 t471.length co60) t471) := ⟨(by rw [hw]; exact (by (with_reducible repeat (first | apply Kd.V_alloc | apply Kd.V_drewN | apply Kd.V_drew)); exact Kd.V_mono (Kd.V_far (p := ⟨gb475, 4, none⟩) (Kd.V_far (p := ⟨gb475, 3, none⟩) (Kd.V_far (p := ⟨gb475, 2, none⟩) (Kd.V_far (p := ⟨gb475, 1, none⟩) (Kd.V_far (p := ⟨gb475, 0, none⟩) (Kd.V_mono HO473.out (fun k_ hk => (⟨hk, hk.2⟩ : _ ∧ k_ ≠ gb475))) (fun _ hk => hk.2) (.int .i64 t465)) (fun _ hk => hk.2) (.int .i64 t466)) (fun _ hk => hk.2) (.int .i64 t467)) (fun _ hk => hk.2) (.slice Ao59 t468.length co59)) (fun _ hk => hk.2) (.slice Ao60 t471.length co60)) (fun _ hk => ⟨hk.1.1.1, ⟨hk.1.1.2.1, ⟨hk.1.1.2.2.1, ⟨hk.1.1.2.2.2, hk.1.2⟩⟩⟩⟩)))⟩; have n6_ : Aside0 (w61.heap[gb462]? = some (.cells #[.int .i64 ((rd_T26 l0 x66_3).f0), .int .i64 ((rd_T26 l0 x66_3).f1), .int .i64 ((rd_T26 l0 x66_3).f2), .slice A461_3 ((rd_T26 l0 x66_3).f3).length c461_3, .slice A461_4 ((rd_T26 l0 x66_3).f4).length c461_4] 26 (0, 0))) := ⟨(by rw [hw]; exact (by (with_reducible repeat (first | refine blk_drewN ?_ _ | refine blk_drew ?_ | refine blk_alloc ?_ _)); refine blk_far ?_ NB462_475.out _; (with_reducible repeat (first | refine blk_drewN ?_ _ | refine blk_drew ?_ | refine blk_alloc ?_ _)); refine blk_far ?_ NB462_475.out _; (with_reducible repeat (first | refine blk_drewN ?_ _ | refine blk_drew ?_ | refine blk_alloc ?_ _)); refine blk_far ?_ NB462_475.out _; (with_reducible repeat (first | refine blk_drewN ?_ _ | refine blk_drew ?_ | refine blk_alloc ?_ _)); refine blk_far ?_ NB462_475.out _; (with_reducible repeat (first | refine blk_drewN ?_ _ | refine blk_drew ?_ | refine blk_alloc ?_ _)); refine blk_far ?_ NB462_475.out _; (with_reducible repeat (first | refine blk_drewN ?_ _ | refine blk_drew ?_ | refine blk_alloc ?_ _)); exact BK462.out))⟩; have n7_ : Aside0 (w61.heap[gb475]? = some (.cells #[.int .i64 t465, .int .i64 t466, .int .i64 t467, .slice Ao59 t468.length co59, .slice Ao60 t471.length co60] 26 (0, 0))) := ⟨(by rw [hw]; exact (by (with_reducible repeat (first | refine blk_drewN ?_ _ | refine blk_drew ?_ | refine blk_alloc ?_ _)); refine blk_put (cs := #[.int .i64 t465, .int .i64 t466, .int .i64 t467, .slice Ao59 t468.length co59, .slice none 0 0]) ?_ 4 _ rfl; (with_reducible repeat (first | refine blk_drewN ?_ _ | refine blk_drew ?_ | refine blk_alloc ?_ _)); refine blk_put (cs := #[.int .i64 t465, .int .i64 t466, .int .i64 t467, .slice none 0 0, .slice none 0 0]) ?_ 3 _ rfl; (with_reducible repeat (first | refine blk_drewN ?_ _ | refine blk_drew ?_ | refine blk_alloc ?_ _)); refine blk_put (cs := #[.int .i64 t465, .int .i64 t466, .int .i64 0, .slice none 0 0, .slice none 0 0]) ?_ 2 _ rfl; (with_reducible repeat (first | refine blk_drewN ?_ _ | refine blk_drew ?_ | refine blk_alloc ?_ _)); refine blk_put (cs := #[.int .i64 t465, .int .i64 0, .int .i64 0, .slice none 0 0, .slice none 0 0]) ?_ 1 _ rfl; (with_reducible repeat (first | refine blk_drewN ?_ _ | refine blk_drew ?_ | refine blk_alloc ?_ _)); refine blk_put (cs := #[.int .i64 0, .int .i64 0, .int .i64 0, .slice none 0 0, .slice none 0 0]) ?_ 0 _ rfl; (with_reducible repeat (first | refine blk_drewN ?_ _ | refine blk_drew ?_ | refine blk_alloc ?_ _)); exact BK475.out))⟩; have n8_ : Aside0 (Below w.heap.size w w61) := ⟨(by rw [hw]; exact (by repeat (first | (with_reducible first | exact HB.out | apply below_alloc | apply pw_below_drewN | apply below_drew1 | refine below_set ?_ GE462.out | refine below_set ?_ GE475.out) | exact HB.out)))⟩; clear hw; clear HO_7; clear HO_8; clear HO_12; clear HO_84; clear HO470; clear HO473; clear BK462; clear BK475; clear HB; have HO_7 := n0_; have HO_8 := n1_; have HO_12 := n2_; have HO_84 := n3_; have HO470 := n4_; have HO473 := n5_; have BK462 := n6_; have BK475 := n7_; have HB := n8_; clear n0_ n1_ n2_ n3_ n4_ n5_ n6_ n7_ n8_; obtain ⟨hcz62_0, hcz62_1, hcz62_2, hcz62_3, hcz62_4, hfz62_0, hfz62_1, hfz62_2, hfz62_3, hfz62_4⟩ := bz5_ BK462) | (go_at_call 37; (with_reducible refine (filter_May.calls k5 ((rd_T26 l0 x66_3).f0) ((rd_T26 l0 x66_3).f1) ((rd_T26 l0 x66_3).f2) (fun k_ => k_ < w.heap.size) _ _ ((rd_T26 l0 x66_3).f3) (fun k_ => k_ < w.heap.size) _ _ ((rd_T26 l0 x66_3).f4) _ _ l1 true _ ?side1 ?side2 ?side3 ?side4 A49.out).mono ?_); (case side1 => exact Kd.V_mk HC461_3.out (Kd.F_below (Kd.C_F k62_heap HR461_3.out) (by repeat (first | (with_reducible first | exact HB.out | apply below_alloc | apply pw_below_drewN | apply below_drew1 | refine below_set ?_ GE462.out | refine below_set ?_ GE475.out) | exact HB.out)))); (case side2 => exact Kd.V_mk HC461_4.out (Kd.F_below (Kd.C_F k80_heap HR461_4.out) (by repeat (first | (with_reducible first | exact HB.out | apply below_alloc | apply pw_below_drewN | apply below_drew1 | refine below_set ?_ GE462.out | refine below_set ?_ GE475.out) | exact HB.out)))); (case side3 => repeat (first | exact (Kd.C_below HR1.out HB.out) | with_reducible first | refine Kd.C_alloc ?_ _ | refine Kd.C_drewN ?_ _ | refine Kd.C_drew ?_)); (case side4 => exact HC1.out); rintro e w63 ⟨rfl, hb⟩; replace HO_7 := vb_ HO_7 hb; replace HO_8 := rb_ HO_8 hb; replace HO_12 := rb_ HO_12 hb; replace HO_84 := rb_ HO_84 hb; replace HO470 := vb_ HO470 hb; replace HO473 := vb_ HO473 hb; replace BK462 := bb_ BK462 hb; replace BK475 := bb_ BK475 hb; replace HB := ak (below_step (by repeat (first | (with_reducible first | exact HB.out | apply below_alloc | apply pw_below_drewN | apply below_drew1 | refine below_set ?_ GE462.out | refine below_set ?_ GE475.out) | exact HB.out)) hb); (try clear hb); (try clear hb2); (try clear hk); (try clear hi)))
                                 go_roundg k5
                                 case measure => have := HJ3.out; have := HK2.out; have := HK3.out; have := HK4.out; have := HK5.out; omega
                                 case rel => exact ⟨(wrap64 (x66_3 + 1)), (by first | rfl | (simp; done) | (simp [*]; done)), H', ⟨by have := HJ3.out; have := HK2.out; have := HK3.out; have := HK4.out; have := HK5.out; omega⟩, ⟨Kd.V_mono (vq_ HO_7) (fun _ hk => ⟨hk.1, hk.2.1⟩)⟩, ⟨rq_ HO_8⟩, ⟨Kd.R_mono (rq_ HO_12) (fun _ hk => hk.1)⟩, ⟨by repeat (first | (with_reducible first | exact HB.out | apply below_alloc | apply pw_below_drewN | apply below_drew1 | refine below_set ?_ GE462.out | refine below_set ?_ GE475.out) | exact HB.out)⟩⟩
                             · replace c51 := Bool.eq_false_iff.mpr c51
                               subst c51
                               rw [if_neg (show ¬ (false = true) by decide)] at H
                               exact absurd (Option.some.inj H) (by rw [HT.out]; decide)
                           · replace c50 := Bool.eq_false_iff.mpr c50
                             subst c50
                             rw [if_neg (show ¬ (false = true) by decide)] at H
                             by_cases c64 : t476 = true
                             · subst c64
                               rw [if_pos rfl] at H
                               exact absurd (Option.some.inj H) (by rw [HT.out]; decide)
                             · replace c64 := Bool.eq_false_iff.mpr c64
                               subst c64
                               rw [if_neg (show ¬ (false = true) by decide)] at H
                               by_cases c65 : t474 = 0
                               · rw [if_pos c65] at H
                                 have c65b0 : (t474 == 0) = true := beq_iff_eq.mpr c65
                                 have c65b1 : (t474 != 0) = false := bne_eq_false_iff_eq.mpr c65
                                 clear c65
                                 have H' := ak H
                                 clear H
                                 obtain ⟨hcz66_0, hcz66_1, hcz66_2, hcz66_3, hcz66_4, hfz66_0, hfz66_1, hfz66_2, hfz66_3, hfz66_4⟩ := bz5_ BK462
                                 obtain ⟨Ao67, co67, eo67⟩ := Kd.V_slice HO_7.out
                                 subst eo67
                                 go_wp2_with (first | ((with_reducible refine gate_callee (f := 23) rfl ?_); refine goesL_ (some 102) rfl rfl Try.func23 (by kernel_rfl) rfl #[.slice Ao67 t446.length co67, .int .i64 ((rd_T26 l0 x66_3).f0)] rfl mp_ ?_; (with_reducible refine (sleep_Find.calls k5 (fun k_ => (some k_ ≠ (.slice Ao41 t449.length co41 : Value).ownBlock ∧ (some k_ ≠ (.slice Ao35 t457.length co35 : Value).ownBlock ∧ (some k_ ≠ (.slice Ao41 t449.length co41 : Value).ownBlock ∧ k_ ≠ gb462)))) _ _ t446 ((rd_T26 l0 x66_3).f0) t465 t466 t467 t468 t471 t474 _ ?side1 A47.out).mono ?_); (case side1 => exact HO_7.out); rintro e w68 ⟨v469, v472, rfl, ho0, ho1, hb⟩; refine ⟨_, rfl, ?_⟩; replace HO_7 := vb_ HO_7 hb; replace HO470 := ak (Kd.V_lower (Kd.V_mono (ok' := fun k_ => some k_ ≠ (.slice Ao41 t449.length co41 : Value).ownBlock ∧ some k_ ≠ (.slice Ao35 t457.length co35 : Value).ownBlock ∧ some k_ ≠ (.slice Ao41 t449.length co41 : Value).ownBlock ∧ k_ ≠ gb462) ho0 (fun k_ hk_ => ⟨Or.elim hk_ (fun hs_ => hs_.1) (fun hn_ => (Kd.fresh' (Kd.R_lt (rq_ HO_8)) k_ hn_)), Or.elim hk_ (fun hs_ => hs_.2.1) (fun hn_ => (Kd.fresh' (Kd.R_lt (rq_ HO_12)) k_ hn_)), Or.elim hk_ (fun hs_ => hs_.2.2.1) (fun hn_ => (Kd.fresh' (Kd.R_lt (rq_ HO_84)) k_ hn_)), Or.elim hk_ (fun hs_ => hs_.2.2.2) (fun hn_ => (Kd.freshB (g := gb462) (o := .cells #[.int .i64 ((rd_T26 l0 x66_3).f0), .int .i64 ((rd_T26 l0 x66_3).f1), .int .i64 ((rd_T26 l0 x66_3).f2), .slice A461_3 ((rd_T26 l0 x66_3).f3).length c461_3, .slice A461_4 ((rd_T26 l0 x66_3).f4).length c461_4] 26 (0, 0)) (bq_ BK462) k_ hn_))⟩)) (below_size bsw_)); replace HO473 := ak (Kd.V_lower (Kd.V_mono (ok' := fun k_ => some k_ ≠ (.slice Ao41 t449.length co41 : Value).ownBlock ∧ some k_ ≠ (.slice Ao35 t457.length co35 : Value).ownBlock ∧ some k_ ≠ (.slice Ao41 t449.length co41 : Value).ownBlock ∧ k_ ≠ gb462) ho1 (fun k_ hk_ => ⟨Or.elim hk_ (fun hs_ => hs_.1) (fun hn_ => (Kd.fresh' (Kd.R_lt (rq_ HO_8)) k_ hn_)), Or.elim hk_ (fun hs_ => hs_.2.1) (fun hn_ => (Kd.fresh' (Kd.R_lt (rq_ HO_12)) k_ hn_)), Or.elim hk_ (fun hs_ => hs_.2.2.1) (fun hn_ => (Kd.fresh' (Kd.R_lt (rq_ HO_84)) k_ hn_)), Or.elim hk_ (fun hs_ => hs_.2.2.2) (fun hn_ => (Kd.freshB (g := gb462) (o := .cells #[.int .i64 ((rd_T26 l0 x66_3).f0), .int .i64 ((rd_T26 l0 x66_3).f1), .int .i64 ((rd_T26 l0 x66_3).f2), .slice A461_3 ((rd_T26 l0 x66_3).f3).length c461_3, .slice A461_4 ((rd_T26 l0 x66_3).f4).length c461_4] 26 (0, 0)) (bq_ BK462) k_ hn_))⟩)) (below_size bsw_)); replace HO_8 := rb_ HO_8 hb; replace HO_12 := rb_ HO_12 hb; replace HO_84 := rb_ HO_84 hb; replace BK462 := bb_ BK462 hb; replace HB := ak (below_step bsw_ hb); (try clear hb); (try clear hb2); (try clear hk); (try clear hi); (try clear ho0); (try clear ho1)) | ((with_reducible refine gate_dst (N := 21) rfl ?_); (try (refine gate_guard (by rfl) ?_; dsimp only)); refine box_event ?hg (N := 21) ?hd (cs := #[.int .i64 0, .int .i64 0, .int .i64 0, .slice none 0 0, .slice none 0 0]) (t := 26) ?hr ?_; (case hd => rfl); (case hg => rfl); (case hr => first | (go_simp; done) | (go_simp; rfl)); intro gb475 hg w69 hbox hb; replace HO_7 := ak (Kd.V_below (Kd.V_elderB (vq_ HO_7) gb475 (Nat.le_of_eq hg.symm)) hb); replace HO_8 := rb_ HO_8 hb; replace HO_12 := rb_ HO_12 hb; replace HO_84 := rb_ HO_84 hb; replace HO470 := ak (Kd.V_below (Kd.V_elderB (vq_ HO470) gb475 (Nat.le_of_eq hg.symm)) hb); replace HO473 := ak (Kd.V_below (Kd.V_elderB (vq_ HO473) gb475 (Nat.le_of_eq hg.symm)) hb); replace BK475 := ak (hbox); replace GW475 := ak ((by rw [hg]; exact (below_size bsw_) : w.heap.size ≤ gb475)); replace HB := ak (below_step bsw_ hb); replace GE475 := GW475; replace NB462_475 := ak ((by rw [hg]; exact Nat.ne_of_lt (blk_lt (g := gb462) (o := .cells #[.int .i64 ((rd_T26 l0 x66_3).f0), .int .i64 ((rd_T26 l0 x66_3).f1), .int .i64 ((rd_T26 l0 x66_3).f2), .slice A461_3 ((rd_T26 l0 x66_3).f3).length c461_3, .slice A461_4 ((rd_T26 l0 x66_3).f4).length c461_4] 26 (0, 0)) (bq_ BK462)) : gb462 ≠ gb475)); replace NB475_462 := ak ((by rw [hg]; exact Nat.ne_of_gt (blk_lt (g := gb462) (o := .cells #[.int .i64 ((rd_T26 l0 x66_3).f0), .int .i64 ((rd_T26 l0 x66_3).f1), .int .i64 ((rd_T26 l0 x66_3).f2), .slice A461_3 ((rd_T26 l0 x66_3).f3).length c461_3, .slice A461_4 ((rd_T26 l0 x66_3).f4).length c461_4] 26 (0, 0)) (bq_ BK462)) : gb475 ≠ gb462)); replace BK462 := bb_ BK462 hb; clear hb hbox hg; have hnb70 := NB475_462.out; have hnc70 := NB462_475.out; obtain ⟨hcz71_0, hcz71_1, hcz71_2, hcz71_3, hcz71_4, hfz71_0, hfz71_1, hfz71_2, hfz71_3, hfz71_4⟩ := bz5_ BK475; obtain ⟨Ao72, co72, eo72⟩ := Kd.V_slice HO470.out; subst eo72; obtain ⟨Ao73, co73, eo73⟩ := Kd.V_slice HO473.out; subst eo73) | ((with_reducible refine gate_store (t := 26) (p := 21) rfl ?_); refine store_event (t := 26) (p := 21) (v := ?vo_w74) (w1 := (((((w69.setCell ⟨gb475, 0, none⟩ (.int .i64 t465)).setCell ⟨gb475, 1, none⟩ (.int .i64 t466)).setCell ⟨gb475, 2, none⟩ (.int .i64 t467)).setCell ⟨gb475, 3, none⟩ (.slice Ao72 t468.length co72)).setCell ⟨gb475, 4, none⟩ (.slice Ao73 t471.length co73))) ?hg ?ho ?hn ?hr ?_; (case ho => rfl); (case hg => rfl); (case hn => rfl); (case hr => first | (go_simp; done) | (go_simp; rfl)); intro w74 hw; have n0_ : Aside0 (Kd.V k26 26 w74 w.heap.size (fun k_ => some k_ ≠ (.slice Ao41 t449.length co41 : Value).ownBlock ∧ some k_ ≠ (.slice Ao35 t457.length co35 : Value).ownBlock ∧ some k_ ≠ (.slice Ao41 t449.length co41 : Value).ownBlock ∧ k_ ≠ gb462 ∧ k_ ≠ gb475) (.slice Ao67 t446.length co67) t446) := ⟨(by rw [hw]; exact (by (with_reducible repeat (first | apply Kd.V_alloc | apply Kd.V_drewN | apply Kd.V_drew)); exact Kd.V_mono (Kd.V_far (p := ⟨gb475, 4, none⟩) (Kd.V_far (p := ⟨gb475, 3, none⟩) (Kd.V_far (p := ⟨gb475, 2, none⟩) (Kd.V_far (p := ⟨gb475, 1, none⟩) (Kd.V_far (p := ⟨gb475, 0, none⟩) (Kd.V_mono HO_7.out (fun k_ hk => (⟨hk, hk.2⟩ : _ ∧ k_ ≠ gb475))) (fun _ hk => hk.2) (.int .i64 t465)) (fun _ hk => hk.2) (.int .i64 t466)) (fun _ hk => hk.2) (.int .i64 t467)) (fun _ hk => hk.2) (.slice Ao72 t468.length co72)) (fun _ hk => hk.2) (.slice Ao73 t471.length co73)) (fun _ hk => ⟨hk.1.1.1, ⟨hk.1.1.2.1, ⟨hk.1.1.2.2.1, ⟨hk.1.1.2.2.2, hk.1.2⟩⟩⟩⟩)))⟩; have n1_ : Aside0 (Kd.R (Kd.int .i64) 3 w74 w.heap.size (fun k_ => some k_ ≠ (.slice Ao35 t457.length co35 : Value).ownBlock) (.slice Ao41 t449.length co41) t449) := ⟨(by rw [hw]; exact (by (with_reducible repeat (first | apply Kd.R_alloc | apply Kd.R_drewN | apply Kd.R_drew)); exact Kd.R_mono (Kd.R_far (p := ⟨gb475, 4, none⟩) (Kd.R_far (p := ⟨gb475, 3, none⟩) (Kd.R_far (p := ⟨gb475, 2, none⟩) (Kd.R_far (p := ⟨gb475, 1, none⟩) (Kd.R_far (p := ⟨gb475, 0, none⟩) (Kd.R_types HO_8.out BK475.out (by decide)) (fun _ hk => hk.2) (.int .i64 t465)) (fun _ hk => hk.2) (.int .i64 t466)) (fun _ hk => hk.2) (.int .i64 t467)) (fun _ hk => hk.2) (.slice Ao72 t468.length co72)) (fun _ hk => hk.2) (.slice Ao73 t471.length co73)) (fun _ hk => hk.1)))⟩; have n2_ : Aside0 (Kd.R (Kd.int .i64) 3 w74 w.heap.size (fun k_ => some k_ ≠ (.slice Ao41 t449.length co41 : Value).ownBlock ∧ some k_ ≠ (.slice Ao41 t449.length co41 : Value).ownBlock) (.slice Ao35 t457.length co35) t457) := ⟨(by rw [hw]; exact (by (with_reducible repeat (first | apply Kd.R_alloc | apply Kd.R_drewN | apply Kd.R_drew)); exact Kd.R_mono (Kd.R_far (p := ⟨gb475, 4, none⟩) (Kd.R_far (p := ⟨gb475, 3, none⟩) (Kd.R_far (p := ⟨gb475, 2, none⟩) (Kd.R_far (p := ⟨gb475, 1, none⟩) (Kd.R_far (p := ⟨gb475, 0, none⟩) (Kd.R_types HO_12.out BK475.out (by decide)) (fun _ hk => hk.2) (.int .i64 t465)) (fun _ hk => hk.2) (.int .i64 t466)) (fun _ hk => hk.2) (.int .i64 t467)) (fun _ hk => hk.2) (.slice Ao72 t468.length co72)) (fun _ hk => hk.2) (.slice Ao73 t471.length co73)) (fun _ hk => ⟨hk.1.1, hk.1.2⟩)))⟩; have n3_ : Aside0 (Kd.R (Kd.int .i64) 3 w74 w.heap.size (fun k_ => some k_ ≠ (.slice Ao35 t457.length co35 : Value).ownBlock) (.slice Ao41 t449.length co41) t449) := ⟨(by rw [hw]; exact (by (with_reducible repeat (first | apply Kd.R_alloc | apply Kd.R_drewN | apply Kd.R_drew)); exact Kd.R_mono (Kd.R_far (p := ⟨gb475, 4, none⟩) (Kd.R_far (p := ⟨gb475, 3, none⟩) (Kd.R_far (p := ⟨gb475, 2, none⟩) (Kd.R_far (p := ⟨gb475, 1, none⟩) (Kd.R_far (p := ⟨gb475, 0, none⟩) (Kd.R_types HO_84.out BK475.out (by decide)) (fun _ hk => hk.2) (.int .i64 t465)) (fun _ hk => hk.2) (.int .i64 t466)) (fun _ hk => hk.2) (.int .i64 t467)) (fun _ hk => hk.2) (.slice Ao72 t468.length co72)) (fun _ hk => hk.2) (.slice Ao73 t471.length co73)) (fun _ hk => hk.1)))⟩; have n4_ : Aside0 (Kd.V k62 62 w74 w.heap.size (fun k_ => some k_ ≠ (.slice Ao41 t449.length co41 : Value).ownBlock ∧ some k_ ≠ (.slice Ao35 t457.length co35 : Value).ownBlock ∧ some k_ ≠ (.slice Ao41 t449.length co41 : Value).ownBlock ∧ k_ ≠ gb462 ∧ k_ ≠ gb475) (.slice Ao72 t468.length co72) t468) := ⟨(by rw [hw]; exact (by (with_reducible repeat (first | apply Kd.V_alloc | apply Kd.V_drewN | apply Kd.V_drew)); exact Kd.V_mono (Kd.V_far (p := ⟨gb475, 4, none⟩) (Kd.V_far (p := ⟨gb475, 3, none⟩) (Kd.V_far (p := ⟨gb475, 2, none⟩) (Kd.V_far (p := ⟨gb475, 1, none⟩) (Kd.V_far (p := ⟨gb475, 0, none⟩) (Kd.V_mono HO470.out (fun k_ hk => (⟨hk, hk.2⟩ : _ ∧ k_ ≠ gb475))) (fun _ hk => hk.2) (.int .i64 t465)) (fun _ hk => hk.2) (.int .i64 t466)) (fun _ hk => hk.2) (.int .i64 t467)) (fun _ hk => hk.2) (.slice Ao72 t468.length co72)) (fun _ hk => hk.2) (.slice Ao73 t471.length co73)) (fun _ hk => ⟨hk.1.1.1, ⟨hk.1.1.2.1, ⟨hk.1.1.2.2.1, ⟨hk.1.1.2.2.2, hk.1.2⟩⟩⟩⟩)))⟩; have n5_ : Aside0 (Kd.V k80 80 w74 w.heap.size (fun k_ => some k_ ≠ (.slice Ao41 t449.length co41 : Value).ownBlock ∧ some k_ ≠ (.slice Ao35 t457.length co35 : Value).ownBlock ∧ some k_ ≠ (.slice Ao41 t449.length co41 : Value).ownBlock ∧ k_ ≠ gb462 ∧ k_ ≠ gb475) (.slice Ao73 t471.length co73) t471) := ⟨(by rw [hw]; exact (by (with_reducible repeat (first | apply Kd.V_alloc | apply Kd.V_drewN | apply Kd.V_drew)); exact Kd.V_mono (Kd.V_far (p := ⟨gb475, 4, none⟩) (Kd.V_far (p := ⟨gb475, 3, none⟩) (Kd.V_far (p := ⟨gb475, 2, none⟩) (Kd.V_far (p := ⟨gb475, 1, none⟩) (Kd.V_far (p := ⟨gb475, 0, none⟩) (Kd.V_mono HO473.out (fun k_ hk => (⟨hk, hk.2⟩ : _ ∧ k_ ≠ gb475))) (fun _ hk => hk.2) (.int .i64 t465)) (fun _ hk => hk.2) (.int .i64 t466)) (fun _ hk => hk.2) (.int .i64 t467)) (fun _ hk => hk.2) (.slice Ao72 t468.length co72)) (fun _ hk => hk.2) (.slice Ao73 t471.length co73)) (fun _ hk => ⟨hk.1.1.1, ⟨hk.1.1.2.1, ⟨hk.1.1.2.2.1, ⟨hk.1.1.2.2.2, hk.1.2⟩⟩⟩⟩)))⟩; have n6_ : Aside0 (w74.heap[gb462]? = some (.cells #[.int .i64 ((rd_T26 l0 x66_3).f0), .int .i64 ((rd_T26 l0 x66_3).f1), .int .i64 ((rd_T26 l0 x66_3).f2), .slice A461_3 ((rd_T26 l0 x66_3).f3).length c461_3, .slice A461_4 ((rd_T26 l0 x66_3).f4).length c461_4] 26 (0, 0))) := ⟨(by rw [hw]; exact (by (with_reducible repeat (first | refine blk_drewN ?_ _ | refine blk_drew ?_ | refine blk_alloc ?_ _)); refine blk_far ?_ NB462_475.out _; (with_reducible repeat (first | refine blk_drewN ?_ _ | refine blk_drew ?_ | refine blk_alloc ?_ _)); refine blk_far ?_ NB462_475.out _; (with_reducible repeat (first | refine blk_drewN ?_ _ | refine blk_drew ?_ | refine blk_alloc ?_ _)); refine blk_far ?_ NB462_475.out _; (with_reducible repeat (first | refine blk_drewN ?_ _ | refine blk_drew ?_ | refine blk_alloc ?_ _)); refine blk_far ?_ NB462_475.out _; (with_reducible repeat (first | refine blk_drewN ?_ _ | refine blk_drew ?_ | refine blk_alloc ?_ _)); refine blk_far ?_ NB462_475.out _; (with_reducible repeat (first | refine blk_drewN ?_ _ | refine blk_drew ?_ | refine blk_alloc ?_ _)); exact BK462.out))⟩; have n7_ : Aside0 (w74.heap[gb475]? = some (.cells #[.int .i64 t465, .int .i64 t466, .int .i64 t467, .slice Ao72 t468.length co72, .slice Ao73 t471.length co73] 26 (0, 0))) := ⟨(by rw [hw]; exact (by (with_reducible repeat (first | refine blk_drewN ?_ _ | refine blk_drew ?_ | refine blk_alloc ?_ _)); refine blk_put (cs := #[.int .i64 t465, .int .i64 t466, .int .i64 t467, .slice Ao72 t468.length co72, .slice none 0 0]) ?_ 4 _ rfl; (with_reducible repeat (first | refine blk_drewN ?_ _ | refine blk_drew ?_ | refine blk_alloc ?_ _)); refine blk_put (cs := #[.int .i64 t465, .int .i64 t466, .int .i64 t467, .slice none 0 0, .slice none 0 0]) ?_ 3 _ rfl; (with_reducible repeat (first | refine blk_drewN ?_ _ | refine blk_drew ?_ | refine blk_alloc ?_ _)); refine blk_put (cs := #[.int .i64 t465, .int .i64 t466, .int .i64 0, .slice none 0 0, .slice none 0 0]) ?_ 2 _ rfl; (with_reducible repeat (first | refine blk_drewN ?_ _ | refine blk_drew ?_ | refine blk_alloc ?_ _)); refine blk_put (cs := #[.int .i64 t465, .int .i64 0, .int .i64 0, .slice none 0 0, .slice none 0 0]) ?_ 1 _ rfl; (with_reducible repeat (first | refine blk_drewN ?_ _ | refine blk_drew ?_ | refine blk_alloc ?_ _)); refine blk_put (cs := #[.int .i64 0, .int .i64 0, .int .i64 0, .slice none 0 0, .slice none 0 0]) ?_ 0 _ rfl; (with_reducible repeat (first | refine blk_drewN ?_ _ | refine blk_drew ?_ | refine blk_alloc ?_ _)); exact BK475.out))⟩; have n8_ : Aside0 (Below w.heap.size w w74) := ⟨(by rw [hw]; exact (by repeat (first | (with_reducible first | exact HB.out | apply below_alloc | apply pw_below_drewN | apply below_drew1 | refine below_set ?_ GE462.out | refine below_set ?_ GE475.out) | exact HB.out)))⟩; clear hw; clear HO_7; clear HO_8; clear HO_12; clear HO_84; clear HO470; clear HO473; clear BK462; clear BK475; clear HB; have HO_7 := n0_; have HO_8 := n1_; have HO_12 := n2_; have HO_84 := n3_; have HO470 := n4_; have HO473 := n5_; have BK462 := n6_; have BK475 := n7_; have HB := n8_; clear n0_ n1_ n2_ n3_ n4_ n5_ n6_ n7_ n8_; obtain ⟨hcz75_0, hcz75_1, hcz75_2, hcz75_3, hcz75_4, hfz75_0, hfz75_1, hfz75_2, hfz75_3, hfz75_4⟩ := bz5_ BK462) | (go_at_call 37; (with_reducible refine (filter_May.calls k5 ((rd_T26 l0 x66_3).f0) ((rd_T26 l0 x66_3).f1) ((rd_T26 l0 x66_3).f2) (fun k_ => k_ < w.heap.size) _ _ ((rd_T26 l0 x66_3).f3) (fun k_ => k_ < w.heap.size) _ _ ((rd_T26 l0 x66_3).f4) _ _ l1 false _ ?side1 ?side2 ?side3 ?side4 A49.out).mono ?_); (case side1 => exact Kd.V_mk HC461_3.out (Kd.F_below (Kd.C_F k62_heap HR461_3.out) (by repeat (first | (with_reducible first | exact HB.out | apply below_alloc | apply pw_below_drewN | apply below_drew1 | refine below_set ?_ GE462.out | refine below_set ?_ GE475.out) | exact HB.out)))); (case side2 => exact Kd.V_mk HC461_4.out (Kd.F_below (Kd.C_F k80_heap HR461_4.out) (by repeat (first | (with_reducible first | exact HB.out | apply below_alloc | apply pw_below_drewN | apply below_drew1 | refine below_set ?_ GE462.out | refine below_set ?_ GE475.out) | exact HB.out)))); (case side3 => repeat (first | exact (Kd.C_below HR1.out HB.out) | with_reducible first | refine Kd.C_alloc ?_ _ | refine Kd.C_drewN ?_ _ | refine Kd.C_drew ?_)); (case side4 => exact HC1.out); rintro e w76 ⟨rfl, hb⟩; replace HO_7 := vb_ HO_7 hb; replace HO_8 := rb_ HO_8 hb; replace HO_12 := rb_ HO_12 hb; replace HO_84 := rb_ HO_84 hb; replace HO470 := vb_ HO470 hb; replace HO473 := vb_ HO473 hb; replace BK462 := bb_ BK462 hb; replace BK475 := bb_ BK475 hb; replace HB := ak (below_step (by repeat (first | (with_reducible first | exact HB.out | apply below_alloc | apply pw_below_drewN | apply below_drew1 | refine below_set ?_ GE462.out | refine below_set ?_ GE475.out) | exact HB.out)) hb); (try clear hb); (try clear hb2); (try clear hk); (try clear hi)))
                                 go_roundg k5
                                 case measure => have := HJ3.out; have := HK2.out; have := HK3.out; have := HK4.out; have := HK5.out; omega
                                 case rel => exact ⟨(wrap64 (x66_3 + 1)), (by first | rfl | (simp; done) | (simp [*]; done)), H', ⟨by have := HJ3.out; have := HK2.out; have := HK3.out; have := HK4.out; have := HK5.out; omega⟩, ⟨Kd.V_mono (vq_ HO_7) (fun _ hk => ⟨hk.1, hk.2.1⟩)⟩, ⟨rq_ HO_8⟩, ⟨Kd.R_mono (rq_ HO_12) (fun _ hk => hk.1)⟩, ⟨by repeat (first | (with_reducible first | exact HB.out | apply below_alloc | apply pw_below_drewN | apply below_drew1 | refine below_set ?_ GE462.out | refine below_set ?_ GE475.out) | exact HB.out)⟩⟩
                               · rw [if_neg c65] at H
                                 have c65b0 : (t474 == 0) = false := beq_eq_false_iff_ne.mpr c65
                                 have c65b1 : (t474 != 0) = true := bne_iff_ne.mpr c65
                                 exact absurd (Option.some.inj H) (by rw [HT.out]; decide)
                         · replace c48 := Bool.eq_false_iff.mpr c48
                           subst c48
                           rw [if_neg (show ¬ (false = true) by decide)] at H
                           by_cases c77 : x16_5 = true
                           · subst c77
                             rw [if_pos rfl] at H
                             exact absurd (Option.some.inj H) (by rw [HT.out]; decide)
                           · replace c77 := Bool.eq_false_iff.mpr c77
                             subst c77
                             rw [if_neg (show ¬ (false = true) by decide)] at H
                             by_cases c78 : t474 = 0
                             · rw [if_pos c78] at H
                               have c78b0 : (t474 == 0) = true := beq_iff_eq.mpr c78
                               have c78b1 : (t474 != 0) = false := bne_eq_false_iff_eq.mpr c78
                               clear c78
                               have H' := ak H
                               clear H
                               obtain ⟨hcz79_0, hcz79_1, hcz79_2, hcz79_3, hcz79_4, hfz79_0, hfz79_1, hfz79_2, hfz79_3, hfz79_4⟩ := bz5_ BK462
                               obtain ⟨Ao80, co80, eo80⟩ := Kd.V_slice HO_7.out
                               subst eo80
                               go_wp2_with (first | ((with_reducible refine gate_callee (f := 23) rfl ?_); refine goesL_ (some 102) rfl rfl Try.func23 (by kernel_rfl) rfl #[.slice Ao80 t446.length co80, .int .i64 ((rd_T26 l0 x66_3).f0)] rfl mp_ ?_; (with_reducible refine (sleep_Find.calls k5 (fun k_ => (some k_ ≠ (.slice Ao41 t449.length co41 : Value).ownBlock ∧ (some k_ ≠ (.slice Ao35 t457.length co35 : Value).ownBlock ∧ (some k_ ≠ (.slice Ao41 t449.length co41 : Value).ownBlock ∧ k_ ≠ gb462)))) _ _ t446 ((rd_T26 l0 x66_3).f0) t465 t466 t467 t468 t471 t474 _ ?side1 A47.out).mono ?_); (case side1 => exact HO_7.out); rintro e w81 ⟨v469, v472, rfl, ho0, ho1, hb⟩; refine ⟨_, rfl, ?_⟩; replace HO_7 := vb_ HO_7 hb; replace HO470 := ak (Kd.V_lower (Kd.V_mono (ok' := fun k_ => some k_ ≠ (.slice Ao41 t449.length co41 : Value).ownBlock ∧ some k_ ≠ (.slice Ao35 t457.length co35 : Value).ownBlock ∧ some k_ ≠ (.slice Ao41 t449.length co41 : Value).ownBlock ∧ k_ ≠ gb462) ho0 (fun k_ hk_ => ⟨Or.elim hk_ (fun hs_ => hs_.1) (fun hn_ => (Kd.fresh' (Kd.R_lt (rq_ HO_8)) k_ hn_)), Or.elim hk_ (fun hs_ => hs_.2.1) (fun hn_ => (Kd.fresh' (Kd.R_lt (rq_ HO_12)) k_ hn_)), Or.elim hk_ (fun hs_ => hs_.2.2.1) (fun hn_ => (Kd.fresh' (Kd.R_lt (rq_ HO_84)) k_ hn_)), Or.elim hk_ (fun hs_ => hs_.2.2.2) (fun hn_ => (Kd.freshB (g := gb462) (o := .cells #[.int .i64 ((rd_T26 l0 x66_3).f0), .int .i64 ((rd_T26 l0 x66_3).f1), .int .i64 ((rd_T26 l0 x66_3).f2), .slice A461_3 ((rd_T26 l0 x66_3).f3).length c461_3, .slice A461_4 ((rd_T26 l0 x66_3).f4).length c461_4] 26 (0, 0)) (bq_ BK462) k_ hn_))⟩)) (below_size bsw_)); replace HO473 := ak (Kd.V_lower (Kd.V_mono (ok' := fun k_ => some k_ ≠ (.slice Ao41 t449.length co41 : Value).ownBlock ∧ some k_ ≠ (.slice Ao35 t457.length co35 : Value).ownBlock ∧ some k_ ≠ (.slice Ao41 t449.length co41 : Value).ownBlock ∧ k_ ≠ gb462) ho1 (fun k_ hk_ => ⟨Or.elim hk_ (fun hs_ => hs_.1) (fun hn_ => (Kd.fresh' (Kd.R_lt (rq_ HO_8)) k_ hn_)), Or.elim hk_ (fun hs_ => hs_.2.1) (fun hn_ => (Kd.fresh' (Kd.R_lt (rq_ HO_12)) k_ hn_)), Or.elim hk_ (fun hs_ => hs_.2.2.1) (fun hn_ => (Kd.fresh' (Kd.R_lt (rq_ HO_84)) k_ hn_)), Or.elim hk_ (fun hs_ => hs_.2.2.2) (fun hn_ => (Kd.freshB (g := gb462) (o := .cells #[.int .i64 ((rd_T26 l0 x66_3).f0), .int .i64 ((rd_T26 l0 x66_3).f1), .int .i64 ((rd_T26 l0 x66_3).f2), .slice A461_3 ((rd_T26 l0 x66_3).f3).length c461_3, .slice A461_4 ((rd_T26 l0 x66_3).f4).length c461_4] 26 (0, 0)) (bq_ BK462) k_ hn_))⟩)) (below_size bsw_)); replace HO_8 := rb_ HO_8 hb; replace HO_12 := rb_ HO_12 hb; replace HO_84 := rb_ HO_84 hb; replace BK462 := bb_ BK462 hb; replace HB := ak (below_step bsw_ hb); (try clear hb); (try clear hb2); (try clear hk); (try clear hi); (try clear ho0); (try clear ho1)) | ((with_reducible refine gate_dst (N := 21) rfl ?_); (try (refine gate_guard (by rfl) ?_; dsimp only)); refine box_event ?hg (N := 21) ?hd (cs := #[.int .i64 0, .int .i64 0, .int .i64 0, .slice none 0 0, .slice none 0 0]) (t := 26) ?hr ?_; (case hd => rfl); (case hg => rfl); (case hr => first | (go_simp; done) | (go_simp; rfl)); intro gb475 hg w82 hbox hb; replace HO_7 := ak (Kd.V_below (Kd.V_elderB (vq_ HO_7) gb475 (Nat.le_of_eq hg.symm)) hb); replace HO_8 := rb_ HO_8 hb; replace HO_12 := rb_ HO_12 hb; replace HO_84 := rb_ HO_84 hb; replace HO470 := ak (Kd.V_below (Kd.V_elderB (vq_ HO470) gb475 (Nat.le_of_eq hg.symm)) hb); replace HO473 := ak (Kd.V_below (Kd.V_elderB (vq_ HO473) gb475 (Nat.le_of_eq hg.symm)) hb); replace BK475 := ak (hbox); replace GW475 := ak ((by rw [hg]; exact (below_size bsw_) : w.heap.size ≤ gb475)); replace HB := ak (below_step bsw_ hb); replace GE475 := GW475; replace NB462_475 := ak ((by rw [hg]; exact Nat.ne_of_lt (blk_lt (g := gb462) (o := .cells #[.int .i64 ((rd_T26 l0 x66_3).f0), .int .i64 ((rd_T26 l0 x66_3).f1), .int .i64 ((rd_T26 l0 x66_3).f2), .slice A461_3 ((rd_T26 l0 x66_3).f3).length c461_3, .slice A461_4 ((rd_T26 l0 x66_3).f4).length c461_4] 26 (0, 0)) (bq_ BK462)) : gb462 ≠ gb475)); replace NB475_462 := ak ((by rw [hg]; exact Nat.ne_of_gt (blk_lt (g := gb462) (o := .cells #[.int .i64 ((rd_T26 l0 x66_3).f0), .int .i64 ((rd_T26 l0 x66_3).f1), .int .i64 ((rd_T26 l0 x66_3).f2), .slice A461_3 ((rd_T26 l0 x66_3).f3).length c461_3, .slice A461_4 ((rd_T26 l0 x66_3).f4).length c461_4] 26 (0, 0)) (bq_ BK462)) : gb475 ≠ gb462)); replace BK462 := bb_ BK462 hb; clear hb hbox hg; have hnb83 := NB475_462.out; have hnc83 := NB462_475.out; obtain ⟨hcz84_0, hcz84_1, hcz84_2, hcz84_3, hcz84_4, hfz84_0, hfz84_1, hfz84_2, hfz84_3, hfz84_4⟩ := bz5_ BK475; obtain ⟨Ao85, co85, eo85⟩ := Kd.V_slice HO470.out; subst eo85; obtain ⟨Ao86, co86, eo86⟩ := Kd.V_slice HO473.out; subst eo86))
                               go_roundg k5
                               case measure => have := HJ3.out; have := HK2.out; have := HK3.out; have := HK4.out; have := HK5.out; omega
                               case rel => exact ⟨(wrap64 (x66_3 + 1)), (by first | rfl | (simp; done) | (simp [*]; done)), H', ⟨by have := HJ3.out; have := HK2.out; have := HK3.out; have := HK4.out; have := HK5.out; omega⟩, ⟨by (with_reducible repeat (first | apply Kd.V_alloc | apply Kd.V_drewN | apply Kd.V_drew)); exact Kd.V_mono (Kd.V_far (p := ⟨gb475, 4, none⟩) (Kd.V_far (p := ⟨gb475, 3, none⟩) (Kd.V_far (p := ⟨gb475, 2, none⟩) (Kd.V_far (p := ⟨gb475, 1, none⟩) (Kd.V_far (p := ⟨gb475, 0, none⟩) (Kd.V_mono HO_7.out (fun k_ hk => (⟨hk, hk.2⟩ : _ ∧ k_ ≠ gb475))) (fun _ hk => hk.2) (.int .i64 t465)) (fun _ hk => hk.2) (.int .i64 t466)) (fun _ hk => hk.2) (.int .i64 t467)) (fun _ hk => hk.2) (.slice Ao85 t468.length co85)) (fun _ hk => hk.2) (.slice Ao86 t471.length co86)) (fun _ hk => ⟨hk.1.1.1, hk.1.1.2.1⟩)⟩, ⟨by (with_reducible repeat (first | apply Kd.R_alloc | apply Kd.R_drewN | apply Kd.R_drew)); exact Kd.R_mono (Kd.R_far (p := ⟨gb475, 4, none⟩) (Kd.R_far (p := ⟨gb475, 3, none⟩) (Kd.R_far (p := ⟨gb475, 2, none⟩) (Kd.R_far (p := ⟨gb475, 1, none⟩) (Kd.R_far (p := ⟨gb475, 0, none⟩) (Kd.R_types HO_8.out BK475.out (by decide)) (fun _ hk => hk.2) (.int .i64 t465)) (fun _ hk => hk.2) (.int .i64 t466)) (fun _ hk => hk.2) (.int .i64 t467)) (fun _ hk => hk.2) (.slice Ao85 t468.length co85)) (fun _ hk => hk.2) (.slice Ao86 t471.length co86)) (fun _ hk => hk.1)⟩, ⟨by (with_reducible repeat (first | apply Kd.R_alloc | apply Kd.R_drewN | apply Kd.R_drew)); exact Kd.R_mono (Kd.R_far (p := ⟨gb475, 4, none⟩) (Kd.R_far (p := ⟨gb475, 3, none⟩) (Kd.R_far (p := ⟨gb475, 2, none⟩) (Kd.R_far (p := ⟨gb475, 1, none⟩) (Kd.R_far (p := ⟨gb475, 0, none⟩) (Kd.R_types HO_12.out BK475.out (by decide)) (fun _ hk => hk.2) (.int .i64 t465)) (fun _ hk => hk.2) (.int .i64 t466)) (fun _ hk => hk.2) (.int .i64 t467)) (fun _ hk => hk.2) (.slice Ao85 t468.length co85)) (fun _ hk => hk.2) (.slice Ao86 t471.length co86)) (fun _ hk => hk.1.1)⟩, ⟨by repeat (first | (with_reducible first | exact HB.out | apply below_alloc | apply pw_below_drewN | apply below_drew1 | refine below_set ?_ GE462.out | refine below_set ?_ GE475.out) | exact HB.out)⟩⟩
                             · rw [if_neg c78] at H
                               have c78b0 : (t474 == 0) = false := beq_eq_false_iff_ne.mpr c78
                               have c78b1 : (t474 != 0) = true := bne_iff_ne.mpr c78
                               exact absurd (Option.some.inj H) (by rw [HT.out]; decide)
               · rw [if_neg c32] at H
                 exact absurd H (by simp)
             · rw [if_neg c31] at H
               exact absurd H (by simp)
           · rw [if_neg c30] at H
             have c30b0 : decide (x66_3 < (l0.length : Int)) = false := decide_eq_false c30
             clear c30
             by_cases c87 : (wrap64 ((t446.length : Int) + (t449.length : Int))) = (l0.length : Int)
             · rw [if_pos c87] at H
               have c87b0 : ((wrap64 ((t446.length : Int) + (t449.length : Int))) == (l0.length : Int)) = true := beq_iff_eq.mpr c87
               have c87b1 : ((wrap64 ((t446.length : Int) + (t449.length : Int))) != (l0.length : Int)) = false := bne_eq_false_iff_eq.mpr c87
               clear c87
               obtain ⟨t460, A88, H⟩ := bd_ H
               obtain rfl := Option.some.inj H
               obtain ⟨Ao89, co89, eo89⟩ := Kd.V_slice HO_7.out
               subst eo89
               obtain ⟨Ao90, co90, eo90⟩ := Kd.R_slice HO_8.out
               subst eo90
               go_wp2_with (first | (go_at_call 35; (with_reducible refine (handshakerlaw16_awake.calls k3  t460 _ A88.out).mono ?_); rintro e w91 ⟨rfl, hb⟩; replace HO_7 := vb_ HO_7 hb; replace HO_8 := rb_ HO_8 hb; replace HO_12 := rb_ HO_12 hb; replace HB := ak (bst_ hb); (try clear hb); (try clear hb2); (try clear hk); (try clear hi)))
               go_ret
               exact ⟨by first | rfl | (simp [errW_none, errW_some] <;> rfl) | (simp [*, errW_none, errW_some] <;> rfl), bsv_⟩
             · rw [if_neg c87] at H
               have c87b0 : ((wrap64 ((t446.length : Int) + (t449.length : Int))) == (l0.length : Int)) = false := beq_eq_false_iff_ne.mpr c87
               have c87b1 : ((wrap64 ((t446.length : Int) + (t449.length : Int))) != (l0.length : Int)) = true := bne_iff_ne.mpr c87
               exact absurd (Option.some.inj H) (by rw [HT.out]; decide)

/-- THE ONE PURE STATEMENT of handshakerlaw16_FilterSure. -/
def handshakerlaw16_FilterSure.Pure : Prop := ∀ (l0 : List (S26)) (l1 : List (S98)) (l2 : List (S62)), l0.length ≤ maxLen → l0.length * 72 ≤ 140737488351232 → (∀ y ∈ l0, wfS26 y) → l1.length ≤ maxLen → l1.length * 16 ≤ 140737488351232 → (∀ y ∈ l1, wfS98 y) → l2.length ≤ maxLen → l2.length * 16 ≤ 140737488351232 → (∀ y ∈ l2, wfS62 y) → ∃ k, handshakerlaw16_FilterSure.f k l0 l1 l2 = some true

end Go.Proofs.Ytjnkpocfmpbpoaa.F
