-- PRINTED by print.py (a twelfth state) out of the translation. Not trusted: Lean checks it.
import Derived.Test.YtbcpnbmegaodbaaCox0
import Derived.Test.YtbcpnbmegaodbaaCox1
import Derived.Test.YtbcpnbmegaodbaaCox2
import Derived.Test.YtbcpnbmegaodbaaCox4
namespace Go.Proofs.Ytbcpnbmegaodbaa.Co
open Go.Proofs.Ytbcpnbmegaodbaa.Ho
open Go.RowKit Go.Proofs.YtbcpnbmegaodbaaW.PrintWords Go.Proofs.YtbcpnbmegaodbaaW.PrintLast Go.Proofs.YtbcpnbmegaodbaaW.PrintMore
attribute [local go_sem] max2_int min2_int max_two min_two max_three min_three max_four min_four   -- for this text's walks alone
set_option linter.unusedVariables false
set_option linter.unusedSimpArgs false

/-! ### handshakerlaw08_CodeOne: function 8 -/
mutual
def handshakerlaw08_CodeOne.j0 : Nat → Bool → Int → Int → Int → List (S41) → Option (Bool)
 | 0, _, _, _, _, _ => none
 | k + 1, x3, x208000, x208001, x208002, x208003 => if x208001 ≥ 0 then (handshakerlaw08_CodeOne.j1 k x3 (decide (x208001 < 64)) x208000 x208001 x208002 x208003) else (handshakerlaw08_CodeOne.j1 k x3 false x208000 x208001 x208002 x208003)
def handshakerlaw08_CodeOne.j1 : Nat → Bool → Bool → Int → Int → Int → List (S41) → Option (Bool)
 | 0, _, _, _, _, _, _ => none
 | k + 1, x3, x4, x208000, x208001, x208002, x208003 => (term_Check.f k x208003).bind fun t209 => (if t209 = 0 then ((term_Cells.f k x208003).bind fun t210 => (handshakerlaw08_CodeOne.j2 k x3 x4 ((x208003.length : Int) == 0) ((t210.length : Int) == 0) x208000 x208001 x208002 x208003)) else (handshakerlaw08_CodeOne.j2 k x3 x4 ((x208003.length : Int) == 0) false x208000 x208001 x208002 x208003))
def handshakerlaw08_CodeOne.j2 : Nat → Bool → Bool → Bool → Bool → Int → Int → Int → List (S41) → Option (Bool)
 | 0, _, _, _, _, _, _, _, _ => none
 | k + 1, x3, x4, x5, x6, x208000, x208001, x208002, x208003 => if x208001 ≥ 1 then (handshakerlaw08_CodeOne.j3 k x3 x4 x5 x6 (decide (x208001 ≤ 24)) x208000 x208001 x208002 x208003) else (handshakerlaw08_CodeOne.j3 k x3 x4 x5 x6 false x208000 x208001 x208002 x208003)
def handshakerlaw08_CodeOne.j3 : Nat → Bool → Bool → Bool → Bool → Bool → Int → Int → Int → List (S41) → Option (Bool)
 | 0, _, _, _, _, _, _, _, _, _ => none
 | k + 1, x3, x4, x5, x6, x7, x208000, x208001, x208002, x208003 => if x208000 = 1 then (if x5 = true then (if x3 = true then (if x208002 ≥ 0 then (handshakerlaw08_CodeOne.j4 k 1 (decide (x208002 < 64)) x208000 x208001 x208002 x208003) else (handshakerlaw08_CodeOne.j4 k 1 false x208000 x208001 x208002 x208003)) else (handshakerlaw08_CodeOne.j4 k 1 false x208000 x208001 x208002 x208003)) else (handshakerlaw08_CodeOne.j4 k 1 false x208000 x208001 x208002 x208003)) else (if x208000 = 2 then (handshakerlaw08_CodeOne.j5 k x3 x4 x5 x6 x7 1 x208000 (x208000 == 2) x208000 x208001 x208002 x208003) else (handshakerlaw08_CodeOne.j5 k x3 x4 x5 x6 x7 1 x208000 (x208000 == 3) x208000 x208001 x208002 x208003))
def handshakerlaw08_CodeOne.j11 : Nat → Int → Int → Int → Int → List (S41) → Option (Bool)
 | 0, _, _, _, _, _ => none
 | k + 1, x8, x208000, x208001, x208002, x208003 => (code_Check.f k (([(⟨x208000, x208001, x208002, x208003⟩ : S37)] : List (S37)))).bind fun t216 => (if t216 = x8 then ((handshakerlaw08_awake.f k).bind fun t217 => (some t217)) else (some false))
def handshakerlaw08_CodeOne.j4 : Nat → Int → Bool → Int → Int → Int → List (S41) → Option (Bool)
 | 0, _, _, _, _, _, _ => none
 | k + 1, x8, x70, x208000, x208001, x208002, x208003 => if x70 = true then (handshakerlaw08_CodeOne.j11 k 0 x208000 x208001 x208002 x208003) else (handshakerlaw08_CodeOne.j11 k x8 x208000 x208001 x208002 x208003)
def handshakerlaw08_CodeOne.j5 : Nat → Bool → Bool → Bool → Bool → Bool → Int → Int → Bool → Int → Int → Int → List (S41) → Option (Bool)
 | 0, _, _, _, _, _, _, _, _, _, _, _, _ => none
 | k + 1, x3, x4, x5, x6, x7, x8, x54, x71, x208000, x208001, x208002, x208003 => if x71 = true then (if x6 = true then (if x208002 = 0 then (if x208000 = 2 then (if x3 = true then (handshakerlaw08_CodeOne.j6 k x8 true x208000 x208001 x208002 x208003) else (if x208000 = 3 then (handshakerlaw08_CodeOne.j6 k x8 x4 x208000 x208001 x208002 x208003) else (handshakerlaw08_CodeOne.j6 k x8 false x208000 x208001 x208002 x208003))) else (if x208000 = 3 then (handshakerlaw08_CodeOne.j6 k x8 x4 x208000 x208001 x208002 x208003) else (handshakerlaw08_CodeOne.j6 k x8 false x208000 x208001 x208002 x208003))) else (handshakerlaw08_CodeOne.j6 k x8 false x208000 x208001 x208002 x208003)) else (handshakerlaw08_CodeOne.j6 k x8 false x208000 x208001 x208002 x208003)) else (if x54 = 4 then (if x6 = true then (if x208002 = 0 then (handshakerlaw08_CodeOne.j7 k x8 x7 x208000 x208001 x208002 x208003) else (handshakerlaw08_CodeOne.j7 k x8 false x208000 x208001 x208002 x208003)) else (handshakerlaw08_CodeOne.j7 k x8 false x208000 x208001 x208002 x208003)) else (if x54 = 5 then (handshakerlaw08_CodeOne.j8 k x5 x7 x8 x54 (x54 == 5) x208000 x208001 x208002 x208003) else (handshakerlaw08_CodeOne.j8 k x5 x7 x8 x54 (x54 == 6) x208000 x208001 x208002 x208003)))
def handshakerlaw08_CodeOne.j6 : Nat → Int → Bool → Int → Int → Int → List (S41) → Option (Bool)
 | 0, _, _, _, _, _, _ => none
 | k + 1, x8, x95, x208000, x208001, x208002, x208003 => if x95 = true then (handshakerlaw08_CodeOne.j11 k 0 x208000 x208001 x208002 x208003) else (handshakerlaw08_CodeOne.j11 k x8 x208000 x208001 x208002 x208003)
def handshakerlaw08_CodeOne.j7 : Nat → Int → Bool → Int → Int → Int → List (S41) → Option (Bool)
 | 0, _, _, _, _, _, _ => none
 | k + 1, x8, x106, x208000, x208001, x208002, x208003 => if x106 = true then (handshakerlaw08_CodeOne.j11 k 2 x208000 x208001 x208002 x208003) else (handshakerlaw08_CodeOne.j11 k x8 x208000 x208001 x208002 x208003)
def handshakerlaw08_CodeOne.j8 : Nat → Bool → Bool → Int → Int → Bool → Int → Int → Int → List (S41) → Option (Bool)
 | 0, _, _, _, _, _, _, _, _, _ => none
 | k + 1, x5, x7, x8, x54, x107, x208000, x208001, x208002, x208003 => if x107 = true then (if x5 = true then (if x208002 = 0 then (if x208000 = 5 then (if x208001 = 0 then (handshakerlaw08_CodeOne.j9 k x8 true x208000 x208001 x208002 x208003) else (if x208000 = 6 then (if x208001 ≥ 0 then (handshakerlaw08_CodeOne.j9 k x8 (decide (x208001 < 256)) x208000 x208001 x208002 x208003) else (handshakerlaw08_CodeOne.j9 k x8 false x208000 x208001 x208002 x208003)) else (handshakerlaw08_CodeOne.j9 k x8 false x208000 x208001 x208002 x208003))) else (if x208000 = 6 then (if x208001 ≥ 0 then (handshakerlaw08_CodeOne.j9 k x8 (decide (x208001 < 256)) x208000 x208001 x208002 x208003) else (handshakerlaw08_CodeOne.j9 k x8 false x208000 x208001 x208002 x208003)) else (handshakerlaw08_CodeOne.j9 k x8 false x208000 x208001 x208002 x208003))) else (handshakerlaw08_CodeOne.j9 k x8 false x208000 x208001 x208002 x208003)) else (handshakerlaw08_CodeOne.j9 k x8 false x208000 x208001 x208002 x208003)) else (if x54 = 7 then (if x5 = true then (if x7 = true then (if x208002 ≥ 1 then (handshakerlaw08_CodeOne.j10 k x8 (decide (x208002 ≤ 24)) x208000 x208001 x208002 x208003) else (handshakerlaw08_CodeOne.j10 k x8 false x208000 x208001 x208002 x208003)) else (handshakerlaw08_CodeOne.j10 k x8 false x208000 x208001 x208002 x208003)) else (handshakerlaw08_CodeOne.j10 k x8 false x208000 x208001 x208002 x208003)) else (handshakerlaw08_CodeOne.j11 k x8 x208000 x208001 x208002 x208003))
def handshakerlaw08_CodeOne.j9 : Nat → Int → Bool → Int → Int → Int → List (S41) → Option (Bool)
 | 0, _, _, _, _, _, _ => none
 | k + 1, x8, x140, x208000, x208001, x208002, x208003 => if x140 = true then (handshakerlaw08_CodeOne.j11 k 0 x208000 x208001 x208002 x208003) else (handshakerlaw08_CodeOne.j11 k x8 x208000 x208001 x208002 x208003)
def handshakerlaw08_CodeOne.j10 : Nat → Int → Bool → Int → Int → Int → List (S41) → Option (Bool)
 | 0, _, _, _, _, _, _ => none
 | k + 1, x8, x156, x208000, x208001, x208002, x208003 => if x156 = true then (handshakerlaw08_CodeOne.j11 k 2 x208000 x208001 x208002 x208003) else (handshakerlaw08_CodeOne.j11 k x8 x208000 x208001 x208002 x208003)
end
def handshakerlaw08_CodeOne.f (k : Nat) (a0_0 : Int) (a0_1 : Int) (a0_2 : Int) (l0_3 : List (S41)) : Option (Bool) := if (l0_3.length : Int) > 20 then ((handshakerlaw08_awake.f k).bind fun t208 => (some t208)) else (if a0_1 ≥ 0 then (handshakerlaw08_CodeOne.j0 k (decide (a0_1 < 8)) a0_0 a0_1 a0_2 l0_3) else (handshakerlaw08_CodeOne.j0 k false a0_0 a0_1 a0_2 l0_3))
theorem handshakerlaw08_CodeOne.mono_l : ∀ k, (∀ y0 y1 y2 y3 y4, LeO (handshakerlaw08_CodeOne.j0 k y0 y1 y2 y3 y4) (handshakerlaw08_CodeOne.j0 (k + 1) y0 y1 y2 y3 y4)) ∧ (∀ y0 y1 y2 y3 y4 y5, LeO (handshakerlaw08_CodeOne.j1 k y0 y1 y2 y3 y4 y5) (handshakerlaw08_CodeOne.j1 (k + 1) y0 y1 y2 y3 y4 y5)) ∧ (∀ y0 y1 y2 y3 y4 y5 y6 y7, LeO (handshakerlaw08_CodeOne.j2 k y0 y1 y2 y3 y4 y5 y6 y7) (handshakerlaw08_CodeOne.j2 (k + 1) y0 y1 y2 y3 y4 y5 y6 y7)) ∧ (∀ y0 y1 y2 y3 y4 y5 y6 y7 y8, LeO (handshakerlaw08_CodeOne.j3 k y0 y1 y2 y3 y4 y5 y6 y7 y8) (handshakerlaw08_CodeOne.j3 (k + 1) y0 y1 y2 y3 y4 y5 y6 y7 y8)) ∧ (∀ y0 y1 y2 y3 y4, LeO (handshakerlaw08_CodeOne.j11 k y0 y1 y2 y3 y4) (handshakerlaw08_CodeOne.j11 (k + 1) y0 y1 y2 y3 y4)) ∧ (∀ y0 y1 y2 y3 y4 y5, LeO (handshakerlaw08_CodeOne.j4 k y0 y1 y2 y3 y4 y5) (handshakerlaw08_CodeOne.j4 (k + 1) y0 y1 y2 y3 y4 y5)) ∧ (∀ y0 y1 y2 y3 y4 y5 y6 y7 y8 y9 y10 y11, LeO (handshakerlaw08_CodeOne.j5 k y0 y1 y2 y3 y4 y5 y6 y7 y8 y9 y10 y11) (handshakerlaw08_CodeOne.j5 (k + 1) y0 y1 y2 y3 y4 y5 y6 y7 y8 y9 y10 y11)) ∧ (∀ y0 y1 y2 y3 y4 y5, LeO (handshakerlaw08_CodeOne.j6 k y0 y1 y2 y3 y4 y5) (handshakerlaw08_CodeOne.j6 (k + 1) y0 y1 y2 y3 y4 y5)) ∧ (∀ y0 y1 y2 y3 y4 y5, LeO (handshakerlaw08_CodeOne.j7 k y0 y1 y2 y3 y4 y5) (handshakerlaw08_CodeOne.j7 (k + 1) y0 y1 y2 y3 y4 y5)) ∧ (∀ y0 y1 y2 y3 y4 y5 y6 y7 y8, LeO (handshakerlaw08_CodeOne.j8 k y0 y1 y2 y3 y4 y5 y6 y7 y8) (handshakerlaw08_CodeOne.j8 (k + 1) y0 y1 y2 y3 y4 y5 y6 y7 y8)) ∧ (∀ y0 y1 y2 y3 y4 y5, LeO (handshakerlaw08_CodeOne.j9 k y0 y1 y2 y3 y4 y5) (handshakerlaw08_CodeOne.j9 (k + 1) y0 y1 y2 y3 y4 y5)) ∧ (∀ y0 y1 y2 y3 y4 y5, LeO (handshakerlaw08_CodeOne.j10 k y0 y1 y2 y3 y4 y5) (handshakerlaw08_CodeOne.j10 (k + 1) y0 y1 y2 y3 y4 y5))
 | 0 => ⟨fun _ _ _ _ _ r h => by simp [handshakerlaw08_CodeOne.j0] at h, fun _ _ _ _ _ _ r h => by simp [handshakerlaw08_CodeOne.j1] at h, fun _ _ _ _ _ _ _ _ r h => by simp [handshakerlaw08_CodeOne.j2] at h, fun _ _ _ _ _ _ _ _ _ r h => by simp [handshakerlaw08_CodeOne.j3] at h, fun _ _ _ _ _ r h => by simp [handshakerlaw08_CodeOne.j11] at h, fun _ _ _ _ _ _ r h => by simp [handshakerlaw08_CodeOne.j4] at h, fun _ _ _ _ _ _ _ _ _ _ _ _ r h => by simp [handshakerlaw08_CodeOne.j5] at h, fun _ _ _ _ _ _ r h => by simp [handshakerlaw08_CodeOne.j6] at h, fun _ _ _ _ _ _ r h => by simp [handshakerlaw08_CodeOne.j7] at h, fun _ _ _ _ _ _ _ _ _ r h => by simp [handshakerlaw08_CodeOne.j8] at h, fun _ _ _ _ _ _ r h => by simp [handshakerlaw08_CodeOne.j9] at h, fun _ _ _ _ _ _ r h => by simp [handshakerlaw08_CodeOne.j10] at h⟩
 | k + 1 => by
  obtain ⟨ih0, ih1, ih2, ih3, ih4, ih5, ih6, ih7, ih8, ih9, ih10, ih11⟩ := handshakerlaw08_CodeOne.mono_l k
  refine ⟨?_, ?_, ?_, ?_, ?_, ?_, ?_, ?_, ?_, ?_, ?_, ?_⟩
  · intro y0 y1 y2 y3 y4
    unfold handshakerlaw08_CodeOne.j0
    repeat' first
    | (with_reducible exact ih0 _ _ _ _ _)
    | (with_reducible exact ih1 _ _ _ _ _ _)
    | (with_reducible exact ih2 _ _ _ _ _ _ _ _)
    | (with_reducible exact ih3 _ _ _ _ _ _ _ _ _)
    | (with_reducible exact ih4 _ _ _ _ _)
    | (with_reducible exact ih5 _ _ _ _ _ _)
    | (with_reducible exact ih6 _ _ _ _ _ _ _ _ _ _ _ _)
    | (with_reducible exact ih7 _ _ _ _ _ _)
    | (with_reducible exact ih8 _ _ _ _ _ _)
    | (with_reducible exact ih9 _ _ _ _ _ _ _ _ _)
    | (with_reducible exact ih10 _ _ _ _ _ _)
    | (with_reducible exact ih11 _ _ _ _ _ _)
    | (with_reducible exact code_Check.mono _ _)
    | (with_reducible exact handshakerlaw08_awake.mono _)
    | (with_reducible exact term_Cells.mono _ _)
    | (with_reducible exact term_Check.mono _ _)
    | (with_reducible exact LeO.refl _)
    | (with_reducible exact LeO.none _)
    | (with_reducible refine LeO.ite ?_ ?_)
    | (with_reducible refine LeO.bind ?_ (fun _ => ?_))
    | exact ih0 _ _ _ _ _
    | exact ih1 _ _ _ _ _ _
    | exact ih2 _ _ _ _ _ _ _ _
    | exact ih3 _ _ _ _ _ _ _ _ _
    | exact ih4 _ _ _ _ _
    | exact ih5 _ _ _ _ _ _
    | exact ih6 _ _ _ _ _ _ _ _ _ _ _ _
    | exact ih7 _ _ _ _ _ _
    | exact ih8 _ _ _ _ _ _
    | exact ih9 _ _ _ _ _ _ _ _ _
    | exact ih10 _ _ _ _ _ _
    | exact ih11 _ _ _ _ _ _
    | exact code_Check.mono _ _
    | exact handshakerlaw08_awake.mono _
    | exact term_Cells.mono _ _
    | exact term_Check.mono _ _
    | exact LeO.none _
    | refine LeO.ite ?_ ?_
    | refine LeO.bind ?_ (fun _ => ?_)
  · intro y0 y1 y2 y3 y4 y5
    unfold handshakerlaw08_CodeOne.j1
    repeat' first
    | (with_reducible exact ih0 _ _ _ _ _)
    | (with_reducible exact ih1 _ _ _ _ _ _)
    | (with_reducible exact ih2 _ _ _ _ _ _ _ _)
    | (with_reducible exact ih3 _ _ _ _ _ _ _ _ _)
    | (with_reducible exact ih4 _ _ _ _ _)
    | (with_reducible exact ih5 _ _ _ _ _ _)
    | (with_reducible exact ih6 _ _ _ _ _ _ _ _ _ _ _ _)
    | (with_reducible exact ih7 _ _ _ _ _ _)
    | (with_reducible exact ih8 _ _ _ _ _ _)
    | (with_reducible exact ih9 _ _ _ _ _ _ _ _ _)
    | (with_reducible exact ih10 _ _ _ _ _ _)
    | (with_reducible exact ih11 _ _ _ _ _ _)
    | (with_reducible exact code_Check.mono _ _)
    | (with_reducible exact handshakerlaw08_awake.mono _)
    | (with_reducible exact term_Cells.mono _ _)
    | (with_reducible exact term_Check.mono _ _)
    | (with_reducible exact LeO.refl _)
    | (with_reducible exact LeO.none _)
    | (with_reducible refine LeO.ite ?_ ?_)
    | (with_reducible refine LeO.bind ?_ (fun _ => ?_))
    | exact ih0 _ _ _ _ _
    | exact ih1 _ _ _ _ _ _
    | exact ih2 _ _ _ _ _ _ _ _
    | exact ih3 _ _ _ _ _ _ _ _ _
    | exact ih4 _ _ _ _ _
    | exact ih5 _ _ _ _ _ _
    | exact ih6 _ _ _ _ _ _ _ _ _ _ _ _
    | exact ih7 _ _ _ _ _ _
    | exact ih8 _ _ _ _ _ _
    | exact ih9 _ _ _ _ _ _ _ _ _
    | exact ih10 _ _ _ _ _ _
    | exact ih11 _ _ _ _ _ _
    | exact code_Check.mono _ _
    | exact handshakerlaw08_awake.mono _
    | exact term_Cells.mono _ _
    | exact term_Check.mono _ _
    | exact LeO.none _
    | refine LeO.ite ?_ ?_
    | refine LeO.bind ?_ (fun _ => ?_)
  · intro y0 y1 y2 y3 y4 y5 y6 y7
    unfold handshakerlaw08_CodeOne.j2
    repeat' first
    | (with_reducible exact ih0 _ _ _ _ _)
    | (with_reducible exact ih1 _ _ _ _ _ _)
    | (with_reducible exact ih2 _ _ _ _ _ _ _ _)
    | (with_reducible exact ih3 _ _ _ _ _ _ _ _ _)
    | (with_reducible exact ih4 _ _ _ _ _)
    | (with_reducible exact ih5 _ _ _ _ _ _)
    | (with_reducible exact ih6 _ _ _ _ _ _ _ _ _ _ _ _)
    | (with_reducible exact ih7 _ _ _ _ _ _)
    | (with_reducible exact ih8 _ _ _ _ _ _)
    | (with_reducible exact ih9 _ _ _ _ _ _ _ _ _)
    | (with_reducible exact ih10 _ _ _ _ _ _)
    | (with_reducible exact ih11 _ _ _ _ _ _)
    | (with_reducible exact code_Check.mono _ _)
    | (with_reducible exact handshakerlaw08_awake.mono _)
    | (with_reducible exact term_Cells.mono _ _)
    | (with_reducible exact term_Check.mono _ _)
    | (with_reducible exact LeO.refl _)
    | (with_reducible exact LeO.none _)
    | (with_reducible refine LeO.ite ?_ ?_)
    | (with_reducible refine LeO.bind ?_ (fun _ => ?_))
    | exact ih0 _ _ _ _ _
    | exact ih1 _ _ _ _ _ _
    | exact ih2 _ _ _ _ _ _ _ _
    | exact ih3 _ _ _ _ _ _ _ _ _
    | exact ih4 _ _ _ _ _
    | exact ih5 _ _ _ _ _ _
    | exact ih6 _ _ _ _ _ _ _ _ _ _ _ _
    | exact ih7 _ _ _ _ _ _
    | exact ih8 _ _ _ _ _ _
    | exact ih9 _ _ _ _ _ _ _ _ _
    | exact ih10 _ _ _ _ _ _
    | exact ih11 _ _ _ _ _ _
    | exact code_Check.mono _ _
    | exact handshakerlaw08_awake.mono _
    | exact term_Cells.mono _ _
    | exact term_Check.mono _ _
    | exact LeO.none _
    | refine LeO.ite ?_ ?_
    | refine LeO.bind ?_ (fun _ => ?_)
  · intro y0 y1 y2 y3 y4 y5 y6 y7 y8
    unfold handshakerlaw08_CodeOne.j3
    repeat' first
    | (with_reducible exact ih0 _ _ _ _ _)
    | (with_reducible exact ih1 _ _ _ _ _ _)
    | (with_reducible exact ih2 _ _ _ _ _ _ _ _)
    | (with_reducible exact ih3 _ _ _ _ _ _ _ _ _)
    | (with_reducible exact ih4 _ _ _ _ _)
    | (with_reducible exact ih5 _ _ _ _ _ _)
    | (with_reducible exact ih6 _ _ _ _ _ _ _ _ _ _ _ _)
    | (with_reducible exact ih7 _ _ _ _ _ _)
    | (with_reducible exact ih8 _ _ _ _ _ _)
    | (with_reducible exact ih9 _ _ _ _ _ _ _ _ _)
    | (with_reducible exact ih10 _ _ _ _ _ _)
    | (with_reducible exact ih11 _ _ _ _ _ _)
    | (with_reducible exact code_Check.mono _ _)
    | (with_reducible exact handshakerlaw08_awake.mono _)
    | (with_reducible exact term_Cells.mono _ _)
    | (with_reducible exact term_Check.mono _ _)
    | (with_reducible exact LeO.refl _)
    | (with_reducible exact LeO.none _)
    | (with_reducible refine LeO.ite ?_ ?_)
    | (with_reducible refine LeO.bind ?_ (fun _ => ?_))
    | exact ih0 _ _ _ _ _
    | exact ih1 _ _ _ _ _ _
    | exact ih2 _ _ _ _ _ _ _ _
    | exact ih3 _ _ _ _ _ _ _ _ _
    | exact ih4 _ _ _ _ _
    | exact ih5 _ _ _ _ _ _
    | exact ih6 _ _ _ _ _ _ _ _ _ _ _ _
    | exact ih7 _ _ _ _ _ _
    | exact ih8 _ _ _ _ _ _
    | exact ih9 _ _ _ _ _ _ _ _ _
    | exact ih10 _ _ _ _ _ _
    | exact ih11 _ _ _ _ _ _
    | exact code_Check.mono _ _
    | exact handshakerlaw08_awake.mono _
    | exact term_Cells.mono _ _
    | exact term_Check.mono _ _
    | exact LeO.none _
    | refine LeO.ite ?_ ?_
    | refine LeO.bind ?_ (fun _ => ?_)
  · intro y0 y1 y2 y3 y4
    unfold handshakerlaw08_CodeOne.j11
    repeat' first
    | (with_reducible exact ih0 _ _ _ _ _)
    | (with_reducible exact ih1 _ _ _ _ _ _)
    | (with_reducible exact ih2 _ _ _ _ _ _ _ _)
    | (with_reducible exact ih3 _ _ _ _ _ _ _ _ _)
    | (with_reducible exact ih4 _ _ _ _ _)
    | (with_reducible exact ih5 _ _ _ _ _ _)
    | (with_reducible exact ih6 _ _ _ _ _ _ _ _ _ _ _ _)
    | (with_reducible exact ih7 _ _ _ _ _ _)
    | (with_reducible exact ih8 _ _ _ _ _ _)
    | (with_reducible exact ih9 _ _ _ _ _ _ _ _ _)
    | (with_reducible exact ih10 _ _ _ _ _ _)
    | (with_reducible exact ih11 _ _ _ _ _ _)
    | (with_reducible exact code_Check.mono _ _)
    | (with_reducible exact handshakerlaw08_awake.mono _)
    | (with_reducible exact term_Cells.mono _ _)
    | (with_reducible exact term_Check.mono _ _)
    | (with_reducible exact LeO.refl _)
    | (with_reducible exact LeO.none _)
    | (with_reducible refine LeO.ite ?_ ?_)
    | (with_reducible refine LeO.bind ?_ (fun _ => ?_))
    | exact ih0 _ _ _ _ _
    | exact ih1 _ _ _ _ _ _
    | exact ih2 _ _ _ _ _ _ _ _
    | exact ih3 _ _ _ _ _ _ _ _ _
    | exact ih4 _ _ _ _ _
    | exact ih5 _ _ _ _ _ _
    | exact ih6 _ _ _ _ _ _ _ _ _ _ _ _
    | exact ih7 _ _ _ _ _ _
    | exact ih8 _ _ _ _ _ _
    | exact ih9 _ _ _ _ _ _ _ _ _
    | exact ih10 _ _ _ _ _ _
    | exact ih11 _ _ _ _ _ _
    | exact code_Check.mono _ _
    | exact handshakerlaw08_awake.mono _
    | exact term_Cells.mono _ _
    | exact term_Check.mono _ _
    | exact LeO.none _
    | refine LeO.ite ?_ ?_
    | refine LeO.bind ?_ (fun _ => ?_)
  · intro y0 y1 y2 y3 y4 y5
    unfold handshakerlaw08_CodeOne.j4
    repeat' first
    | (with_reducible exact ih0 _ _ _ _ _)
    | (with_reducible exact ih1 _ _ _ _ _ _)
    | (with_reducible exact ih2 _ _ _ _ _ _ _ _)
    | (with_reducible exact ih3 _ _ _ _ _ _ _ _ _)
    | (with_reducible exact ih4 _ _ _ _ _)
    | (with_reducible exact ih5 _ _ _ _ _ _)
    | (with_reducible exact ih6 _ _ _ _ _ _ _ _ _ _ _ _)
    | (with_reducible exact ih7 _ _ _ _ _ _)
    | (with_reducible exact ih8 _ _ _ _ _ _)
    | (with_reducible exact ih9 _ _ _ _ _ _ _ _ _)
    | (with_reducible exact ih10 _ _ _ _ _ _)
    | (with_reducible exact ih11 _ _ _ _ _ _)
    | (with_reducible exact code_Check.mono _ _)
    | (with_reducible exact handshakerlaw08_awake.mono _)
    | (with_reducible exact term_Cells.mono _ _)
    | (with_reducible exact term_Check.mono _ _)
    | (with_reducible exact LeO.refl _)
    | (with_reducible exact LeO.none _)
    | (with_reducible refine LeO.ite ?_ ?_)
    | (with_reducible refine LeO.bind ?_ (fun _ => ?_))
    | exact ih0 _ _ _ _ _
    | exact ih1 _ _ _ _ _ _
    | exact ih2 _ _ _ _ _ _ _ _
    | exact ih3 _ _ _ _ _ _ _ _ _
    | exact ih4 _ _ _ _ _
    | exact ih5 _ _ _ _ _ _
    | exact ih6 _ _ _ _ _ _ _ _ _ _ _ _
    | exact ih7 _ _ _ _ _ _
    | exact ih8 _ _ _ _ _ _
    | exact ih9 _ _ _ _ _ _ _ _ _
    | exact ih10 _ _ _ _ _ _
    | exact ih11 _ _ _ _ _ _
    | exact code_Check.mono _ _
    | exact handshakerlaw08_awake.mono _
    | exact term_Cells.mono _ _
    | exact term_Check.mono _ _
    | exact LeO.none _
    | refine LeO.ite ?_ ?_
    | refine LeO.bind ?_ (fun _ => ?_)
  · intro y0 y1 y2 y3 y4 y5 y6 y7 y8 y9 y10 y11
    unfold handshakerlaw08_CodeOne.j5
    repeat' first
    | (with_reducible exact ih0 _ _ _ _ _)
    | (with_reducible exact ih1 _ _ _ _ _ _)
    | (with_reducible exact ih2 _ _ _ _ _ _ _ _)
    | (with_reducible exact ih3 _ _ _ _ _ _ _ _ _)
    | (with_reducible exact ih4 _ _ _ _ _)
    | (with_reducible exact ih5 _ _ _ _ _ _)
    | (with_reducible exact ih6 _ _ _ _ _ _ _ _ _ _ _ _)
    | (with_reducible exact ih7 _ _ _ _ _ _)
    | (with_reducible exact ih8 _ _ _ _ _ _)
    | (with_reducible exact ih9 _ _ _ _ _ _ _ _ _)
    | (with_reducible exact ih10 _ _ _ _ _ _)
    | (with_reducible exact ih11 _ _ _ _ _ _)
    | (with_reducible exact code_Check.mono _ _)
    | (with_reducible exact handshakerlaw08_awake.mono _)
    | (with_reducible exact term_Cells.mono _ _)
    | (with_reducible exact term_Check.mono _ _)
    | (with_reducible exact LeO.refl _)
    | (with_reducible exact LeO.none _)
    | (with_reducible refine LeO.ite ?_ ?_)
    | (with_reducible refine LeO.bind ?_ (fun _ => ?_))
    | exact ih0 _ _ _ _ _
    | exact ih1 _ _ _ _ _ _
    | exact ih2 _ _ _ _ _ _ _ _
    | exact ih3 _ _ _ _ _ _ _ _ _
    | exact ih4 _ _ _ _ _
    | exact ih5 _ _ _ _ _ _
    | exact ih6 _ _ _ _ _ _ _ _ _ _ _ _
    | exact ih7 _ _ _ _ _ _
    | exact ih8 _ _ _ _ _ _
    | exact ih9 _ _ _ _ _ _ _ _ _
    | exact ih10 _ _ _ _ _ _
    | exact ih11 _ _ _ _ _ _
    | exact code_Check.mono _ _
    | exact handshakerlaw08_awake.mono _
    | exact term_Cells.mono _ _
    | exact term_Check.mono _ _
    | exact LeO.none _
    | refine LeO.ite ?_ ?_
    | refine LeO.bind ?_ (fun _ => ?_)
  · intro y0 y1 y2 y3 y4 y5
    unfold handshakerlaw08_CodeOne.j6
    repeat' first
    | (with_reducible exact ih0 _ _ _ _ _)
    | (with_reducible exact ih1 _ _ _ _ _ _)
    | (with_reducible exact ih2 _ _ _ _ _ _ _ _)
    | (with_reducible exact ih3 _ _ _ _ _ _ _ _ _)
    | (with_reducible exact ih4 _ _ _ _ _)
    | (with_reducible exact ih5 _ _ _ _ _ _)
    | (with_reducible exact ih6 _ _ _ _ _ _ _ _ _ _ _ _)
    | (with_reducible exact ih7 _ _ _ _ _ _)
    | (with_reducible exact ih8 _ _ _ _ _ _)
    | (with_reducible exact ih9 _ _ _ _ _ _ _ _ _)
    | (with_reducible exact ih10 _ _ _ _ _ _)
    | (with_reducible exact ih11 _ _ _ _ _ _)
    | (with_reducible exact code_Check.mono _ _)
    | (with_reducible exact handshakerlaw08_awake.mono _)
    | (with_reducible exact term_Cells.mono _ _)
    | (with_reducible exact term_Check.mono _ _)
    | (with_reducible exact LeO.refl _)
    | (with_reducible exact LeO.none _)
    | (with_reducible refine LeO.ite ?_ ?_)
    | (with_reducible refine LeO.bind ?_ (fun _ => ?_))
    | exact ih0 _ _ _ _ _
    | exact ih1 _ _ _ _ _ _
    | exact ih2 _ _ _ _ _ _ _ _
    | exact ih3 _ _ _ _ _ _ _ _ _
    | exact ih4 _ _ _ _ _
    | exact ih5 _ _ _ _ _ _
    | exact ih6 _ _ _ _ _ _ _ _ _ _ _ _
    | exact ih7 _ _ _ _ _ _
    | exact ih8 _ _ _ _ _ _
    | exact ih9 _ _ _ _ _ _ _ _ _
    | exact ih10 _ _ _ _ _ _
    | exact ih11 _ _ _ _ _ _
    | exact code_Check.mono _ _
    | exact handshakerlaw08_awake.mono _
    | exact term_Cells.mono _ _
    | exact term_Check.mono _ _
    | exact LeO.none _
    | refine LeO.ite ?_ ?_
    | refine LeO.bind ?_ (fun _ => ?_)
  · intro y0 y1 y2 y3 y4 y5
    unfold handshakerlaw08_CodeOne.j7
    repeat' first
    | (with_reducible exact ih0 _ _ _ _ _)
    | (with_reducible exact ih1 _ _ _ _ _ _)
    | (with_reducible exact ih2 _ _ _ _ _ _ _ _)
    | (with_reducible exact ih3 _ _ _ _ _ _ _ _ _)
    | (with_reducible exact ih4 _ _ _ _ _)
    | (with_reducible exact ih5 _ _ _ _ _ _)
    | (with_reducible exact ih6 _ _ _ _ _ _ _ _ _ _ _ _)
    | (with_reducible exact ih7 _ _ _ _ _ _)
    | (with_reducible exact ih8 _ _ _ _ _ _)
    | (with_reducible exact ih9 _ _ _ _ _ _ _ _ _)
    | (with_reducible exact ih10 _ _ _ _ _ _)
    | (with_reducible exact ih11 _ _ _ _ _ _)
    | (with_reducible exact code_Check.mono _ _)
    | (with_reducible exact handshakerlaw08_awake.mono _)
    | (with_reducible exact term_Cells.mono _ _)
    | (with_reducible exact term_Check.mono _ _)
    | (with_reducible exact LeO.refl _)
    | (with_reducible exact LeO.none _)
    | (with_reducible refine LeO.ite ?_ ?_)
    | (with_reducible refine LeO.bind ?_ (fun _ => ?_))
    | exact ih0 _ _ _ _ _
    | exact ih1 _ _ _ _ _ _
    | exact ih2 _ _ _ _ _ _ _ _
    | exact ih3 _ _ _ _ _ _ _ _ _
    | exact ih4 _ _ _ _ _
    | exact ih5 _ _ _ _ _ _
    | exact ih6 _ _ _ _ _ _ _ _ _ _ _ _
    | exact ih7 _ _ _ _ _ _
    | exact ih8 _ _ _ _ _ _
    | exact ih9 _ _ _ _ _ _ _ _ _
    | exact ih10 _ _ _ _ _ _
    | exact ih11 _ _ _ _ _ _
    | exact code_Check.mono _ _
    | exact handshakerlaw08_awake.mono _
    | exact term_Cells.mono _ _
    | exact term_Check.mono _ _
    | exact LeO.none _
    | refine LeO.ite ?_ ?_
    | refine LeO.bind ?_ (fun _ => ?_)
  · intro y0 y1 y2 y3 y4 y5 y6 y7 y8
    unfold handshakerlaw08_CodeOne.j8
    repeat' first
    | (with_reducible exact ih0 _ _ _ _ _)
    | (with_reducible exact ih1 _ _ _ _ _ _)
    | (with_reducible exact ih2 _ _ _ _ _ _ _ _)
    | (with_reducible exact ih3 _ _ _ _ _ _ _ _ _)
    | (with_reducible exact ih4 _ _ _ _ _)
    | (with_reducible exact ih5 _ _ _ _ _ _)
    | (with_reducible exact ih6 _ _ _ _ _ _ _ _ _ _ _ _)
    | (with_reducible exact ih7 _ _ _ _ _ _)
    | (with_reducible exact ih8 _ _ _ _ _ _)
    | (with_reducible exact ih9 _ _ _ _ _ _ _ _ _)
    | (with_reducible exact ih10 _ _ _ _ _ _)
    | (with_reducible exact ih11 _ _ _ _ _ _)
    | (with_reducible exact code_Check.mono _ _)
    | (with_reducible exact handshakerlaw08_awake.mono _)
    | (with_reducible exact term_Cells.mono _ _)
    | (with_reducible exact term_Check.mono _ _)
    | (with_reducible exact LeO.refl _)
    | (with_reducible exact LeO.none _)
    | (with_reducible refine LeO.ite ?_ ?_)
    | (with_reducible refine LeO.bind ?_ (fun _ => ?_))
    | exact ih0 _ _ _ _ _
    | exact ih1 _ _ _ _ _ _
    | exact ih2 _ _ _ _ _ _ _ _
    | exact ih3 _ _ _ _ _ _ _ _ _
    | exact ih4 _ _ _ _ _
    | exact ih5 _ _ _ _ _ _
    | exact ih6 _ _ _ _ _ _ _ _ _ _ _ _
    | exact ih7 _ _ _ _ _ _
    | exact ih8 _ _ _ _ _ _
    | exact ih9 _ _ _ _ _ _ _ _ _
    | exact ih10 _ _ _ _ _ _
    | exact ih11 _ _ _ _ _ _
    | exact code_Check.mono _ _
    | exact handshakerlaw08_awake.mono _
    | exact term_Cells.mono _ _
    | exact term_Check.mono _ _
    | exact LeO.none _
    | refine LeO.ite ?_ ?_
    | refine LeO.bind ?_ (fun _ => ?_)
  · intro y0 y1 y2 y3 y4 y5
    unfold handshakerlaw08_CodeOne.j9
    repeat' first
    | (with_reducible exact ih0 _ _ _ _ _)
    | (with_reducible exact ih1 _ _ _ _ _ _)
    | (with_reducible exact ih2 _ _ _ _ _ _ _ _)
    | (with_reducible exact ih3 _ _ _ _ _ _ _ _ _)
    | (with_reducible exact ih4 _ _ _ _ _)
    | (with_reducible exact ih5 _ _ _ _ _ _)
    | (with_reducible exact ih6 _ _ _ _ _ _ _ _ _ _ _ _)
    | (with_reducible exact ih7 _ _ _ _ _ _)
    | (with_reducible exact ih8 _ _ _ _ _ _)
    | (with_reducible exact ih9 _ _ _ _ _ _ _ _ _)
    | (with_reducible exact ih10 _ _ _ _ _ _)
    | (with_reducible exact ih11 _ _ _ _ _ _)
    | (with_reducible exact code_Check.mono _ _)
    | (with_reducible exact handshakerlaw08_awake.mono _)
    | (with_reducible exact term_Cells.mono _ _)
    | (with_reducible exact term_Check.mono _ _)
    | (with_reducible exact LeO.refl _)
    | (with_reducible exact LeO.none _)
    | (with_reducible refine LeO.ite ?_ ?_)
    | (with_reducible refine LeO.bind ?_ (fun _ => ?_))
    | exact ih0 _ _ _ _ _
    | exact ih1 _ _ _ _ _ _
    | exact ih2 _ _ _ _ _ _ _ _
    | exact ih3 _ _ _ _ _ _ _ _ _
    | exact ih4 _ _ _ _ _
    | exact ih5 _ _ _ _ _ _
    | exact ih6 _ _ _ _ _ _ _ _ _ _ _ _
    | exact ih7 _ _ _ _ _ _
    | exact ih8 _ _ _ _ _ _
    | exact ih9 _ _ _ _ _ _ _ _ _
    | exact ih10 _ _ _ _ _ _
    | exact ih11 _ _ _ _ _ _
    | exact code_Check.mono _ _
    | exact handshakerlaw08_awake.mono _
    | exact term_Cells.mono _ _
    | exact term_Check.mono _ _
    | exact LeO.none _
    | refine LeO.ite ?_ ?_
    | refine LeO.bind ?_ (fun _ => ?_)
  · intro y0 y1 y2 y3 y4 y5
    unfold handshakerlaw08_CodeOne.j10
    repeat' first
    | (with_reducible exact ih0 _ _ _ _ _)
    | (with_reducible exact ih1 _ _ _ _ _ _)
    | (with_reducible exact ih2 _ _ _ _ _ _ _ _)
    | (with_reducible exact ih3 _ _ _ _ _ _ _ _ _)
    | (with_reducible exact ih4 _ _ _ _ _)
    | (with_reducible exact ih5 _ _ _ _ _ _)
    | (with_reducible exact ih6 _ _ _ _ _ _ _ _ _ _ _ _)
    | (with_reducible exact ih7 _ _ _ _ _ _)
    | (with_reducible exact ih8 _ _ _ _ _ _)
    | (with_reducible exact ih9 _ _ _ _ _ _ _ _ _)
    | (with_reducible exact ih10 _ _ _ _ _ _)
    | (with_reducible exact ih11 _ _ _ _ _ _)
    | (with_reducible exact code_Check.mono _ _)
    | (with_reducible exact handshakerlaw08_awake.mono _)
    | (with_reducible exact term_Cells.mono _ _)
    | (with_reducible exact term_Check.mono _ _)
    | (with_reducible exact LeO.refl _)
    | (with_reducible exact LeO.none _)
    | (with_reducible refine LeO.ite ?_ ?_)
    | (with_reducible refine LeO.bind ?_ (fun _ => ?_))
    | exact ih0 _ _ _ _ _
    | exact ih1 _ _ _ _ _ _
    | exact ih2 _ _ _ _ _ _ _ _
    | exact ih3 _ _ _ _ _ _ _ _ _
    | exact ih4 _ _ _ _ _
    | exact ih5 _ _ _ _ _ _
    | exact ih6 _ _ _ _ _ _ _ _ _ _ _ _
    | exact ih7 _ _ _ _ _ _
    | exact ih8 _ _ _ _ _ _
    | exact ih9 _ _ _ _ _ _ _ _ _
    | exact ih10 _ _ _ _ _ _
    | exact ih11 _ _ _ _ _ _
    | exact code_Check.mono _ _
    | exact handshakerlaw08_awake.mono _
    | exact term_Cells.mono _ _
    | exact term_Check.mono _ _
    | exact LeO.none _
    | refine LeO.ite ?_ ?_
    | refine LeO.bind ?_ (fun _ => ?_)
theorem handshakerlaw08_CodeOne.mono : ∀ a0 a1 a2 a3 k, LeO (handshakerlaw08_CodeOne.f k a0 a1 a2 a3) (handshakerlaw08_CodeOne.f (k + 1) a0 a1 a2 a3) := by
 intro a0 a1 a2 a3 k
 obtain ⟨ih0, ih1, ih2, ih3, ih4, ih5, ih6, ih7, ih8, ih9, ih10, ih11⟩ := handshakerlaw08_CodeOne.mono_l k
 unfold handshakerlaw08_CodeOne.f
 repeat' first
  | (with_reducible exact ih0 _ _ _ _ _)
  | (with_reducible exact ih1 _ _ _ _ _ _)
  | (with_reducible exact ih2 _ _ _ _ _ _ _ _)
  | (with_reducible exact ih3 _ _ _ _ _ _ _ _ _)
  | (with_reducible exact ih4 _ _ _ _ _)
  | (with_reducible exact ih5 _ _ _ _ _ _)
  | (with_reducible exact ih6 _ _ _ _ _ _ _ _ _ _ _ _)
  | (with_reducible exact ih7 _ _ _ _ _ _)
  | (with_reducible exact ih8 _ _ _ _ _ _)
  | (with_reducible exact ih9 _ _ _ _ _ _ _ _ _)
  | (with_reducible exact ih10 _ _ _ _ _ _)
  | (with_reducible exact ih11 _ _ _ _ _ _)
  | (with_reducible exact code_Check.mono _ _)
  | (with_reducible exact handshakerlaw08_awake.mono _)
  | (with_reducible exact term_Cells.mono _ _)
  | (with_reducible exact term_Check.mono _ _)
  | (with_reducible exact LeO.refl _)
  | (with_reducible exact LeO.none _)
  | (with_reducible refine LeO.ite ?_ ?_)
  | (with_reducible refine LeO.bind ?_ (fun _ => ?_))
  | exact ih0 _ _ _ _ _
  | exact ih1 _ _ _ _ _ _
  | exact ih2 _ _ _ _ _ _ _ _
  | exact ih3 _ _ _ _ _ _ _ _ _
  | exact ih4 _ _ _ _ _
  | exact ih5 _ _ _ _ _ _
  | exact ih6 _ _ _ _ _ _ _ _ _ _ _ _
  | exact ih7 _ _ _ _ _ _
  | exact ih8 _ _ _ _ _ _
  | exact ih9 _ _ _ _ _ _ _ _ _
  | exact ih10 _ _ _ _ _ _
  | exact ih11 _ _ _ _ _ _
  | exact code_Check.mono _ _
  | exact handshakerlaw08_awake.mono _
  | exact term_Cells.mono _ _
  | exact term_Check.mono _ _
  | exact LeO.none _
  | refine LeO.ite ?_ ?_
  | refine LeO.bind ?_ (fun _ => ?_)
set_option maxHeartbeats 8000000 in
set_option maxRecDepth 100000 in
theorem handshakerlaw08_CodeOne.calls (k : Nat) (a0_0 : Int) (a0_1 : Int) (a0_2 : Int) (P0_3_ : Nat → Prop) (A0_3 : Option Addr) (c0_3 : Nat) (l0_3 : List (S41)) (r : Bool) (w : World) (HT : Aside0 (r = true)) (hs0_3 : Kd.V k41 41 w w.heap.size (fun k_ => P0_3_ k_) (.slice A0_3 l0_3.length c0_3) l0_3) (h : handshakerlaw08_CodeOne.f k a0_0 a0_1 a0_2 l0_3 = some r) :
 Calls Try.prog 8 #[.agg #[.int .i64 a0_0, .int .i64 a0_1, .int .i64 a0_2, .slice A0_3 l0_3.length c0_3]] w fun e w' => e = .returned (.bool r) ∧ Below w.heap.size w w' := by
 have hu37 := Try.underlying37
 have HO0_3 := Aside0.mk (show Kd.V k41 41 w w.heap.size (fun k_ => (P0_3_ k_ ∨ w.heap.size ≤ k_)) (.slice A0_3 l0_3.length c0_3) l0_3 from Kd.V_mono hs0_3 (fun k_ hk => .inl hk))
 have HB := Aside0.mk (Below.refl w.heap.size w)
 have H : (if (l0_3.length : Int) > 20 then ((handshakerlaw08_awake.f k).bind fun t208 => (some t208)) else (if a0_1 ≥ 0 then (handshakerlaw08_CodeOne.j0 k (decide (a0_1 < 8)) a0_0 a0_1 a0_2 l0_3) else (handshakerlaw08_CodeOne.j0 k false a0_0 a0_1 a0_2 l0_3))) = some r := h
 clear h
 by_cases c2 : (l0_3.length : Int) > 20
 · rw [if_pos c2] at H
   have c2b0 : decide (20 < (l0_3.length : Int)) = true := decide_eq_true c2
   have c2b1 : decide (20 < l0_3.length) = true := decide_eq_true (by omega)
   clear c2
   replace H := Option.bind_eq_some_iff.mp H
   obtain ⟨t208, A30, H⟩ := H
   replace H : (some t208) = some r := H
   have A3 := Aside0.mk A30
   clear A30
   obtain rfl := Option.some.inj H
   go_enter Try.func8, Try.ntmps8
   go_wp2_with (first | ((with_reducible refine gate_dst (N := 1) rfl ?_); (try (refine gate_guard (by rfl) ?_; dsimp only)); refine box_event ?hg (N := 1) ?hd (cs := #[.int .i64 a0_0, .int .i64 a0_1, .int .i64 a0_2, .slice A0_3 l0_3.length c0_3]) (t := 37) ?hr ?_; (case hd => rfl); (case hg => rfl); (case hr => first | (go_simp; done) | (go_simp; rfl)); intro gb207 hg w4 hbox hb; have n0_ := Aside0.mk (Kd.V_below (Kd.V_elderB (by (with_reducible repeat (first | apply Kd.V_alloc | apply Kd.V_drewN | apply Kd.V_drew)); exact HO0_3.out) gb207 (Nat.le_of_eq hg.symm)) hb); have n1_ := Aside0.mk (bst_ hb); have n2_ := Aside0.mk (hbox); have n3_ := Aside0.mk ((by rw [hg]; exact bsz_ : w.heap.size ≤ gb207)); have n4_ := n3_; clear HO0_3; clear HB; have HO0_3 := n0_; have HB := n1_; have BK207 := n2_; have GW207 := n3_; have GE207 := n4_; clear n0_ n1_ n2_ n3_ n4_; clear hb hbox hg; have hcz5_0 : w4.cell? ⟨gb207, 0, none⟩ = some (.int .i64 a0_0) := (blk_cell BK207.out 0).trans rfl; have hcz5_1 : w4.cell? ⟨gb207, 1, none⟩ = some (.int .i64 a0_1) := (blk_cell BK207.out 1).trans rfl; have hcz5_2 : w4.cell? ⟨gb207, 2, none⟩ = some (.int .i64 a0_2) := (blk_cell BK207.out 2).trans rfl; have hcz5_3 : w4.cell? ⟨gb207, 3, none⟩ = some (.slice A0_3 l0_3.length c0_3) := (blk_cell BK207.out 3).trans rfl; have hfz5_0 := blk_frozen BK207.out 0; have hfz5_1 := blk_frozen BK207.out 1; have hfz5_2 := blk_frozen BK207.out 2; have hfz5_3 := blk_frozen BK207.out 3) | ((with_reducible refine gate_callee (f := 16) rfl ?_); refine goesL_ (some 13) rfl rfl Try.func16 (by kernel_rfl) rfl #[] rfl (by (try simp only [List.map_toArray, List.map_cons, List.map_nil]); first | done | rfl) ?_; (with_reducible refine (handshakerlaw08_awake.calls k  t208 _ A3.out).mono ?_); rintro e w6 ⟨rfl, hb⟩; refine ⟨_, rfl, ?_⟩; have n0_ := Aside0.mk (Kd.V_below (by (with_reducible repeat (first | apply Kd.V_alloc | apply Kd.V_drewN | apply Kd.V_drew)); exact HO0_3.out) hb); have n1_ := Aside0.mk (blk_below (g := gb207) (o := .cells #[.int .i64 a0_0, .int .i64 a0_1, .int .i64 a0_2, .slice A0_3 l0_3.length c0_3] 37 (0, 0)) (by (with_reducible repeat (first | refine blk_drewN ?_ _ | refine blk_drew ?_ | refine blk_alloc ?_ _)); exact BK207.out) hb); have n2_ := Aside0.mk (below_step (by repeat (with_reducible first | exact HB.out | apply below_alloc | apply pw_below_drewN | apply below_drew1 | refine below_set ?_ GE207.out)) hb); clear HO0_3; clear BK207; clear HB; have HO0_3 := n0_; have BK207 := n1_; have HB := n2_; clear n0_ n1_ n2_; (try clear hb); (try clear hb2); (try clear hk); (try clear hi)))
   go_ret
   exact ⟨by first | rfl | (simp [errW_none, errW_some] <;> rfl) | (simp [*, errW_none, errW_some] <;> rfl), by repeat (with_reducible first | exact HB.out | apply below_alloc | apply pw_below_drewN | apply below_drew1 | refine below_set ?_ GE207.out)⟩
 · rw [if_neg c2] at H
   have c2b0 : decide (20 < (l0_3.length : Int)) = false := decide_eq_false c2
   have c2b1 : decide (20 < l0_3.length) = false := decide_eq_false (by omega)
   clear c2
   have HC7 := Aside0.mk H
   clear H
   go_enter Try.func8, Try.ntmps8
   go_upto_region 3 with (first | ((with_reducible refine gate_dst (N := 1) rfl ?_); (try (refine gate_guard (by rfl) ?_; dsimp only)); refine box_event ?hg (N := 1) ?hd (cs := #[.int .i64 a0_0, .int .i64 a0_1, .int .i64 a0_2, .slice A0_3 l0_3.length c0_3]) (t := 37) ?hr ?_; (case hd => rfl); (case hg => rfl); (case hr => first | (go_simp; done) | (go_simp; rfl)); intro gb207 hg w8 hbox hb; have n0_ := Aside0.mk (Kd.V_below (Kd.V_elderB (by (with_reducible repeat (first | apply Kd.V_alloc | apply Kd.V_drewN | apply Kd.V_drew)); exact HO0_3.out) gb207 (Nat.le_of_eq hg.symm)) hb); have n1_ := Aside0.mk (bst_ hb); have n2_ := Aside0.mk (hbox); have n3_ := Aside0.mk ((by rw [hg]; exact bsz_ : w.heap.size ≤ gb207)); have n4_ := n3_; clear HO0_3; clear HB; have HO0_3 := n0_; have HB := n1_; have BK207 := n2_; have GW207 := n3_; have GE207 := n4_; clear n0_ n1_ n2_ n3_ n4_; clear hb hbox hg; have hcz9_0 : w8.cell? ⟨gb207, 0, none⟩ = some (.int .i64 a0_0) := (blk_cell BK207.out 0).trans rfl; have hcz9_1 : w8.cell? ⟨gb207, 1, none⟩ = some (.int .i64 a0_1) := (blk_cell BK207.out 1).trans rfl; have hcz9_2 : w8.cell? ⟨gb207, 2, none⟩ = some (.int .i64 a0_2) := (blk_cell BK207.out 2).trans rfl; have hcz9_3 : w8.cell? ⟨gb207, 3, none⟩ = some (.slice A0_3 l0_3.length c0_3) := (blk_cell BK207.out 3).trans rfl; have hfz9_0 := blk_frozen BK207.out 0; have hfz9_1 := blk_frozen BK207.out 1; have hfz9_2 := blk_frozen BK207.out 2; have hfz9_3 := blk_frozen BK207.out 3))
   (try simp only [Act.put, List.setIfInBounds_toArray, List.set_cons_zero, List.set_cons_succ])
   go_cut [3] (fun v3 wc => ∃ (kq : Nat) (x3_6 : Bool), v3 = .bool x3_6 ∧ Aside0 (handshakerlaw08_CodeOne.j0 kq x3_6 a0_0 a0_1 a0_2 l0_3 = some r) ∧ Aside0 (kq ≤ k) ∧ Aside0 (Kd.V k41 41 wc w.heap.size (fun k_ => (P0_3_ k_ ∨ w.heap.size ≤ k_) ∧ k_ ≠ gb207) (.slice A0_3 l0_3.length c0_3) l0_3) ∧ Aside0 (wc.heap[gb207]? = some (.cells #[.int .i64 a0_0, .int .i64 a0_1, .int .i64 a0_2, (.slice A0_3 l0_3.length c0_3)] 37 (0, 0))) ∧ Aside0 (Below w.heap.size w wc))
   case first => as_aux_lemma =>
    have H := HC7.out
    clear HC7
    by_cases c10 : a0_1 ≥ 0
    · rw [if_pos c10] at H
      have c10b0 : decide (0 ≤ a0_1) = true := decide_eq_true c10
      clear c10
      (first | rw [c10b0] | (simp only [i64_w, i32_w]; rw [c10b0]) | skip)
      have H' := Aside0.mk H
      clear H
      have hcz11_0 : w8.cell? ⟨gb207, 0, none⟩ = some (.int .i64 a0_0) := (blk_cell BK207.out 0).trans rfl
      have hcz11_1 : w8.cell? ⟨gb207, 1, none⟩ = some (.int .i64 a0_1) := (blk_cell BK207.out 1).trans rfl
      have hcz11_2 : w8.cell? ⟨gb207, 2, none⟩ = some (.int .i64 a0_2) := (blk_cell BK207.out 2).trans rfl
      have hcz11_3 : w8.cell? ⟨gb207, 3, none⟩ = some (.slice A0_3 l0_3.length c0_3) := (blk_cell BK207.out 3).trans rfl
      have hfz11_0 := blk_frozen BK207.out 0
      have hfz11_1 := blk_frozen BK207.out 1
      have hfz11_2 := blk_frozen BK207.out 2
      have hfz11_3 := blk_frozen BK207.out 3
      go_wp2
      go_meet
      case rel => exact ⟨_, (decide (a0_1 < 8)), (by first | rfl | (simp; done) | (simp [*]; done)), H', ⟨by first | omega | exact Nat.le_refl _⟩, ⟨by (with_reducible repeat (first | apply Kd.V_alloc | apply Kd.V_drewN | apply Kd.V_drew)); exact HO0_3.out⟩, ⟨by (with_reducible repeat (first | refine blk_drewN ?_ _ | refine blk_drew ?_ | refine blk_alloc ?_ _)); exact BK207.out⟩, ⟨by repeat (with_reducible first | exact HB.out | apply below_alloc | apply pw_below_drewN | apply below_drew1 | refine below_set ?_ GE207.out)⟩⟩
    · rw [if_neg c10] at H
      have c10b0 : decide (0 ≤ a0_1) = false := decide_eq_false c10
      clear c10
      (first | rw [c10b0] | (simp only [i64_w, i32_w]; rw [c10b0]) | skip)
      have H' := Aside0.mk H
      clear H
      have hcz12_0 : w8.cell? ⟨gb207, 0, none⟩ = some (.int .i64 a0_0) := (blk_cell BK207.out 0).trans rfl
      have hcz12_1 : w8.cell? ⟨gb207, 1, none⟩ = some (.int .i64 a0_1) := (blk_cell BK207.out 1).trans rfl
      have hcz12_2 : w8.cell? ⟨gb207, 2, none⟩ = some (.int .i64 a0_2) := (blk_cell BK207.out 2).trans rfl
      have hcz12_3 : w8.cell? ⟨gb207, 3, none⟩ = some (.slice A0_3 l0_3.length c0_3) := (blk_cell BK207.out 3).trans rfl
      have hfz12_0 := blk_frozen BK207.out 0
      have hfz12_1 := blk_frozen BK207.out 1
      have hfz12_2 := blk_frozen BK207.out 2
      have hfz12_3 := blk_frozen BK207.out 3
      go_wp2
      go_meet
      case rel => exact ⟨_, (false), (by first | rfl | (simp; done) | (simp [*]; done)), H', ⟨by first | omega | exact Nat.le_refl _⟩, ⟨by (with_reducible repeat (first | apply Kd.V_alloc | apply Kd.V_drewN | apply Kd.V_drew)); exact HO0_3.out⟩, ⟨by (with_reducible repeat (first | refine blk_drewN ?_ _ | refine blk_drew ?_ | refine blk_alloc ?_ _)); exact BK207.out⟩, ⟨by repeat (with_reducible first | exact HB.out | apply below_alloc | apply pw_below_drewN | apply below_drew1 | refine below_set ?_ GE207.out)⟩⟩
   case rest => as_aux_lemma =>
    clear HC7
    try clear c1
    try clear c2
    try clear c2b0
    try clear c2b1
    try clear p2
    try clear c8
    try clear c10
    try clear c10b0
    try clear hcz11_0
    try clear hcz11_1
    try clear hcz11_2
    try clear hcz11_3
    try clear hcz12_0
    try clear hcz12_1
    try clear hcz12_2
    try clear hcz12_3
    try clear hcz5_0
    try clear hcz5_1
    try clear hcz5_2
    try clear hcz5_3
    try clear hcz9_0
    try clear hcz9_1
    try clear hcz9_2
    try clear hcz9_3
    try clear hfz11_0
    try clear hfz11_1
    try clear hfz11_2
    try clear hfz11_3
    try clear hfz12_0
    try clear hfz12_1
    try clear hfz12_2
    try clear hfz12_3
    try clear hfz5_0
    try clear hfz5_1
    try clear hfz5_2
    try clear hfz5_3
    try clear hfz9_0
    try clear hfz9_1
    try clear hfz9_2
    try clear hfz9_3
    obtain ⟨kq, x3_6, rfl, HA, HJ6, HO_208003, BK207, HB⟩ := hcut
    cases kq with
    | zero => exact absurd HA.out (by simp [handshakerlaw08_CodeOne.j0])
    | succ kj6 =>
     have H := HA.out
     clear HA
     simp only [handshakerlaw08_CodeOne.j0] at H
     have HC13 := Aside0.mk H
     clear H
     go_upto_region 4 with (fail)
     go_cut [4] (fun v4 wc => ∃ (kq : Nat) (x4_12 : Bool), v4 = .bool x4_12 ∧ Aside0 (handshakerlaw08_CodeOne.j1 kq x3_6 x4_12 a0_0 a0_1 a0_2 l0_3 = some r) ∧ Aside0 (kq ≤ kj6) ∧ Aside0 (Kd.V k41 41 wc w.heap.size (fun k_ => (P0_3_ k_ ∨ w.heap.size ≤ k_) ∧ k_ ≠ gb207) (.slice A0_3 l0_3.length c0_3) l0_3) ∧ Aside0 (wc.heap[gb207]? = some (.cells #[.int .i64 a0_0, .int .i64 a0_1, .int .i64 a0_2, (.slice A0_3 l0_3.length c0_3)] 37 (0, 0))) ∧ Aside0 (Below w.heap.size w wc))
     case first => as_aux_lemma =>
      have H := HC13.out
      clear HC13
      by_cases c14 : a0_1 ≥ 0
      · rw [if_pos c14] at H
        have c14b0 : decide (0 ≤ a0_1) = true := decide_eq_true c14
        clear c14
        (first | rw [c14b0] | (simp only [i64_w, i32_w]; rw [c14b0]) | skip)
        have H' := Aside0.mk H
        clear H
        have hcz15_0 : wc.cell? ⟨gb207, 0, none⟩ = some (.int .i64 a0_0) := (blk_cell BK207.out 0).trans rfl
        have hcz15_1 : wc.cell? ⟨gb207, 1, none⟩ = some (.int .i64 a0_1) := (blk_cell BK207.out 1).trans rfl
        have hcz15_2 : wc.cell? ⟨gb207, 2, none⟩ = some (.int .i64 a0_2) := (blk_cell BK207.out 2).trans rfl
        have hcz15_3 : wc.cell? ⟨gb207, 3, none⟩ = some (.slice A0_3 l0_3.length c0_3) := (blk_cell BK207.out 3).trans rfl
        have hfz15_0 := blk_frozen BK207.out 0
        have hfz15_1 := blk_frozen BK207.out 1
        have hfz15_2 := blk_frozen BK207.out 2
        have hfz15_3 := blk_frozen BK207.out 3
        go_wp2
        go_meet
        case rel => exact ⟨_, (decide (a0_1 < 64)), (by first | rfl | (simp; done) | (simp [*]; done)), H', ⟨by have := HJ6.out; first | omega | exact Nat.le_refl _⟩, ⟨by (with_reducible repeat (first | apply Kd.V_alloc | apply Kd.V_drewN | apply Kd.V_drew)); exact HO_208003.out⟩, ⟨by (with_reducible repeat (first | refine blk_drewN ?_ _ | refine blk_drew ?_ | refine blk_alloc ?_ _)); exact BK207.out⟩, ⟨by repeat (with_reducible first | exact HB.out | apply below_alloc | apply pw_below_drewN | apply below_drew1 | refine below_set ?_ GE207.out)⟩⟩
      · rw [if_neg c14] at H
        have c14b0 : decide (0 ≤ a0_1) = false := decide_eq_false c14
        clear c14
        (first | rw [c14b0] | (simp only [i64_w, i32_w]; rw [c14b0]) | skip)
        have H' := Aside0.mk H
        clear H
        have hcz16_0 : wc.cell? ⟨gb207, 0, none⟩ = some (.int .i64 a0_0) := (blk_cell BK207.out 0).trans rfl
        have hcz16_1 : wc.cell? ⟨gb207, 1, none⟩ = some (.int .i64 a0_1) := (blk_cell BK207.out 1).trans rfl
        have hcz16_2 : wc.cell? ⟨gb207, 2, none⟩ = some (.int .i64 a0_2) := (blk_cell BK207.out 2).trans rfl
        have hcz16_3 : wc.cell? ⟨gb207, 3, none⟩ = some (.slice A0_3 l0_3.length c0_3) := (blk_cell BK207.out 3).trans rfl
        have hfz16_0 := blk_frozen BK207.out 0
        have hfz16_1 := blk_frozen BK207.out 1
        have hfz16_2 := blk_frozen BK207.out 2
        have hfz16_3 := blk_frozen BK207.out 3
        go_wp2
        go_meet
        case rel => exact ⟨_, (false), (by first | rfl | (simp; done) | (simp [*]; done)), H', ⟨by have := HJ6.out; first | omega | exact Nat.le_refl _⟩, ⟨by (with_reducible repeat (first | apply Kd.V_alloc | apply Kd.V_drewN | apply Kd.V_drew)); exact HO_208003.out⟩, ⟨by (with_reducible repeat (first | refine blk_drewN ?_ _ | refine blk_drew ?_ | refine blk_alloc ?_ _)); exact BK207.out⟩, ⟨by repeat (with_reducible first | exact HB.out | apply below_alloc | apply pw_below_drewN | apply below_drew1 | refine below_set ?_ GE207.out)⟩⟩
     case rest => as_aux_lemma =>
      clear HC13
      try clear c1
      try clear c2
      try clear c2b0
      try clear c2b1
      try clear p2
      try clear c8
      try clear c10
      try clear c10b0
      try clear c14
      try clear c14b0
      try clear c16
      try clear hcz11_0
      try clear hcz11_1
      try clear hcz11_2
      try clear hcz11_3
      try clear hcz12_0
      try clear hcz12_1
      try clear hcz12_2
      try clear hcz12_3
      try clear hcz15_0
      try clear hcz15_1
      try clear hcz15_2
      try clear hcz15_3
      try clear hcz16_0
      try clear hcz16_1
      try clear hcz16_2
      try clear hcz16_3
      try clear hcz5_0
      try clear hcz5_1
      try clear hcz5_2
      try clear hcz5_3
      try clear hcz9_0
      try clear hcz9_1
      try clear hcz9_2
      try clear hcz9_3
      try clear hfz11_0
      try clear hfz11_1
      try clear hfz11_2
      try clear hfz11_3
      try clear hfz12_0
      try clear hfz12_1
      try clear hfz12_2
      try clear hfz12_3
      try clear hfz15_0
      try clear hfz15_1
      try clear hfz15_2
      try clear hfz15_3
      try clear hfz16_0
      try clear hfz16_1
      try clear hfz16_2
      try clear hfz16_3
      try clear hfz5_0
      try clear hfz5_1
      try clear hfz5_2
      try clear hfz5_3
      try clear hfz9_0
      try clear hfz9_1
      try clear hfz9_2
      try clear hfz9_3
      try clear p2
      obtain ⟨kq, x4_12, rfl, HA, HJ12, HO_208003, BK207, HB⟩ := hcut
      cases kq with
      | zero => exact absurd HA.out (by simp [handshakerlaw08_CodeOne.j1])
      | succ kj12 =>
       have H := HA.out
       clear HA
       simp only [handshakerlaw08_CodeOne.j1] at H
       have HC17 := Aside0.mk H
       clear H
       have hcz18_0 : wc.cell? ⟨gb207, 0, none⟩ = some (.int .i64 a0_0) := (blk_cell BK207.out 0).trans rfl
       have hcz18_1 : wc.cell? ⟨gb207, 1, none⟩ = some (.int .i64 a0_1) := (blk_cell BK207.out 1).trans rfl
       have hcz18_2 : wc.cell? ⟨gb207, 2, none⟩ = some (.int .i64 a0_2) := (blk_cell BK207.out 2).trans rfl
       have hcz18_3 : wc.cell? ⟨gb207, 3, none⟩ = some (.slice A0_3 l0_3.length c0_3) := (blk_cell BK207.out 3).trans rfl
       have hfz18_0 := blk_frozen BK207.out 0
       have hfz18_1 := blk_frozen BK207.out 1
       have hfz18_2 := blk_frozen BK207.out 2
       have hfz18_3 := blk_frozen BK207.out 3
       go_upto_region 6 with (fail)
       go_cut [6] (fun v6 wc => ∃ (kq : Nat) (x6_16 : Bool), v6 = .bool x6_16 ∧ Aside0 (handshakerlaw08_CodeOne.j2 kq x3_6 x4_12 ((l0_3.length : Int) == 0) x6_16 a0_0 a0_1 a0_2 l0_3 = some r) ∧ Aside0 (kq ≤ kj12) ∧ Aside0 (Kd.V k41 41 wc w.heap.size (fun k_ => (P0_3_ k_ ∨ w.heap.size ≤ k_) ∧ k_ ≠ gb207) (.slice A0_3 l0_3.length c0_3) l0_3) ∧ Aside0 (wc.heap[gb207]? = some (.cells #[.int .i64 a0_0, .int .i64 a0_1, .int .i64 a0_2, (.slice A0_3 l0_3.length c0_3)] 37 (0, 0))) ∧ Aside0 (Below w.heap.size w wc))
       case first => as_aux_lemma =>
        have H := HC17.out
        clear HC17
        replace H := Option.bind_eq_some_iff.mp H
        obtain ⟨t209, A190, H⟩ := H
        replace H : (if t209 = 0 then ((term_Cells.f kj12 l0_3).bind fun t210 => (handshakerlaw08_CodeOne.j2 kj12 x3_6 x4_12 ((l0_3.length : Int) == 0) ((t210.length : Int) == 0) a0_0 a0_1 a0_2 l0_3)) else (handshakerlaw08_CodeOne.j2 kj12 x3_6 x4_12 ((l0_3.length : Int) == 0) false a0_0 a0_1 a0_2 l0_3)) = some r := H
        have A19 := Aside0.mk A190
        clear A190
        by_cases c20 : t209 = 0
        · rw [if_pos c20] at H
          have c20b0 : (t209 == 0) = true := beq_iff_eq.mpr c20
          have c20b1 : (t209 != 0) = false := bne_eq_false_iff_eq.mpr c20
          clear c20
          (first | rw [c20b0] | (simp only [i64_w, i32_w]; rw [c20b0]) | skip)
          replace H := Option.bind_eq_some_iff.mp H
          obtain ⟨t210, A210, H⟩ := H
          replace H : (handshakerlaw08_CodeOne.j2 kj12 x3_6 x4_12 ((l0_3.length : Int) == 0) ((t210.length : Int) == 0) a0_0 a0_1 a0_2 l0_3) = some r := H
          have A21 := Aside0.mk A210
          clear A210
          have H' := Aside0.mk H
          clear H
          have hcz22_0 : wc.cell? ⟨gb207, 0, none⟩ = some (.int .i64 a0_0) := (blk_cell BK207.out 0).trans rfl
          have hcz22_1 : wc.cell? ⟨gb207, 1, none⟩ = some (.int .i64 a0_1) := (blk_cell BK207.out 1).trans rfl
          have hcz22_2 : wc.cell? ⟨gb207, 2, none⟩ = some (.int .i64 a0_2) := (blk_cell BK207.out 2).trans rfl
          have hcz22_3 : wc.cell? ⟨gb207, 3, none⟩ = some (.slice A0_3 l0_3.length c0_3) := (blk_cell BK207.out 3).trans rfl
          have hfz22_0 := blk_frozen BK207.out 0
          have hfz22_1 := blk_frozen BK207.out 1
          have hfz22_2 := blk_frozen BK207.out 2
          have hfz22_3 := blk_frozen BK207.out 3
          go_wp2_with (first | ((with_reducible refine gate_callee (f := 25) rfl ?_); refine goesL_ (some 36) rfl rfl Try.func25 (by kernel_rfl) rfl #[.slice A0_3 l0_3.length c0_3] rfl (by (try simp only [List.map_toArray, List.map_cons, List.map_nil]); first | done | rfl) ?_; (with_reducible refine (term_Check.calls kj12 _ _ l0_3 t209 _ ?side1 ?side2 A19.out).mono ?_); (case side1 => repeat (first | exact (Kd.V_reads' HO_208003.out).2.2 | with_reducible first | refine Kd.C_alloc ?_ _ | refine Kd.C_drewN ?_ _ | refine Kd.C_drew ?_)); (case side2 => exact (Kd.V_reads' HO_208003.out).2.1); rintro e w23 ⟨rfl, hb⟩; refine ⟨_, rfl, ?_⟩; have n0_ := Aside0.mk (Kd.V_below (by (with_reducible repeat (first | apply Kd.V_alloc | apply Kd.V_drewN | apply Kd.V_drew)); exact HO_208003.out) hb); have n1_ := Aside0.mk (blk_below (g := gb207) (o := .cells #[.int .i64 a0_0, .int .i64 a0_1, .int .i64 a0_2, .slice A0_3 l0_3.length c0_3] 37 (0, 0)) (by (with_reducible repeat (first | refine blk_drewN ?_ _ | refine blk_drew ?_ | refine blk_alloc ?_ _)); exact BK207.out) hb); have n2_ := Aside0.mk (below_step (by repeat (with_reducible first | exact HB.out | apply below_alloc | apply pw_below_drewN | apply below_drew1 | refine below_set ?_ GE207.out)) hb); clear HO_208003; clear BK207; clear HB; have HO_208003 := n0_; have BK207 := n1_; have HB := n2_; clear n0_ n1_ n2_; (try clear hb); (try clear hb2); (try clear hk); (try clear hi); have hcz24_0 : w23.cell? ⟨gb207, 0, none⟩ = some (.int .i64 a0_0) := (blk_cell BK207.out 0).trans rfl; have hcz24_1 : w23.cell? ⟨gb207, 1, none⟩ = some (.int .i64 a0_1) := (blk_cell BK207.out 1).trans rfl; have hcz24_2 : w23.cell? ⟨gb207, 2, none⟩ = some (.int .i64 a0_2) := (blk_cell BK207.out 2).trans rfl; have hcz24_3 : w23.cell? ⟨gb207, 3, none⟩ = some (.slice A0_3 l0_3.length c0_3) := (blk_cell BK207.out 3).trans rfl; have hfz24_0 := blk_frozen BK207.out 0; have hfz24_1 := blk_frozen BK207.out 1; have hfz24_2 := blk_frozen BK207.out 2; have hfz24_3 := blk_frozen BK207.out 3) | (go_at_call 26; (with_reducible refine (term_Cells.calls kj12 _ _ l0_3 t210 _ ?side1 ?side2 A21.out).mono ?_); (case side1 => repeat (first | exact (Kd.V_reads' HO_208003.out).2.2 | with_reducible first | refine Kd.C_alloc ?_ _ | refine Kd.C_drewN ?_ _ | refine Kd.C_drew ?_)); (case side2 => exact (Kd.V_reads' HO_208003.out).2.1); rintro e w25 ⟨v211, rfl, ho0, hb⟩; have n0_ := Aside0.mk (Kd.V_elder' (by (with_reducible repeat (first | apply Kd.V_alloc | apply Kd.V_drewN | apply Kd.V_drew)); exact HO_208003.out) (Kd.R_base ho0) hb); have n1_ := Aside0.mk (Kd.R_lower (Kd.R_newM (M := fun k_ => (w.heap.size ≤ k_)) ho0 (below_size (by repeat (with_reducible first | exact HB.out | apply below_alloc | apply pw_below_drewN | apply below_drew1 | refine below_set ?_ GE207.out))) (fun k_ h_ => h_)) (below_size (by repeat (with_reducible first | exact HB.out | apply below_alloc | apply pw_below_drewN | apply below_drew1 | refine below_set ?_ GE207.out)))); have n2_ := Aside0.mk (blk_below (g := gb207) (o := .cells #[.int .i64 a0_0, .int .i64 a0_1, .int .i64 a0_2, .slice A0_3 l0_3.length c0_3] 37 (0, 0)) (by (with_reducible repeat (first | refine blk_drewN ?_ _ | refine blk_drew ?_ | refine blk_alloc ?_ _)); exact BK207.out) hb); have n3_ := Aside0.mk (below_step (by repeat (with_reducible first | exact HB.out | apply below_alloc | apply pw_below_drewN | apply below_drew1 | refine below_set ?_ GE207.out)) hb); clear HO_208003; clear BK207; clear HB; have HO_208003 := n0_; have HO212 := n1_; have BK207 := n2_; have HB := n3_; clear n0_ n1_ n2_ n3_; (try clear hb); (try clear hb2); (try clear hk); (try clear hi); (try clear ho0); obtain ⟨Ao26, co26, eo26⟩ := Kd.R_slice HO212.out; subst eo26))
          go_meet
          case rel => exact ⟨_, (((t210.length : Int) == 0)), (by first | rfl | (simp; done) | (simp [*]; done)), H', ⟨by have := HJ6.out; have := HJ12.out; first | omega | exact Nat.le_refl _⟩, ⟨by (with_reducible repeat (first | apply Kd.V_alloc | apply Kd.V_drewN | apply Kd.V_drew)); exact Kd.V_mono HO_208003.out (fun _ hk => ⟨hk.1.1, hk.1.2⟩)⟩, ⟨by (with_reducible repeat (first | refine blk_drewN ?_ _ | refine blk_drew ?_ | refine blk_alloc ?_ _)); exact BK207.out⟩, ⟨by repeat (with_reducible first | exact HB.out | apply below_alloc | apply pw_below_drewN | apply below_drew1 | refine below_set ?_ GE207.out)⟩⟩
        · rw [if_neg c20] at H
          have c20b0 : (t209 == 0) = false := beq_eq_false_iff_ne.mpr c20
          have c20b1 : (t209 != 0) = true := bne_iff_ne.mpr c20
          (first | rw [c20b0] | (simp only [i64_w, i32_w]; rw [c20b0]) | skip)
          have H' := Aside0.mk H
          clear H
          have hcz27_0 : wc.cell? ⟨gb207, 0, none⟩ = some (.int .i64 a0_0) := (blk_cell BK207.out 0).trans rfl
          have hcz27_1 : wc.cell? ⟨gb207, 1, none⟩ = some (.int .i64 a0_1) := (blk_cell BK207.out 1).trans rfl
          have hcz27_2 : wc.cell? ⟨gb207, 2, none⟩ = some (.int .i64 a0_2) := (blk_cell BK207.out 2).trans rfl
          have hcz27_3 : wc.cell? ⟨gb207, 3, none⟩ = some (.slice A0_3 l0_3.length c0_3) := (blk_cell BK207.out 3).trans rfl
          have hfz27_0 := blk_frozen BK207.out 0
          have hfz27_1 := blk_frozen BK207.out 1
          have hfz27_2 := blk_frozen BK207.out 2
          have hfz27_3 := blk_frozen BK207.out 3
          go_wp2_with (first | ((with_reducible refine gate_callee (f := 25) rfl ?_); refine goesL_ (some 36) rfl rfl Try.func25 (by kernel_rfl) rfl #[.slice A0_3 l0_3.length c0_3] rfl (by (try simp only [List.map_toArray, List.map_cons, List.map_nil]); first | done | rfl) ?_; (with_reducible refine (term_Check.calls kj12 _ _ l0_3 t209 _ ?side1 ?side2 A19.out).mono ?_); (case side1 => repeat (first | exact (Kd.V_reads' HO_208003.out).2.2 | with_reducible first | refine Kd.C_alloc ?_ _ | refine Kd.C_drewN ?_ _ | refine Kd.C_drew ?_)); (case side2 => exact (Kd.V_reads' HO_208003.out).2.1); rintro e w28 ⟨rfl, hb⟩; refine ⟨_, rfl, ?_⟩; have n0_ := Aside0.mk (Kd.V_below (by (with_reducible repeat (first | apply Kd.V_alloc | apply Kd.V_drewN | apply Kd.V_drew)); exact HO_208003.out) hb); have n1_ := Aside0.mk (blk_below (g := gb207) (o := .cells #[.int .i64 a0_0, .int .i64 a0_1, .int .i64 a0_2, .slice A0_3 l0_3.length c0_3] 37 (0, 0)) (by (with_reducible repeat (first | refine blk_drewN ?_ _ | refine blk_drew ?_ | refine blk_alloc ?_ _)); exact BK207.out) hb); have n2_ := Aside0.mk (below_step (by repeat (with_reducible first | exact HB.out | apply below_alloc | apply pw_below_drewN | apply below_drew1 | refine below_set ?_ GE207.out)) hb); clear HO_208003; clear BK207; clear HB; have HO_208003 := n0_; have BK207 := n1_; have HB := n2_; clear n0_ n1_ n2_; (try clear hb); (try clear hb2); (try clear hk); (try clear hi)))
          go_meet
          case rel => exact ⟨_, (false), (by first | rfl | (simp; done) | (simp [*]; done)), H', ⟨by have := HJ6.out; have := HJ12.out; first | omega | exact Nat.le_refl _⟩, ⟨by (with_reducible repeat (first | apply Kd.V_alloc | apply Kd.V_drewN | apply Kd.V_drew)); exact HO_208003.out⟩, ⟨by (with_reducible repeat (first | refine blk_drewN ?_ _ | refine blk_drew ?_ | refine blk_alloc ?_ _)); exact BK207.out⟩, ⟨by repeat (with_reducible first | exact HB.out | apply below_alloc | apply pw_below_drewN | apply below_drew1 | refine below_set ?_ GE207.out)⟩⟩
       case rest => as_aux_lemma =>
        clear HC17
        try clear c1
        try clear c2
        try clear c2b0
        try clear c2b1
        try clear p2
        try clear c8
        try clear c10
        try clear c10b0
        try clear c14
        try clear c14b0
        try clear c16
        try clear c20
        try clear c20b0
        try clear c20b1
        try clear c25
        try clear hcz11_0
        try clear hcz11_1
        try clear hcz11_2
        try clear hcz11_3
        try clear hcz12_0
        try clear hcz12_1
        try clear hcz12_2
        try clear hcz12_3
        try clear hcz15_0
        try clear hcz15_1
        try clear hcz15_2
        try clear hcz15_3
        try clear hcz16_0
        try clear hcz16_1
        try clear hcz16_2
        try clear hcz16_3
        try clear hcz18_0
        try clear hcz18_1
        try clear hcz18_2
        try clear hcz18_3
        try clear hcz22_0
        try clear hcz22_1
        try clear hcz22_2
        try clear hcz22_3
        try clear hcz24_0
        try clear hcz24_1
        try clear hcz24_2
        try clear hcz24_3
        try clear hcz27_0
        try clear hcz27_1
        try clear hcz27_2
        try clear hcz27_3
        try clear hcz5_0
        try clear hcz5_1
        try clear hcz5_2
        try clear hcz5_3
        try clear hcz9_0
        try clear hcz9_1
        try clear hcz9_2
        try clear hcz9_3
        try clear hfz11_0
        try clear hfz11_1
        try clear hfz11_2
        try clear hfz11_3
        try clear hfz12_0
        try clear hfz12_1
        try clear hfz12_2
        try clear hfz12_3
        try clear hfz15_0
        try clear hfz15_1
        try clear hfz15_2
        try clear hfz15_3
        try clear hfz16_0
        try clear hfz16_1
        try clear hfz16_2
        try clear hfz16_3
        try clear hfz18_0
        try clear hfz18_1
        try clear hfz18_2
        try clear hfz18_3
        try clear hfz22_0
        try clear hfz22_1
        try clear hfz22_2
        try clear hfz22_3
        try clear hfz24_0
        try clear hfz24_1
        try clear hfz24_2
        try clear hfz24_3
        try clear hfz27_0
        try clear hfz27_1
        try clear hfz27_2
        try clear hfz27_3
        try clear hfz5_0
        try clear hfz5_1
        try clear hfz5_2
        try clear hfz5_3
        try clear hfz9_0
        try clear hfz9_1
        try clear hfz9_2
        try clear hfz9_3
        try clear p2
        obtain ⟨kq, x6_16, rfl, HA, HJ16, HO_208003, BK207, HB⟩ := hcut
        cases kq with
        | zero => exact absurd HA.out (by simp [handshakerlaw08_CodeOne.j2])
        | succ kj16 =>
         have H := HA.out
         clear HA
         simp only [handshakerlaw08_CodeOne.j2] at H
         have HC29 := Aside0.mk H
         clear H
         go_upto_region 7 with (fail)
         go_cut [7] (fun v7 wc => ∃ (kq : Nat) (x7_28 : Bool), v7 = .bool x7_28 ∧ Aside0 (handshakerlaw08_CodeOne.j3 kq x3_6 x4_12 ((l0_3.length : Int) == 0) x6_16 x7_28 a0_0 a0_1 a0_2 l0_3 = some r) ∧ Aside0 (kq ≤ kj16) ∧ Aside0 (Kd.V k41 41 wc w.heap.size (fun k_ => (P0_3_ k_ ∨ w.heap.size ≤ k_) ∧ k_ ≠ gb207) (.slice A0_3 l0_3.length c0_3) l0_3) ∧ Aside0 (wc.heap[gb207]? = some (.cells #[.int .i64 a0_0, .int .i64 a0_1, .int .i64 a0_2, (.slice A0_3 l0_3.length c0_3)] 37 (0, 0))) ∧ Aside0 (Below w.heap.size w wc))
         case first => as_aux_lemma =>
          have H := HC29.out
          clear HC29
          by_cases c30 : a0_1 ≥ 1
          · rw [if_pos c30] at H
            have c30b0 : decide (1 ≤ a0_1) = true := decide_eq_true c30
            clear c30
            (first | rw [c30b0] | (simp only [i64_w, i32_w]; rw [c30b0]) | skip)
            have H' := Aside0.mk H
            clear H
            have hcz31_0 : wc.cell? ⟨gb207, 0, none⟩ = some (.int .i64 a0_0) := (blk_cell BK207.out 0).trans rfl
            have hcz31_1 : wc.cell? ⟨gb207, 1, none⟩ = some (.int .i64 a0_1) := (blk_cell BK207.out 1).trans rfl
            have hcz31_2 : wc.cell? ⟨gb207, 2, none⟩ = some (.int .i64 a0_2) := (blk_cell BK207.out 2).trans rfl
            have hcz31_3 : wc.cell? ⟨gb207, 3, none⟩ = some (.slice A0_3 l0_3.length c0_3) := (blk_cell BK207.out 3).trans rfl
            have hfz31_0 := blk_frozen BK207.out 0
            have hfz31_1 := blk_frozen BK207.out 1
            have hfz31_2 := blk_frozen BK207.out 2
            have hfz31_3 := blk_frozen BK207.out 3
            go_wp2
            go_meet
            case rel => exact ⟨_, (decide (a0_1 ≤ 24)), (by first | rfl | (simp; done) | (simp [*]; done)), H', ⟨by have := HJ6.out; have := HJ12.out; have := HJ16.out; first | omega | exact Nat.le_refl _⟩, ⟨by (with_reducible repeat (first | apply Kd.V_alloc | apply Kd.V_drewN | apply Kd.V_drew)); exact HO_208003.out⟩, ⟨by (with_reducible repeat (first | refine blk_drewN ?_ _ | refine blk_drew ?_ | refine blk_alloc ?_ _)); exact BK207.out⟩, ⟨by repeat (with_reducible first | exact HB.out | apply below_alloc | apply pw_below_drewN | apply below_drew1 | refine below_set ?_ GE207.out)⟩⟩
          · rw [if_neg c30] at H
            have c30b0 : decide (1 ≤ a0_1) = false := decide_eq_false c30
            clear c30
            (first | rw [c30b0] | (simp only [i64_w, i32_w]; rw [c30b0]) | skip)
            have H' := Aside0.mk H
            clear H
            have hcz32_0 : wc.cell? ⟨gb207, 0, none⟩ = some (.int .i64 a0_0) := (blk_cell BK207.out 0).trans rfl
            have hcz32_1 : wc.cell? ⟨gb207, 1, none⟩ = some (.int .i64 a0_1) := (blk_cell BK207.out 1).trans rfl
            have hcz32_2 : wc.cell? ⟨gb207, 2, none⟩ = some (.int .i64 a0_2) := (blk_cell BK207.out 2).trans rfl
            have hcz32_3 : wc.cell? ⟨gb207, 3, none⟩ = some (.slice A0_3 l0_3.length c0_3) := (blk_cell BK207.out 3).trans rfl
            have hfz32_0 := blk_frozen BK207.out 0
            have hfz32_1 := blk_frozen BK207.out 1
            have hfz32_2 := blk_frozen BK207.out 2
            have hfz32_3 := blk_frozen BK207.out 3
            go_wp2
            go_meet
            case rel => exact ⟨_, (false), (by first | rfl | (simp; done) | (simp [*]; done)), H', ⟨by have := HJ6.out; have := HJ12.out; have := HJ16.out; first | omega | exact Nat.le_refl _⟩, ⟨by (with_reducible repeat (first | apply Kd.V_alloc | apply Kd.V_drewN | apply Kd.V_drew)); exact HO_208003.out⟩, ⟨by (with_reducible repeat (first | refine blk_drewN ?_ _ | refine blk_drew ?_ | refine blk_alloc ?_ _)); exact BK207.out⟩, ⟨by repeat (with_reducible first | exact HB.out | apply below_alloc | apply pw_below_drewN | apply below_drew1 | refine below_set ?_ GE207.out)⟩⟩
         case rest => as_aux_lemma =>
          clear HC29
          try clear c1
          try clear c2
          try clear c2b0
          try clear c2b1
          try clear p2
          try clear c3
          try clear c8
          try clear c10
          try clear c10b0
          try clear c14
          try clear c14b0
          try clear c16
          try clear c20
          try clear c20b0
          try clear c20b1
          try clear c25
          try clear c30
          try clear c30b0
          try clear hcz11_0
          try clear hcz11_1
          try clear hcz11_2
          try clear hcz11_3
          try clear hcz12_0
          try clear hcz12_1
          try clear hcz12_2
          try clear hcz12_3
          try clear hcz15_0
          try clear hcz15_1
          try clear hcz15_2
          try clear hcz15_3
          try clear hcz16_0
          try clear hcz16_1
          try clear hcz16_2
          try clear hcz16_3
          try clear hcz18_0
          try clear hcz18_1
          try clear hcz18_2
          try clear hcz18_3
          try clear hcz22_0
          try clear hcz22_1
          try clear hcz22_2
          try clear hcz22_3
          try clear hcz24_0
          try clear hcz24_1
          try clear hcz24_2
          try clear hcz24_3
          try clear hcz27_0
          try clear hcz27_1
          try clear hcz27_2
          try clear hcz27_3
          try clear hcz31_0
          try clear hcz31_1
          try clear hcz31_2
          try clear hcz31_3
          try clear hcz32_0
          try clear hcz32_1
          try clear hcz32_2
          try clear hcz32_3
          try clear hcz5_0
          try clear hcz5_1
          try clear hcz5_2
          try clear hcz5_3
          try clear hcz9_0
          try clear hcz9_1
          try clear hcz9_2
          try clear hcz9_3
          try clear hfz11_0
          try clear hfz11_1
          try clear hfz11_2
          try clear hfz11_3
          try clear hfz12_0
          try clear hfz12_1
          try clear hfz12_2
          try clear hfz12_3
          try clear hfz15_0
          try clear hfz15_1
          try clear hfz15_2
          try clear hfz15_3
          try clear hfz16_0
          try clear hfz16_1
          try clear hfz16_2
          try clear hfz16_3
          try clear hfz18_0
          try clear hfz18_1
          try clear hfz18_2
          try clear hfz18_3
          try clear hfz22_0
          try clear hfz22_1
          try clear hfz22_2
          try clear hfz22_3
          try clear hfz24_0
          try clear hfz24_1
          try clear hfz24_2
          try clear hfz24_3
          try clear hfz27_0
          try clear hfz27_1
          try clear hfz27_2
          try clear hfz27_3
          try clear hfz31_0
          try clear hfz31_1
          try clear hfz31_2
          try clear hfz31_3
          try clear hfz32_0
          try clear hfz32_1
          try clear hfz32_2
          try clear hfz32_3
          try clear hfz5_0
          try clear hfz5_1
          try clear hfz5_2
          try clear hfz5_3
          try clear hfz9_0
          try clear hfz9_1
          try clear hfz9_2
          try clear hfz9_3
          try clear p2
          obtain ⟨kq, x7_28, rfl, HA, HJ28, HO_208003, BK207, HB⟩ := hcut
          cases kq with
          | zero => exact absurd HA.out (by simp [handshakerlaw08_CodeOne.j3])
          | succ kj28 =>
           have H := HA.out
           clear HA
           simp only [handshakerlaw08_CodeOne.j3] at H
           have HC33 := Aside0.mk H
           clear H
           have hcz34_0 : wc.cell? ⟨gb207, 0, none⟩ = some (.int .i64 a0_0) := (blk_cell BK207.out 0).trans rfl
           have hcz34_1 : wc.cell? ⟨gb207, 1, none⟩ = some (.int .i64 a0_1) := (blk_cell BK207.out 1).trans rfl
           have hcz34_2 : wc.cell? ⟨gb207, 2, none⟩ = some (.int .i64 a0_2) := (blk_cell BK207.out 2).trans rfl
           have hcz34_3 : wc.cell? ⟨gb207, 3, none⟩ = some (.slice A0_3 l0_3.length c0_3) := (blk_cell BK207.out 3).trans rfl
           have hfz34_0 := blk_frozen BK207.out 0
           have hfz34_1 := blk_frozen BK207.out 1
           have hfz34_2 := blk_frozen BK207.out 2
           have hfz34_3 := blk_frozen BK207.out 3
           go_upto_block 0 with (fail)
           go_cut [8] (fun v8 wc => ∃ (kq : Nat) (x8_32 : Int), v8 = .int .i64 x8_32 ∧ Aside0 (handshakerlaw08_CodeOne.j11 kq x8_32 a0_0 a0_1 a0_2 l0_3 = some r) ∧ Aside0 (kq ≤ kj28) ∧ Aside0 (Kd.V k41 41 wc w.heap.size (fun k_ => (P0_3_ k_ ∨ w.heap.size ≤ k_) ∧ k_ ≠ gb207) (.slice A0_3 l0_3.length c0_3) l0_3) ∧ Aside0 (wc.heap[gb207]? = some (.cells #[.int .i64 a0_0, .int .i64 a0_1, .int .i64 a0_2, (.slice A0_3 l0_3.length c0_3)] 37 (0, 0))) ∧ Aside0 (Below w.heap.size w wc))
           case first => as_aux_lemma =>
            have H := HC33.out
            clear HC33
            by_cases c35 : a0_0 = 1
            · rw [if_pos c35] at H
              have c35b0 : (a0_0 == 1) = true := beq_iff_eq.mpr c35
              have c35b1 : (a0_0 != 1) = false := bne_eq_false_iff_eq.mpr c35
              clear c35
              (first | rw [c35b0] | (simp only [i64_w, i32_w]; rw [c35b0]) | skip)
              have HC36 := Aside0.mk H
              clear H
              go_upto_region 11 with (fail)
              go_cut [70] (fun v70 wc => ∃ (kq : Nat) (x70_35 : Bool), v70 = .bool x70_35 ∧ Aside0 (handshakerlaw08_CodeOne.j4 kq 1 x70_35 a0_0 a0_1 a0_2 l0_3 = some r) ∧ Aside0 (kq ≤ kj28) ∧ Aside0 (Kd.V k41 41 wc w.heap.size (fun k_ => (P0_3_ k_ ∨ w.heap.size ≤ k_) ∧ k_ ≠ gb207) (.slice A0_3 l0_3.length c0_3) l0_3) ∧ Aside0 (wc.heap[gb207]? = some (.cells #[.int .i64 a0_0, .int .i64 a0_1, .int .i64 a0_2, (.slice A0_3 l0_3.length c0_3)] 37 (0, 0))) ∧ Aside0 (Below w.heap.size w wc))
              case first => as_aux_lemma =>
               have H := HC36.out
               clear HC36
               by_cases c37 : ((l0_3.length : Int) == 0) = true
               · rw [if_pos c37] at H
                 have c37b0 : ((l0_3.length : Int) == 0) = true := c37
                 (try (have c37b1 : decide ((l0_3.length : Int) = 0) = true := by simpa using c37))
                 (try (have c37b2 : ((l0_3.length : Int) == 0) = true := by simpa using c37))
                 clear c37
                 (first | rw [c37b0] | (simp only [i64_w, i32_w]; rw [c37b0]) | skip)
                 by_cases c38 : x3_6 = true
                 · subst c38
                   have H1 : (if a0_2 ≥ 0 then (handshakerlaw08_CodeOne.j4 kj28 1 (decide (a0_2 < 64)) a0_0 a0_1 a0_2 l0_3) else (handshakerlaw08_CodeOne.j4 kj28 1 false a0_0 a0_1 a0_2 l0_3)) = some r := by rw [if_pos rfl] at H; exact H
                   clear H
                   have H := H1
                   clear H1
                   by_cases c39 : a0_2 ≥ 0
                   · rw [if_pos c39] at H
                     have c39b0 : decide (0 ≤ a0_2) = true := decide_eq_true c39
                     clear c39
                     have H' := Aside0.mk H
                     clear H
                     have hcz40_0 : wc.cell? ⟨gb207, 0, none⟩ = some (.int .i64 a0_0) := (blk_cell BK207.out 0).trans rfl
                     have hcz40_1 : wc.cell? ⟨gb207, 1, none⟩ = some (.int .i64 a0_1) := (blk_cell BK207.out 1).trans rfl
                     have hcz40_2 : wc.cell? ⟨gb207, 2, none⟩ = some (.int .i64 a0_2) := (blk_cell BK207.out 2).trans rfl
                     have hcz40_3 : wc.cell? ⟨gb207, 3, none⟩ = some (.slice A0_3 l0_3.length c0_3) := (blk_cell BK207.out 3).trans rfl
                     have hfz40_0 := blk_frozen BK207.out 0
                     have hfz40_1 := blk_frozen BK207.out 1
                     have hfz40_2 := blk_frozen BK207.out 2
                     have hfz40_3 := blk_frozen BK207.out 3
                     go_wp2
                     first | go_meet | (refine Met.intro ?_; go_step; (repeat apply Exists.intro); refine ⟨?rel, by rw [c37b0]; try rfl⟩)
                     case rel => exact ⟨_, (decide (a0_2 < 64)), (by first | rfl | (simp; done) | (simp [*]; done)), H', ⟨by have := HJ6.out; have := HJ12.out; have := HJ16.out; have := HJ28.out; first | omega | exact Nat.le_refl _⟩, ⟨by (with_reducible repeat (first | apply Kd.V_alloc | apply Kd.V_drewN | apply Kd.V_drew)); exact HO_208003.out⟩, ⟨by (with_reducible repeat (first | refine blk_drewN ?_ _ | refine blk_drew ?_ | refine blk_alloc ?_ _)); exact BK207.out⟩, ⟨by repeat (with_reducible first | exact HB.out | apply below_alloc | apply pw_below_drewN | apply below_drew1 | refine below_set ?_ GE207.out)⟩⟩
                   · rw [if_neg c39] at H
                     have c39b0 : decide (0 ≤ a0_2) = false := decide_eq_false c39
                     clear c39
                     have H' := Aside0.mk H
                     clear H
                     have hcz41_0 : wc.cell? ⟨gb207, 0, none⟩ = some (.int .i64 a0_0) := (blk_cell BK207.out 0).trans rfl
                     have hcz41_1 : wc.cell? ⟨gb207, 1, none⟩ = some (.int .i64 a0_1) := (blk_cell BK207.out 1).trans rfl
                     have hcz41_2 : wc.cell? ⟨gb207, 2, none⟩ = some (.int .i64 a0_2) := (blk_cell BK207.out 2).trans rfl
                     have hcz41_3 : wc.cell? ⟨gb207, 3, none⟩ = some (.slice A0_3 l0_3.length c0_3) := (blk_cell BK207.out 3).trans rfl
                     have hfz41_0 := blk_frozen BK207.out 0
                     have hfz41_1 := blk_frozen BK207.out 1
                     have hfz41_2 := blk_frozen BK207.out 2
                     have hfz41_3 := blk_frozen BK207.out 3
                     go_wp2
                     first | go_meet | (refine Met.intro ?_; go_step; (repeat apply Exists.intro); refine ⟨?rel, by rw [c37b0]; try rfl⟩)
                     case rel => exact ⟨_, (false), (by first | rfl | (simp; done) | (simp [*]; done)), H', ⟨by have := HJ6.out; have := HJ12.out; have := HJ16.out; have := HJ28.out; first | omega | exact Nat.le_refl _⟩, ⟨by (with_reducible repeat (first | apply Kd.V_alloc | apply Kd.V_drewN | apply Kd.V_drew)); exact HO_208003.out⟩, ⟨by (with_reducible repeat (first | refine blk_drewN ?_ _ | refine blk_drew ?_ | refine blk_alloc ?_ _)); exact BK207.out⟩, ⟨by repeat (with_reducible first | exact HB.out | apply below_alloc | apply pw_below_drewN | apply below_drew1 | refine below_set ?_ GE207.out)⟩⟩
                 · replace c38 := Bool.eq_false_iff.mpr c38
                   subst c38
                   have H1 : (handshakerlaw08_CodeOne.j4 kj28 1 false a0_0 a0_1 a0_2 l0_3) = some r := by rw [if_neg (show ¬ (false = true) by decide)] at H; exact H
                   clear H
                   have H := H1
                   clear H1
                   have H' := Aside0.mk H
                   clear H
                   go_wp2
                   first | go_meet | (refine Met.intro ?_; go_step; (repeat apply Exists.intro); refine ⟨?rel, by rw [c37b0]; try rfl⟩)
                   case rel => exact ⟨_, (false), (by first | rfl | (simp; done) | (simp [*]; done)), H', ⟨by have := HJ6.out; have := HJ12.out; have := HJ16.out; have := HJ28.out; first | omega | exact Nat.le_refl _⟩, ⟨by (with_reducible repeat (first | apply Kd.V_alloc | apply Kd.V_drewN | apply Kd.V_drew)); exact HO_208003.out⟩, ⟨by (with_reducible repeat (first | refine blk_drewN ?_ _ | refine blk_drew ?_ | refine blk_alloc ?_ _)); exact BK207.out⟩, ⟨by repeat (with_reducible first | exact HB.out | apply below_alloc | apply pw_below_drewN | apply below_drew1 | refine below_set ?_ GE207.out)⟩⟩
               · rw [if_neg c37] at H
                 have c37b0 : ((l0_3.length : Int) == 0) = false := by simpa using c37
                 (try (have c37b1 : decide ((l0_3.length : Int) = 0) = false := by simpa using c37))
                 (try (have c37b2 : ((l0_3.length : Int) == 0) = false := by simpa using c37))
                 (try (have c37b3 : ¬ ((l0_3.length : Int) = 0) := by simpa using c37))
                 clear c37
                 (first | rw [c37b0] | (simp only [i64_w, i32_w]; rw [c37b0]) | skip)
                 have H' := Aside0.mk H
                 clear H
                 go_wp2
                 first | go_meet | (refine Met.intro ?_; go_step; (repeat apply Exists.intro); refine ⟨?rel, by rw [c37b0]; try rfl⟩)
                 case rel => exact ⟨_, (false), (by first | rfl | (simp; done) | (simp [*]; done)), H', ⟨by have := HJ6.out; have := HJ12.out; have := HJ16.out; have := HJ28.out; first | omega | exact Nat.le_refl _⟩, ⟨by (with_reducible repeat (first | apply Kd.V_alloc | apply Kd.V_drewN | apply Kd.V_drew)); exact HO_208003.out⟩, ⟨by (with_reducible repeat (first | refine blk_drewN ?_ _ | refine blk_drew ?_ | refine blk_alloc ?_ _)); exact BK207.out⟩, ⟨by repeat (with_reducible first | exact HB.out | apply below_alloc | apply pw_below_drewN | apply below_drew1 | refine below_set ?_ GE207.out)⟩⟩
              case rest => as_aux_lemma =>
               clear HC36
               try clear c1
               try clear c2
               try clear c2b0
               try clear c2b1
               try clear p2
               try clear c3
               try clear c8
               try clear c10
               try clear c10b0
               try clear c14
               try clear c14b0
               try clear c16
               try clear c20
               try clear c20b0
               try clear c20b1
               try clear c25
               try clear c30
               try clear c30b0
               try clear c35
               try clear c35b0
               try clear c35b1
               try clear c37
               try clear c37b0
               try clear c37b1
               try clear c37b2
               try clear c38
               try clear c39
               try clear c39b0
               try clear hcz11_0
               try clear hcz11_1
               try clear hcz11_2
               try clear hcz11_3
               try clear hcz12_0
               try clear hcz12_1
               try clear hcz12_2
               try clear hcz12_3
               try clear hcz15_0
               try clear hcz15_1
               try clear hcz15_2
               try clear hcz15_3
               try clear hcz16_0
               try clear hcz16_1
               try clear hcz16_2
               try clear hcz16_3
               try clear hcz18_0
               try clear hcz18_1
               try clear hcz18_2
               try clear hcz18_3
               try clear hcz22_0
               try clear hcz22_1
               try clear hcz22_2
               try clear hcz22_3
               try clear hcz24_0
               try clear hcz24_1
               try clear hcz24_2
               try clear hcz24_3
               try clear hcz27_0
               try clear hcz27_1
               try clear hcz27_2
               try clear hcz27_3
               try clear hcz31_0
               try clear hcz31_1
               try clear hcz31_2
               try clear hcz31_3
               try clear hcz32_0
               try clear hcz32_1
               try clear hcz32_2
               try clear hcz32_3
               try clear hcz34_0
               try clear hcz34_1
               try clear hcz34_2
               try clear hcz34_3
               try clear hcz40_0
               try clear hcz40_1
               try clear hcz40_2
               try clear hcz40_3
               try clear hcz41_0
               try clear hcz41_1
               try clear hcz41_2
               try clear hcz41_3
               try clear hcz5_0
               try clear hcz5_1
               try clear hcz5_2
               try clear hcz5_3
               try clear hcz9_0
               try clear hcz9_1
               try clear hcz9_2
               try clear hcz9_3
               try clear hfz11_0
               try clear hfz11_1
               try clear hfz11_2
               try clear hfz11_3
               try clear hfz12_0
               try clear hfz12_1
               try clear hfz12_2
               try clear hfz12_3
               try clear hfz15_0
               try clear hfz15_1
               try clear hfz15_2
               try clear hfz15_3
               try clear hfz16_0
               try clear hfz16_1
               try clear hfz16_2
               try clear hfz16_3
               try clear hfz18_0
               try clear hfz18_1
               try clear hfz18_2
               try clear hfz18_3
               try clear hfz22_0
               try clear hfz22_1
               try clear hfz22_2
               try clear hfz22_3
               try clear hfz24_0
               try clear hfz24_1
               try clear hfz24_2
               try clear hfz24_3
               try clear hfz27_0
               try clear hfz27_1
               try clear hfz27_2
               try clear hfz27_3
               try clear hfz31_0
               try clear hfz31_1
               try clear hfz31_2
               try clear hfz31_3
               try clear hfz32_0
               try clear hfz32_1
               try clear hfz32_2
               try clear hfz32_3
               try clear hfz34_0
               try clear hfz34_1
               try clear hfz34_2
               try clear hfz34_3
               try clear hfz40_0
               try clear hfz40_1
               try clear hfz40_2
               try clear hfz40_3
               try clear hfz41_0
               try clear hfz41_1
               try clear hfz41_2
               try clear hfz41_3
               try clear hfz5_0
               try clear hfz5_1
               try clear hfz5_2
               try clear hfz5_3
               try clear hfz9_0
               try clear hfz9_1
               try clear hfz9_2
               try clear hfz9_3
               try clear p2
               obtain ⟨kq, x70_35, rfl, HA, HJ35, HO_208003, BK207, HB⟩ := hcut
               cases kq with
               | zero => exact absurd HA.out (by simp [handshakerlaw08_CodeOne.j4])
               | succ kj35 =>
                have H := HA.out
                clear HA
                simp only [handshakerlaw08_CodeOne.j4] at H
                by_cases c42 : x70_35 = true
                · subst c42
                  have H1 : (handshakerlaw08_CodeOne.j11 kj35 0 a0_0 a0_1 a0_2 l0_3) = some r := by rw [if_pos rfl] at H; exact H
                  clear H
                  have H := H1
                  clear H1
                  have H' := Aside0.mk H
                  clear H
                  go_wp2
                  go_meet
                  case rel => exact ⟨_, (0), (by first | rfl | (simp; done) | (simp [*]; done)), H', ⟨by have := HJ6.out; have := HJ12.out; have := HJ16.out; have := HJ28.out; have := HJ35.out; first | omega | exact Nat.le_refl _⟩, ⟨by (with_reducible repeat (first | apply Kd.V_alloc | apply Kd.V_drewN | apply Kd.V_drew)); exact HO_208003.out⟩, ⟨by (with_reducible repeat (first | refine blk_drewN ?_ _ | refine blk_drew ?_ | refine blk_alloc ?_ _)); exact BK207.out⟩, ⟨by repeat (with_reducible first | exact HB.out | apply below_alloc | apply pw_below_drewN | apply below_drew1 | refine below_set ?_ GE207.out)⟩⟩
                · replace c42 := Bool.eq_false_iff.mpr c42
                  subst c42
                  have H1 : (handshakerlaw08_CodeOne.j11 kj35 1 a0_0 a0_1 a0_2 l0_3) = some r := by rw [if_neg (show ¬ (false = true) by decide)] at H; exact H
                  clear H
                  have H := H1
                  clear H1
                  have H' := Aside0.mk H
                  clear H
                  go_wp2
                  go_meet
                  case rel => exact ⟨_, (1), (by first | rfl | (simp; done) | (simp [*]; done)), H', ⟨by have := HJ6.out; have := HJ12.out; have := HJ16.out; have := HJ28.out; have := HJ35.out; first | omega | exact Nat.le_refl _⟩, ⟨by (with_reducible repeat (first | apply Kd.V_alloc | apply Kd.V_drewN | apply Kd.V_drew)); exact HO_208003.out⟩, ⟨by (with_reducible repeat (first | refine blk_drewN ?_ _ | refine blk_drew ?_ | refine blk_alloc ?_ _)); exact BK207.out⟩, ⟨by repeat (with_reducible first | exact HB.out | apply below_alloc | apply pw_below_drewN | apply below_drew1 | refine below_set ?_ GE207.out)⟩⟩
            · rw [if_neg c35] at H
              have c35b0 : (a0_0 == 1) = false := beq_eq_false_iff_ne.mpr c35
              have c35b1 : (a0_0 != 1) = true := bne_iff_ne.mpr c35
              (first | rw [c35b0] | (simp only [i64_w, i32_w]; rw [c35b0]) | skip)
              have HC43 := Aside0.mk H
              clear H
              go_upto_if 71 with (fail)
              go_cut [71] (fun v71 wc => ∃ (kq : Nat) (x71_42 : Bool), v71 = .bool x71_42 ∧ Aside0 (handshakerlaw08_CodeOne.j5 kq x3_6 x4_12 ((l0_3.length : Int) == 0) x6_16 x7_28 1 a0_0 x71_42 a0_0 a0_1 a0_2 l0_3 = some r) ∧ Aside0 (kq ≤ kj28) ∧ Aside0 (Kd.V k41 41 wc w.heap.size (fun k_ => (P0_3_ k_ ∨ w.heap.size ≤ k_) ∧ k_ ≠ gb207) (.slice A0_3 l0_3.length c0_3) l0_3) ∧ Aside0 (wc.heap[gb207]? = some (.cells #[.int .i64 a0_0, .int .i64 a0_1, .int .i64 a0_2, (.slice A0_3 l0_3.length c0_3)] 37 (0, 0))) ∧ Aside0 (Below w.heap.size w wc))
              case first => as_aux_lemma =>
               have H := HC43.out
               clear HC43
               by_cases c44 : a0_0 = 2
               · rw [if_pos c44] at H
                 have c44b0 : (a0_0 == 2) = true := beq_iff_eq.mpr c44
                 have c44b1 : (a0_0 != 2) = false := bne_eq_false_iff_eq.mpr c44
                 clear c44
                 (first | rw [c44b0] | (simp only [i64_w, i32_w]; rw [c44b0]) | skip)
                 have H' := Aside0.mk H
                 clear H
                 go_wp2
                 go_meet
                 case rel => exact ⟨_, ((a0_0 == 2)), (by first | rfl | (simp; done) | (simp [*]; done)), H', ⟨by have := HJ6.out; have := HJ12.out; have := HJ16.out; have := HJ28.out; first | omega | exact Nat.le_refl _⟩, ⟨by (with_reducible repeat (first | apply Kd.V_alloc | apply Kd.V_drewN | apply Kd.V_drew)); exact HO_208003.out⟩, ⟨by (with_reducible repeat (first | refine blk_drewN ?_ _ | refine blk_drew ?_ | refine blk_alloc ?_ _)); exact BK207.out⟩, ⟨by repeat (with_reducible first | exact HB.out | apply below_alloc | apply pw_below_drewN | apply below_drew1 | refine below_set ?_ GE207.out)⟩⟩
               · rw [if_neg c44] at H
                 have c44b0 : (a0_0 == 2) = false := beq_eq_false_iff_ne.mpr c44
                 have c44b1 : (a0_0 != 2) = true := bne_iff_ne.mpr c44
                 (first | rw [c44b0] | (simp only [i64_w, i32_w]; rw [c44b0]) | skip)
                 have H' := Aside0.mk H
                 clear H
                 go_wp2
                 go_meet
                 case rel => exact ⟨_, ((a0_0 == 3)), (by first | rfl | (simp; done) | (simp [*]; done)), H', ⟨by have := HJ6.out; have := HJ12.out; have := HJ16.out; have := HJ28.out; first | omega | exact Nat.le_refl _⟩, ⟨by (with_reducible repeat (first | apply Kd.V_alloc | apply Kd.V_drewN | apply Kd.V_drew)); exact HO_208003.out⟩, ⟨by (with_reducible repeat (first | refine blk_drewN ?_ _ | refine blk_drew ?_ | refine blk_alloc ?_ _)); exact BK207.out⟩, ⟨by repeat (with_reducible first | exact HB.out | apply below_alloc | apply pw_below_drewN | apply below_drew1 | refine below_set ?_ GE207.out)⟩⟩
              case rest => as_aux_lemma =>
               clear HC43
               try clear c1
               try clear c2
               try clear c2b0
               try clear c2b1
               try clear p2
               try clear c3
               try clear c4
               try clear c8
               try clear c10
               try clear c10b0
               try clear c14
               try clear c14b0
               try clear c16
               try clear c20
               try clear c20b0
               try clear c20b1
               try clear c25
               try clear c30
               try clear c30b0
               try clear c35
               try clear c35b0
               try clear c35b1
               try clear c37
               try clear c37b0
               try clear c37b1
               try clear c37b2
               try clear c38
               try clear c39
               try clear c39b0
               try clear c42
               try clear c44
               try clear c44b0
               try clear c44b1
               try clear hcz11_0
               try clear hcz11_1
               try clear hcz11_2
               try clear hcz11_3
               try clear hcz12_0
               try clear hcz12_1
               try clear hcz12_2
               try clear hcz12_3
               try clear hcz15_0
               try clear hcz15_1
               try clear hcz15_2
               try clear hcz15_3
               try clear hcz16_0
               try clear hcz16_1
               try clear hcz16_2
               try clear hcz16_3
               try clear hcz18_0
               try clear hcz18_1
               try clear hcz18_2
               try clear hcz18_3
               try clear hcz22_0
               try clear hcz22_1
               try clear hcz22_2
               try clear hcz22_3
               try clear hcz24_0
               try clear hcz24_1
               try clear hcz24_2
               try clear hcz24_3
               try clear hcz27_0
               try clear hcz27_1
               try clear hcz27_2
               try clear hcz27_3
               try clear hcz31_0
               try clear hcz31_1
               try clear hcz31_2
               try clear hcz31_3
               try clear hcz32_0
               try clear hcz32_1
               try clear hcz32_2
               try clear hcz32_3
               try clear hcz34_0
               try clear hcz34_1
               try clear hcz34_2
               try clear hcz34_3
               try clear hcz40_0
               try clear hcz40_1
               try clear hcz40_2
               try clear hcz40_3
               try clear hcz41_0
               try clear hcz41_1
               try clear hcz41_2
               try clear hcz41_3
               try clear hcz5_0
               try clear hcz5_1
               try clear hcz5_2
               try clear hcz5_3
               try clear hcz9_0
               try clear hcz9_1
               try clear hcz9_2
               try clear hcz9_3
               try clear hfz11_0
               try clear hfz11_1
               try clear hfz11_2
               try clear hfz11_3
               try clear hfz12_0
               try clear hfz12_1
               try clear hfz12_2
               try clear hfz12_3
               try clear hfz15_0
               try clear hfz15_1
               try clear hfz15_2
               try clear hfz15_3
               try clear hfz16_0
               try clear hfz16_1
               try clear hfz16_2
               try clear hfz16_3
               try clear hfz18_0
               try clear hfz18_1
               try clear hfz18_2
               try clear hfz18_3
               try clear hfz22_0
               try clear hfz22_1
               try clear hfz22_2
               try clear hfz22_3
               try clear hfz24_0
               try clear hfz24_1
               try clear hfz24_2
               try clear hfz24_3
               try clear hfz27_0
               try clear hfz27_1
               try clear hfz27_2
               try clear hfz27_3
               try clear hfz31_0
               try clear hfz31_1
               try clear hfz31_2
               try clear hfz31_3
               try clear hfz32_0
               try clear hfz32_1
               try clear hfz32_2
               try clear hfz32_3
               try clear hfz34_0
               try clear hfz34_1
               try clear hfz34_2
               try clear hfz34_3
               try clear hfz40_0
               try clear hfz40_1
               try clear hfz40_2
               try clear hfz40_3
               try clear hfz41_0
               try clear hfz41_1
               try clear hfz41_2
               try clear hfz41_3
               try clear hfz5_0
               try clear hfz5_1
               try clear hfz5_2
               try clear hfz5_3
               try clear hfz9_0
               try clear hfz9_1
               try clear hfz9_2
               try clear hfz9_3
               try clear p2
               obtain ⟨kq, x71_42, rfl, HA, HJ42, HO_208003, BK207, HB⟩ := hcut
               cases kq with
               | zero => exact absurd HA.out (by simp [handshakerlaw08_CodeOne.j5])
               | succ kj42 =>
                have H := HA.out
                clear HA
                simp only [handshakerlaw08_CodeOne.j5] at H
                by_cases c45 : x71_42 = true
                · subst c45
                  have H1 : (if x6_16 = true then (if a0_2 = 0 then (if a0_0 = 2 then (if x3_6 = true then (handshakerlaw08_CodeOne.j6 kj42 1 true a0_0 a0_1 a0_2 l0_3) else (if a0_0 = 3 then (handshakerlaw08_CodeOne.j6 kj42 1 x4_12 a0_0 a0_1 a0_2 l0_3) else (handshakerlaw08_CodeOne.j6 kj42 1 false a0_0 a0_1 a0_2 l0_3))) else (if a0_0 = 3 then (handshakerlaw08_CodeOne.j6 kj42 1 x4_12 a0_0 a0_1 a0_2 l0_3) else (handshakerlaw08_CodeOne.j6 kj42 1 false a0_0 a0_1 a0_2 l0_3))) else (handshakerlaw08_CodeOne.j6 kj42 1 false a0_0 a0_1 a0_2 l0_3)) else (handshakerlaw08_CodeOne.j6 kj42 1 false a0_0 a0_1 a0_2 l0_3)) = some r := by rw [if_pos rfl] at H; exact H
                  clear H
                  have H := H1
                  clear H1
                  have HC46 := Aside0.mk H
                  clear H
                  go_upto_region 15 with (fail)
                  go_cut [95] (fun v95 wc => ∃ (kq : Nat) (x95_45 : Bool), v95 = .bool x95_45 ∧ Aside0 (handshakerlaw08_CodeOne.j6 kq 1 x95_45 a0_0 a0_1 a0_2 l0_3 = some r) ∧ Aside0 (kq ≤ kj42) ∧ Aside0 (Kd.V k41 41 wc w.heap.size (fun k_ => (P0_3_ k_ ∨ w.heap.size ≤ k_) ∧ k_ ≠ gb207) (.slice A0_3 l0_3.length c0_3) l0_3) ∧ Aside0 (wc.heap[gb207]? = some (.cells #[.int .i64 a0_0, .int .i64 a0_1, .int .i64 a0_2, (.slice A0_3 l0_3.length c0_3)] 37 (0, 0))) ∧ Aside0 (Below w.heap.size w wc))
                  case first => as_aux_lemma =>
                   have H := HC46.out
                   clear HC46
                   by_cases c47 : x6_16 = true
                   · subst c47
                     have H1 : (if a0_2 = 0 then (if a0_0 = 2 then (if x3_6 = true then (handshakerlaw08_CodeOne.j6 kj42 1 true a0_0 a0_1 a0_2 l0_3) else (if a0_0 = 3 then (handshakerlaw08_CodeOne.j6 kj42 1 x4_12 a0_0 a0_1 a0_2 l0_3) else (handshakerlaw08_CodeOne.j6 kj42 1 false a0_0 a0_1 a0_2 l0_3))) else (if a0_0 = 3 then (handshakerlaw08_CodeOne.j6 kj42 1 x4_12 a0_0 a0_1 a0_2 l0_3) else (handshakerlaw08_CodeOne.j6 kj42 1 false a0_0 a0_1 a0_2 l0_3))) else (handshakerlaw08_CodeOne.j6 kj42 1 false a0_0 a0_1 a0_2 l0_3)) = some r := by rw [if_pos rfl] at H; exact H
                     clear H
                     have H := H1
                     clear H1
                     by_cases c48 : a0_2 = 0
                     · rw [if_pos c48] at H
                       have c48b0 : (a0_2 == 0) = true := beq_iff_eq.mpr c48
                       have c48b1 : (a0_2 != 0) = false := bne_eq_false_iff_eq.mpr c48
                       clear c48
                       (first | rw [c48b0] | (simp only [i64_w, i32_w]; rw [c48b0]) | skip)
                       by_cases c49 : a0_0 = 2
                       · rw [if_pos c49] at H
                         have c49b0 : (a0_0 == 2) = true := beq_iff_eq.mpr c49
                         have c49b1 : (a0_0 != 2) = false := bne_eq_false_iff_eq.mpr c49
                         clear c49
                         by_cases c50 : x3_6 = true
                         · subst c50
                           have H1 : (handshakerlaw08_CodeOne.j6 kj42 1 true a0_0 a0_1 a0_2 l0_3) = some r := by rw [if_pos rfl] at H; exact H
                           clear H
                           have H := H1
                           clear H1
                           have H' := Aside0.mk H
                           clear H
                           have hcz51_0 : wc.cell? ⟨gb207, 0, none⟩ = some (.int .i64 a0_0) := (blk_cell BK207.out 0).trans rfl
                           have hcz51_1 : wc.cell? ⟨gb207, 1, none⟩ = some (.int .i64 a0_1) := (blk_cell BK207.out 1).trans rfl
                           have hcz51_2 : wc.cell? ⟨gb207, 2, none⟩ = some (.int .i64 a0_2) := (blk_cell BK207.out 2).trans rfl
                           have hcz51_3 : wc.cell? ⟨gb207, 3, none⟩ = some (.slice A0_3 l0_3.length c0_3) := (blk_cell BK207.out 3).trans rfl
                           have hfz51_0 := blk_frozen BK207.out 0
                           have hfz51_1 := blk_frozen BK207.out 1
                           have hfz51_2 := blk_frozen BK207.out 2
                           have hfz51_3 := blk_frozen BK207.out 3
                           go_wp2
                           go_meet
                           case rel => exact ⟨_, (true), (by first | rfl | (simp; done) | (simp [*]; done)), H', ⟨by have := HJ6.out; have := HJ12.out; have := HJ16.out; have := HJ28.out; have := HJ42.out; first | omega | exact Nat.le_refl _⟩, ⟨by (with_reducible repeat (first | apply Kd.V_alloc | apply Kd.V_drewN | apply Kd.V_drew)); exact HO_208003.out⟩, ⟨by (with_reducible repeat (first | refine blk_drewN ?_ _ | refine blk_drew ?_ | refine blk_alloc ?_ _)); exact BK207.out⟩, ⟨by repeat (with_reducible first | exact HB.out | apply below_alloc | apply pw_below_drewN | apply below_drew1 | refine below_set ?_ GE207.out)⟩⟩
                         · replace c50 := Bool.eq_false_iff.mpr c50
                           subst c50
                           have H1 : (if a0_0 = 3 then (handshakerlaw08_CodeOne.j6 kj42 1 x4_12 a0_0 a0_1 a0_2 l0_3) else (handshakerlaw08_CodeOne.j6 kj42 1 false a0_0 a0_1 a0_2 l0_3)) = some r := by rw [if_neg (show ¬ (false = true) by decide)] at H; exact H
                           clear H
                           have H := H1
                           clear H1
                           by_cases c52 : a0_0 = 3
                           · rw [if_pos c52] at H
                             have c52b0 : (a0_0 == 3) = true := beq_iff_eq.mpr c52
                             have c52b1 : (a0_0 != 3) = false := bne_eq_false_iff_eq.mpr c52
                             clear c52
                             have H' := Aside0.mk H
                             clear H
                             have hcz53_0 : wc.cell? ⟨gb207, 0, none⟩ = some (.int .i64 a0_0) := (blk_cell BK207.out 0).trans rfl
                             have hcz53_1 : wc.cell? ⟨gb207, 1, none⟩ = some (.int .i64 a0_1) := (blk_cell BK207.out 1).trans rfl
                             have hcz53_2 : wc.cell? ⟨gb207, 2, none⟩ = some (.int .i64 a0_2) := (blk_cell BK207.out 2).trans rfl
                             have hcz53_3 : wc.cell? ⟨gb207, 3, none⟩ = some (.slice A0_3 l0_3.length c0_3) := (blk_cell BK207.out 3).trans rfl
                             have hfz53_0 := blk_frozen BK207.out 0
                             have hfz53_1 := blk_frozen BK207.out 1
                             have hfz53_2 := blk_frozen BK207.out 2
                             have hfz53_3 := blk_frozen BK207.out 3
                             go_wp2
                             go_meet
                             case rel => exact ⟨_, (x4_12), (by first | rfl | (simp; done) | (simp [*]; done)), H', ⟨by have := HJ6.out; have := HJ12.out; have := HJ16.out; have := HJ28.out; have := HJ42.out; first | omega | exact Nat.le_refl _⟩, ⟨by (with_reducible repeat (first | apply Kd.V_alloc | apply Kd.V_drewN | apply Kd.V_drew)); exact HO_208003.out⟩, ⟨by (with_reducible repeat (first | refine blk_drewN ?_ _ | refine blk_drew ?_ | refine blk_alloc ?_ _)); exact BK207.out⟩, ⟨by repeat (with_reducible first | exact HB.out | apply below_alloc | apply pw_below_drewN | apply below_drew1 | refine below_set ?_ GE207.out)⟩⟩
                           · rw [if_neg c52] at H
                             have c52b0 : (a0_0 == 3) = false := beq_eq_false_iff_ne.mpr c52
                             have c52b1 : (a0_0 != 3) = true := bne_iff_ne.mpr c52
                             have H' := Aside0.mk H
                             clear H
                             have hcz54_0 : wc.cell? ⟨gb207, 0, none⟩ = some (.int .i64 a0_0) := (blk_cell BK207.out 0).trans rfl
                             have hcz54_1 : wc.cell? ⟨gb207, 1, none⟩ = some (.int .i64 a0_1) := (blk_cell BK207.out 1).trans rfl
                             have hcz54_2 : wc.cell? ⟨gb207, 2, none⟩ = some (.int .i64 a0_2) := (blk_cell BK207.out 2).trans rfl
                             have hcz54_3 : wc.cell? ⟨gb207, 3, none⟩ = some (.slice A0_3 l0_3.length c0_3) := (blk_cell BK207.out 3).trans rfl
                             have hfz54_0 := blk_frozen BK207.out 0
                             have hfz54_1 := blk_frozen BK207.out 1
                             have hfz54_2 := blk_frozen BK207.out 2
                             have hfz54_3 := blk_frozen BK207.out 3
                             go_wp2
                             go_meet
                             case rel => exact ⟨_, (false), (by first | rfl | (simp; done) | (simp [*]; done)), H', ⟨by have := HJ6.out; have := HJ12.out; have := HJ16.out; have := HJ28.out; have := HJ42.out; first | omega | exact Nat.le_refl _⟩, ⟨by (with_reducible repeat (first | apply Kd.V_alloc | apply Kd.V_drewN | apply Kd.V_drew)); exact HO_208003.out⟩, ⟨by (with_reducible repeat (first | refine blk_drewN ?_ _ | refine blk_drew ?_ | refine blk_alloc ?_ _)); exact BK207.out⟩, ⟨by repeat (with_reducible first | exact HB.out | apply below_alloc | apply pw_below_drewN | apply below_drew1 | refine below_set ?_ GE207.out)⟩⟩
                       · rw [if_neg c49] at H
                         have c49b0 : (a0_0 == 2) = false := beq_eq_false_iff_ne.mpr c49
                         have c49b1 : (a0_0 != 2) = true := bne_iff_ne.mpr c49
                         by_cases c55 : a0_0 = 3
                         · rw [if_pos c55] at H
                           have c55b0 : (a0_0 == 3) = true := beq_iff_eq.mpr c55
                           have c55b1 : (a0_0 != 3) = false := bne_eq_false_iff_eq.mpr c55
                           clear c55
                           have H' := Aside0.mk H
                           clear H
                           have hcz56_0 : wc.cell? ⟨gb207, 0, none⟩ = some (.int .i64 a0_0) := (blk_cell BK207.out 0).trans rfl
                           have hcz56_1 : wc.cell? ⟨gb207, 1, none⟩ = some (.int .i64 a0_1) := (blk_cell BK207.out 1).trans rfl
                           have hcz56_2 : wc.cell? ⟨gb207, 2, none⟩ = some (.int .i64 a0_2) := (blk_cell BK207.out 2).trans rfl
                           have hcz56_3 : wc.cell? ⟨gb207, 3, none⟩ = some (.slice A0_3 l0_3.length c0_3) := (blk_cell BK207.out 3).trans rfl
                           have hfz56_0 := blk_frozen BK207.out 0
                           have hfz56_1 := blk_frozen BK207.out 1
                           have hfz56_2 := blk_frozen BK207.out 2
                           have hfz56_3 := blk_frozen BK207.out 3
                           go_wp2
                           go_meet
                           case rel => exact ⟨_, (x4_12), (by first | rfl | (simp; done) | (simp [*]; done)), H', ⟨by have := HJ6.out; have := HJ12.out; have := HJ16.out; have := HJ28.out; have := HJ42.out; first | omega | exact Nat.le_refl _⟩, ⟨by (with_reducible repeat (first | apply Kd.V_alloc | apply Kd.V_drewN | apply Kd.V_drew)); exact HO_208003.out⟩, ⟨by (with_reducible repeat (first | refine blk_drewN ?_ _ | refine blk_drew ?_ | refine blk_alloc ?_ _)); exact BK207.out⟩, ⟨by repeat (with_reducible first | exact HB.out | apply below_alloc | apply pw_below_drewN | apply below_drew1 | refine below_set ?_ GE207.out)⟩⟩
                         · rw [if_neg c55] at H
                           have c55b0 : (a0_0 == 3) = false := beq_eq_false_iff_ne.mpr c55
                           have c55b1 : (a0_0 != 3) = true := bne_iff_ne.mpr c55
                           have H' := Aside0.mk H
                           clear H
                           have hcz57_0 : wc.cell? ⟨gb207, 0, none⟩ = some (.int .i64 a0_0) := (blk_cell BK207.out 0).trans rfl
                           have hcz57_1 : wc.cell? ⟨gb207, 1, none⟩ = some (.int .i64 a0_1) := (blk_cell BK207.out 1).trans rfl
                           have hcz57_2 : wc.cell? ⟨gb207, 2, none⟩ = some (.int .i64 a0_2) := (blk_cell BK207.out 2).trans rfl
                           have hcz57_3 : wc.cell? ⟨gb207, 3, none⟩ = some (.slice A0_3 l0_3.length c0_3) := (blk_cell BK207.out 3).trans rfl
                           have hfz57_0 := blk_frozen BK207.out 0
                           have hfz57_1 := blk_frozen BK207.out 1
                           have hfz57_2 := blk_frozen BK207.out 2
                           have hfz57_3 := blk_frozen BK207.out 3
                           go_wp2
                           go_meet
                           case rel => exact ⟨_, (false), (by first | rfl | (simp; done) | (simp [*]; done)), H', ⟨by have := HJ6.out; have := HJ12.out; have := HJ16.out; have := HJ28.out; have := HJ42.out; first | omega | exact Nat.le_refl _⟩, ⟨by (with_reducible repeat (first | apply Kd.V_alloc | apply Kd.V_drewN | apply Kd.V_drew)); exact HO_208003.out⟩, ⟨by (with_reducible repeat (first | refine blk_drewN ?_ _ | refine blk_drew ?_ | refine blk_alloc ?_ _)); exact BK207.out⟩, ⟨by repeat (with_reducible first | exact HB.out | apply below_alloc | apply pw_below_drewN | apply below_drew1 | refine below_set ?_ GE207.out)⟩⟩
                     · rw [if_neg c48] at H
                       have c48b0 : (a0_2 == 0) = false := beq_eq_false_iff_ne.mpr c48
                       have c48b1 : (a0_2 != 0) = true := bne_iff_ne.mpr c48
                       (first | rw [c48b0] | (simp only [i64_w, i32_w]; rw [c48b0]) | skip)
                       have H' := Aside0.mk H
                       clear H
                       have hcz58_0 : wc.cell? ⟨gb207, 0, none⟩ = some (.int .i64 a0_0) := (blk_cell BK207.out 0).trans rfl
                       have hcz58_1 : wc.cell? ⟨gb207, 1, none⟩ = some (.int .i64 a0_1) := (blk_cell BK207.out 1).trans rfl
                       have hcz58_2 : wc.cell? ⟨gb207, 2, none⟩ = some (.int .i64 a0_2) := (blk_cell BK207.out 2).trans rfl
                       have hcz58_3 : wc.cell? ⟨gb207, 3, none⟩ = some (.slice A0_3 l0_3.length c0_3) := (blk_cell BK207.out 3).trans rfl
                       have hfz58_0 := blk_frozen BK207.out 0
                       have hfz58_1 := blk_frozen BK207.out 1
                       have hfz58_2 := blk_frozen BK207.out 2
                       have hfz58_3 := blk_frozen BK207.out 3
                       go_wp2
                       go_meet
                       case rel => exact ⟨_, (false), (by first | rfl | (simp; done) | (simp [*]; done)), H', ⟨by have := HJ6.out; have := HJ12.out; have := HJ16.out; have := HJ28.out; have := HJ42.out; first | omega | exact Nat.le_refl _⟩, ⟨by (with_reducible repeat (first | apply Kd.V_alloc | apply Kd.V_drewN | apply Kd.V_drew)); exact HO_208003.out⟩, ⟨by (with_reducible repeat (first | refine blk_drewN ?_ _ | refine blk_drew ?_ | refine blk_alloc ?_ _)); exact BK207.out⟩, ⟨by repeat (with_reducible first | exact HB.out | apply below_alloc | apply pw_below_drewN | apply below_drew1 | refine below_set ?_ GE207.out)⟩⟩
                   · replace c47 := Bool.eq_false_iff.mpr c47
                     subst c47
                     have H1 : (handshakerlaw08_CodeOne.j6 kj42 1 false a0_0 a0_1 a0_2 l0_3) = some r := by rw [if_neg (show ¬ (false = true) by decide)] at H; exact H
                     clear H
                     have H := H1
                     clear H1
                     have H' := Aside0.mk H
                     clear H
                     go_wp2
                     go_meet
                     case rel => exact ⟨_, (false), (by first | rfl | (simp; done) | (simp [*]; done)), H', ⟨by have := HJ6.out; have := HJ12.out; have := HJ16.out; have := HJ28.out; have := HJ42.out; first | omega | exact Nat.le_refl _⟩, ⟨by (with_reducible repeat (first | apply Kd.V_alloc | apply Kd.V_drewN | apply Kd.V_drew)); exact HO_208003.out⟩, ⟨by (with_reducible repeat (first | refine blk_drewN ?_ _ | refine blk_drew ?_ | refine blk_alloc ?_ _)); exact BK207.out⟩, ⟨by repeat (with_reducible first | exact HB.out | apply below_alloc | apply pw_below_drewN | apply below_drew1 | refine below_set ?_ GE207.out)⟩⟩
                  case rest => as_aux_lemma =>
                   clear HC46
                   try clear c1
                   try clear c2
                   try clear c2b0
                   try clear c2b1
                   try clear p2
                   try clear c3
                   try clear c4
                   try clear c5
                   try clear c8
                   try clear c10
                   try clear c10b0
                   try clear c14
                   try clear c14b0
                   try clear c16
                   try clear c20
                   try clear c20b0
                   try clear c20b1
                   try clear c25
                   try clear c30
                   try clear c30b0
                   try clear c35
                   try clear c35b0
                   try clear c35b1
                   try clear c37
                   try clear c37b0
                   try clear c37b1
                   try clear c37b2
                   try clear c38
                   try clear c39
                   try clear c39b0
                   try clear c42
                   try clear c44
                   try clear c44b0
                   try clear c44b1
                   try clear c45
                   try clear c47
                   try clear c48
                   try clear c48b0
                   try clear c48b1
                   try clear c49
                   try clear c49b0
                   try clear c49b1
                   try clear c50
                   try clear c52
                   try clear c52b0
                   try clear c52b1
                   try clear c55
                   try clear c55b0
                   try clear c55b1
                   try clear hcz11_0
                   try clear hcz11_1
                   try clear hcz11_2
                   try clear hcz11_3
                   try clear hcz12_0
                   try clear hcz12_1
                   try clear hcz12_2
                   try clear hcz12_3
                   try clear hcz15_0
                   try clear hcz15_1
                   try clear hcz15_2
                   try clear hcz15_3
                   try clear hcz16_0
                   try clear hcz16_1
                   try clear hcz16_2
                   try clear hcz16_3
                   try clear hcz18_0
                   try clear hcz18_1
                   try clear hcz18_2
                   try clear hcz18_3
                   try clear hcz22_0
                   try clear hcz22_1
                   try clear hcz22_2
                   try clear hcz22_3
                   try clear hcz24_0
                   try clear hcz24_1
                   try clear hcz24_2
                   try clear hcz24_3
                   try clear hcz27_0
                   try clear hcz27_1
                   try clear hcz27_2
                   try clear hcz27_3
                   try clear hcz31_0
                   try clear hcz31_1
                   try clear hcz31_2
                   try clear hcz31_3
                   try clear hcz32_0
                   try clear hcz32_1
                   try clear hcz32_2
                   try clear hcz32_3
                   try clear hcz34_0
                   try clear hcz34_1
                   try clear hcz34_2
                   try clear hcz34_3
                   try clear hcz40_0
                   try clear hcz40_1
                   try clear hcz40_2
                   try clear hcz40_3
                   try clear hcz41_0
                   try clear hcz41_1
                   try clear hcz41_2
                   try clear hcz41_3
                   try clear hcz51_0
                   try clear hcz51_1
                   try clear hcz51_2
                   try clear hcz51_3
                   try clear hcz53_0
                   try clear hcz53_1
                   try clear hcz53_2
                   try clear hcz53_3
                   try clear hcz54_0
                   try clear hcz54_1
                   try clear hcz54_2
                   try clear hcz54_3
                   try clear hcz56_0
                   try clear hcz56_1
                   try clear hcz56_2
                   try clear hcz56_3
                   try clear hcz57_0
                   try clear hcz57_1
                   try clear hcz57_2
                   try clear hcz57_3
                   try clear hcz58_0
                   try clear hcz58_1
                   try clear hcz58_2
                   try clear hcz58_3
                   try clear hcz5_0
                   try clear hcz5_1
                   try clear hcz5_2
                   try clear hcz5_3
                   try clear hcz9_0
                   try clear hcz9_1
                   try clear hcz9_2
                   try clear hcz9_3
                   try clear hfz11_0
                   try clear hfz11_1
                   try clear hfz11_2
                   try clear hfz11_3
                   try clear hfz12_0
                   try clear hfz12_1
                   try clear hfz12_2
                   try clear hfz12_3
                   try clear hfz15_0
                   try clear hfz15_1
                   try clear hfz15_2
                   try clear hfz15_3
                   try clear hfz16_0
                   try clear hfz16_1
                   try clear hfz16_2
                   try clear hfz16_3
                   try clear hfz18_0
                   try clear hfz18_1
                   try clear hfz18_2
                   try clear hfz18_3
                   try clear hfz22_0
                   try clear hfz22_1
                   try clear hfz22_2
                   try clear hfz22_3
                   try clear hfz24_0
                   try clear hfz24_1
                   try clear hfz24_2
                   try clear hfz24_3
                   try clear hfz27_0
                   try clear hfz27_1
                   try clear hfz27_2
                   try clear hfz27_3
                   try clear hfz31_0
                   try clear hfz31_1
                   try clear hfz31_2
                   try clear hfz31_3
                   try clear hfz32_0
                   try clear hfz32_1
                   try clear hfz32_2
                   try clear hfz32_3
                   try clear hfz34_0
                   try clear hfz34_1
                   try clear hfz34_2
                   try clear hfz34_3
                   try clear hfz40_0
                   try clear hfz40_1
                   try clear hfz40_2
                   try clear hfz40_3
                   try clear hfz41_0
                   try clear hfz41_1
                   try clear hfz41_2
                   try clear hfz41_3
                   try clear hfz51_0
                   try clear hfz51_1
                   try clear hfz51_2
                   try clear hfz51_3
                   try clear hfz53_0
                   try clear hfz53_1
                   try clear hfz53_2
                   try clear hfz53_3
                   try clear hfz54_0
                   try clear hfz54_1
                   try clear hfz54_2
                   try clear hfz54_3
                   try clear hfz56_0
                   try clear hfz56_1
                   try clear hfz56_2
                   try clear hfz56_3
                   try clear hfz57_0
                   try clear hfz57_1
                   try clear hfz57_2
                   try clear hfz57_3
                   try clear hfz58_0
                   try clear hfz58_1
                   try clear hfz58_2
                   try clear hfz58_3
                   try clear hfz5_0
                   try clear hfz5_1
                   try clear hfz5_2
                   try clear hfz5_3
                   try clear hfz9_0
                   try clear hfz9_1
                   try clear hfz9_2
                   try clear hfz9_3
                   try clear p2
                   obtain ⟨kq, x95_45, rfl, HA, HJ45, HO_208003, BK207, HB⟩ := hcut
                   cases kq with
                   | zero => exact absurd HA.out (by simp [handshakerlaw08_CodeOne.j6])
                   | succ kj45 =>
                    have H := HA.out
                    clear HA
                    simp only [handshakerlaw08_CodeOne.j6] at H
                    by_cases c59 : x95_45 = true
                    · subst c59
                      have H1 : (handshakerlaw08_CodeOne.j11 kj45 0 a0_0 a0_1 a0_2 l0_3) = some r := by rw [if_pos rfl] at H; exact H
                      clear H
                      have H := H1
                      clear H1
                      have H' := Aside0.mk H
                      clear H
                      go_wp2
                      go_meet
                      case rel => exact ⟨_, (0), (by first | rfl | (simp; done) | (simp [*]; done)), H', ⟨by have := HJ6.out; have := HJ12.out; have := HJ16.out; have := HJ28.out; have := HJ42.out; have := HJ45.out; first | omega | exact Nat.le_refl _⟩, ⟨by (with_reducible repeat (first | apply Kd.V_alloc | apply Kd.V_drewN | apply Kd.V_drew)); exact HO_208003.out⟩, ⟨by (with_reducible repeat (first | refine blk_drewN ?_ _ | refine blk_drew ?_ | refine blk_alloc ?_ _)); exact BK207.out⟩, ⟨by repeat (with_reducible first | exact HB.out | apply below_alloc | apply pw_below_drewN | apply below_drew1 | refine below_set ?_ GE207.out)⟩⟩
                    · replace c59 := Bool.eq_false_iff.mpr c59
                      subst c59
                      have H1 : (handshakerlaw08_CodeOne.j11 kj45 1 a0_0 a0_1 a0_2 l0_3) = some r := by rw [if_neg (show ¬ (false = true) by decide)] at H; exact H
                      clear H
                      have H := H1
                      clear H1
                      have H' := Aside0.mk H
                      clear H
                      go_wp2
                      go_meet
                      case rel => exact ⟨_, (1), (by first | rfl | (simp; done) | (simp [*]; done)), H', ⟨by have := HJ6.out; have := HJ12.out; have := HJ16.out; have := HJ28.out; have := HJ42.out; have := HJ45.out; first | omega | exact Nat.le_refl _⟩, ⟨by (with_reducible repeat (first | apply Kd.V_alloc | apply Kd.V_drewN | apply Kd.V_drew)); exact HO_208003.out⟩, ⟨by (with_reducible repeat (first | refine blk_drewN ?_ _ | refine blk_drew ?_ | refine blk_alloc ?_ _)); exact BK207.out⟩, ⟨by repeat (with_reducible first | exact HB.out | apply below_alloc | apply pw_below_drewN | apply below_drew1 | refine below_set ?_ GE207.out)⟩⟩
                · replace c45 := Bool.eq_false_iff.mpr c45
                  subst c45
                  have H1 : (if a0_0 = 4 then (if x6_16 = true then (if a0_2 = 0 then (handshakerlaw08_CodeOne.j7 kj42 1 x7_28 a0_0 a0_1 a0_2 l0_3) else (handshakerlaw08_CodeOne.j7 kj42 1 false a0_0 a0_1 a0_2 l0_3)) else (handshakerlaw08_CodeOne.j7 kj42 1 false a0_0 a0_1 a0_2 l0_3)) else (if a0_0 = 5 then (handshakerlaw08_CodeOne.j8 kj42 ((l0_3.length : Int) == 0) x7_28 1 a0_0 (a0_0 == 5) a0_0 a0_1 a0_2 l0_3) else (handshakerlaw08_CodeOne.j8 kj42 ((l0_3.length : Int) == 0) x7_28 1 a0_0 (a0_0 == 6) a0_0 a0_1 a0_2 l0_3))) = some r := by rw [if_neg (show ¬ (false = true) by decide)] at H; exact H
                  clear H
                  have H := H1
                  clear H1
                  by_cases c60 : a0_0 = 4
                  · rw [if_pos c60] at H
                    have c60b0 : (a0_0 == 4) = true := beq_iff_eq.mpr c60
                    have c60b1 : (a0_0 != 4) = false := bne_eq_false_iff_eq.mpr c60
                    clear c60
                    have HC61 := Aside0.mk H
                    clear H
                    go_upto_region 18 with (fail)
                    go_cut [106] (fun v106 wc => ∃ (kq : Nat) (x106_60 : Bool), v106 = .bool x106_60 ∧ Aside0 (handshakerlaw08_CodeOne.j7 kq 1 x106_60 a0_0 a0_1 a0_2 l0_3 = some r) ∧ Aside0 (kq ≤ kj42) ∧ Aside0 (Kd.V k41 41 wc w.heap.size (fun k_ => (P0_3_ k_ ∨ w.heap.size ≤ k_) ∧ k_ ≠ gb207) (.slice A0_3 l0_3.length c0_3) l0_3) ∧ Aside0 (wc.heap[gb207]? = some (.cells #[.int .i64 a0_0, .int .i64 a0_1, .int .i64 a0_2, (.slice A0_3 l0_3.length c0_3)] 37 (0, 0))) ∧ Aside0 (Below w.heap.size w wc))
                    case first => as_aux_lemma =>
                     have H := HC61.out
                     clear HC61
                     by_cases c62 : x6_16 = true
                     · subst c62
                       have H1 : (if a0_2 = 0 then (handshakerlaw08_CodeOne.j7 kj42 1 x7_28 a0_0 a0_1 a0_2 l0_3) else (handshakerlaw08_CodeOne.j7 kj42 1 false a0_0 a0_1 a0_2 l0_3)) = some r := by rw [if_pos rfl] at H; exact H
                       clear H
                       have H := H1
                       clear H1
                       by_cases c63 : a0_2 = 0
                       · rw [if_pos c63] at H
                         have c63b0 : (a0_2 == 0) = true := beq_iff_eq.mpr c63
                         have c63b1 : (a0_2 != 0) = false := bne_eq_false_iff_eq.mpr c63
                         clear c63
                         (first | rw [c63b0] | (simp only [i64_w, i32_w]; rw [c63b0]) | skip)
                         have H' := Aside0.mk H
                         clear H
                         have hcz64_0 : wc.cell? ⟨gb207, 0, none⟩ = some (.int .i64 a0_0) := (blk_cell BK207.out 0).trans rfl
                         have hcz64_1 : wc.cell? ⟨gb207, 1, none⟩ = some (.int .i64 a0_1) := (blk_cell BK207.out 1).trans rfl
                         have hcz64_2 : wc.cell? ⟨gb207, 2, none⟩ = some (.int .i64 a0_2) := (blk_cell BK207.out 2).trans rfl
                         have hcz64_3 : wc.cell? ⟨gb207, 3, none⟩ = some (.slice A0_3 l0_3.length c0_3) := (blk_cell BK207.out 3).trans rfl
                         have hfz64_0 := blk_frozen BK207.out 0
                         have hfz64_1 := blk_frozen BK207.out 1
                         have hfz64_2 := blk_frozen BK207.out 2
                         have hfz64_3 := blk_frozen BK207.out 3
                         go_wp2
                         go_meet
                         case rel => exact ⟨_, (x7_28), (by first | rfl | (simp; done) | (simp [*]; done)), H', ⟨by have := HJ6.out; have := HJ12.out; have := HJ16.out; have := HJ28.out; have := HJ42.out; first | omega | exact Nat.le_refl _⟩, ⟨by (with_reducible repeat (first | apply Kd.V_alloc | apply Kd.V_drewN | apply Kd.V_drew)); exact HO_208003.out⟩, ⟨by (with_reducible repeat (first | refine blk_drewN ?_ _ | refine blk_drew ?_ | refine blk_alloc ?_ _)); exact BK207.out⟩, ⟨by repeat (with_reducible first | exact HB.out | apply below_alloc | apply pw_below_drewN | apply below_drew1 | refine below_set ?_ GE207.out)⟩⟩
                       · rw [if_neg c63] at H
                         have c63b0 : (a0_2 == 0) = false := beq_eq_false_iff_ne.mpr c63
                         have c63b1 : (a0_2 != 0) = true := bne_iff_ne.mpr c63
                         (first | rw [c63b0] | (simp only [i64_w, i32_w]; rw [c63b0]) | skip)
                         have H' := Aside0.mk H
                         clear H
                         have hcz65_0 : wc.cell? ⟨gb207, 0, none⟩ = some (.int .i64 a0_0) := (blk_cell BK207.out 0).trans rfl
                         have hcz65_1 : wc.cell? ⟨gb207, 1, none⟩ = some (.int .i64 a0_1) := (blk_cell BK207.out 1).trans rfl
                         have hcz65_2 : wc.cell? ⟨gb207, 2, none⟩ = some (.int .i64 a0_2) := (blk_cell BK207.out 2).trans rfl
                         have hcz65_3 : wc.cell? ⟨gb207, 3, none⟩ = some (.slice A0_3 l0_3.length c0_3) := (blk_cell BK207.out 3).trans rfl
                         have hfz65_0 := blk_frozen BK207.out 0
                         have hfz65_1 := blk_frozen BK207.out 1
                         have hfz65_2 := blk_frozen BK207.out 2
                         have hfz65_3 := blk_frozen BK207.out 3
                         go_wp2
                         go_meet
                         case rel => exact ⟨_, (false), (by first | rfl | (simp; done) | (simp [*]; done)), H', ⟨by have := HJ6.out; have := HJ12.out; have := HJ16.out; have := HJ28.out; have := HJ42.out; first | omega | exact Nat.le_refl _⟩, ⟨by (with_reducible repeat (first | apply Kd.V_alloc | apply Kd.V_drewN | apply Kd.V_drew)); exact HO_208003.out⟩, ⟨by (with_reducible repeat (first | refine blk_drewN ?_ _ | refine blk_drew ?_ | refine blk_alloc ?_ _)); exact BK207.out⟩, ⟨by repeat (with_reducible first | exact HB.out | apply below_alloc | apply pw_below_drewN | apply below_drew1 | refine below_set ?_ GE207.out)⟩⟩
                     · replace c62 := Bool.eq_false_iff.mpr c62
                       subst c62
                       have H1 : (handshakerlaw08_CodeOne.j7 kj42 1 false a0_0 a0_1 a0_2 l0_3) = some r := by rw [if_neg (show ¬ (false = true) by decide)] at H; exact H
                       clear H
                       have H := H1
                       clear H1
                       have H' := Aside0.mk H
                       clear H
                       go_wp2
                       go_meet
                       case rel => exact ⟨_, (false), (by first | rfl | (simp; done) | (simp [*]; done)), H', ⟨by have := HJ6.out; have := HJ12.out; have := HJ16.out; have := HJ28.out; have := HJ42.out; first | omega | exact Nat.le_refl _⟩, ⟨by (with_reducible repeat (first | apply Kd.V_alloc | apply Kd.V_drewN | apply Kd.V_drew)); exact HO_208003.out⟩, ⟨by (with_reducible repeat (first | refine blk_drewN ?_ _ | refine blk_drew ?_ | refine blk_alloc ?_ _)); exact BK207.out⟩, ⟨by repeat (with_reducible first | exact HB.out | apply below_alloc | apply pw_below_drewN | apply below_drew1 | refine below_set ?_ GE207.out)⟩⟩
                    case rest => as_aux_lemma =>
                     clear HC61
                     try clear c1
                     try clear c2
                     try clear c2b0
                     try clear c2b1
                     try clear p2
                     try clear c3
                     try clear c4
                     try clear c5
                     try clear c6
                     try clear c8
                     try clear c10
                     try clear c10b0
                     try clear c14
                     try clear c14b0
                     try clear c16
                     try clear c20
                     try clear c20b0
                     try clear c20b1
                     try clear c25
                     try clear c30
                     try clear c30b0
                     try clear c35
                     try clear c35b0
                     try clear c35b1
                     try clear c37
                     try clear c37b0
                     try clear c37b1
                     try clear c37b2
                     try clear c38
                     try clear c39
                     try clear c39b0
                     try clear c42
                     try clear c44
                     try clear c44b0
                     try clear c44b1
                     try clear c45
                     try clear c47
                     try clear c48
                     try clear c48b0
                     try clear c48b1
                     try clear c49
                     try clear c49b0
                     try clear c49b1
                     try clear c50
                     try clear c52
                     try clear c52b0
                     try clear c52b1
                     try clear c55
                     try clear c55b0
                     try clear c55b1
                     try clear c59
                     try clear c60
                     try clear c60b0
                     try clear c60b1
                     try clear c62
                     try clear c63
                     try clear c63b0
                     try clear c63b1
                     try clear hcz11_0
                     try clear hcz11_1
                     try clear hcz11_2
                     try clear hcz11_3
                     try clear hcz12_0
                     try clear hcz12_1
                     try clear hcz12_2
                     try clear hcz12_3
                     try clear hcz15_0
                     try clear hcz15_1
                     try clear hcz15_2
                     try clear hcz15_3
                     try clear hcz16_0
                     try clear hcz16_1
                     try clear hcz16_2
                     try clear hcz16_3
                     try clear hcz18_0
                     try clear hcz18_1
                     try clear hcz18_2
                     try clear hcz18_3
                     try clear hcz22_0
                     try clear hcz22_1
                     try clear hcz22_2
                     try clear hcz22_3
                     try clear hcz24_0
                     try clear hcz24_1
                     try clear hcz24_2
                     try clear hcz24_3
                     try clear hcz27_0
                     try clear hcz27_1
                     try clear hcz27_2
                     try clear hcz27_3
                     try clear hcz31_0
                     try clear hcz31_1
                     try clear hcz31_2
                     try clear hcz31_3
                     try clear hcz32_0
                     try clear hcz32_1
                     try clear hcz32_2
                     try clear hcz32_3
                     try clear hcz34_0
                     try clear hcz34_1
                     try clear hcz34_2
                     try clear hcz34_3
                     try clear hcz40_0
                     try clear hcz40_1
                     try clear hcz40_2
                     try clear hcz40_3
                     try clear hcz41_0
                     try clear hcz41_1
                     try clear hcz41_2
                     try clear hcz41_3
                     try clear hcz51_0
                     try clear hcz51_1
                     try clear hcz51_2
                     try clear hcz51_3
                     try clear hcz53_0
                     try clear hcz53_1
                     try clear hcz53_2
                     try clear hcz53_3
                     try clear hcz54_0
                     try clear hcz54_1
                     try clear hcz54_2
                     try clear hcz54_3
                     try clear hcz56_0
                     try clear hcz56_1
                     try clear hcz56_2
                     try clear hcz56_3
                     try clear hcz57_0
                     try clear hcz57_1
                     try clear hcz57_2
                     try clear hcz57_3
                     try clear hcz58_0
                     try clear hcz58_1
                     try clear hcz58_2
                     try clear hcz58_3
                     try clear hcz5_0
                     try clear hcz5_1
                     try clear hcz5_2
                     try clear hcz5_3
                     try clear hcz64_0
                     try clear hcz64_1
                     try clear hcz64_2
                     try clear hcz64_3
                     try clear hcz65_0
                     try clear hcz65_1
                     try clear hcz65_2
                     try clear hcz65_3
                     try clear hcz9_0
                     try clear hcz9_1
                     try clear hcz9_2
                     try clear hcz9_3
                     try clear hfz11_0
                     try clear hfz11_1
                     try clear hfz11_2
                     try clear hfz11_3
                     try clear hfz12_0
                     try clear hfz12_1
                     try clear hfz12_2
                     try clear hfz12_3
                     try clear hfz15_0
                     try clear hfz15_1
                     try clear hfz15_2
                     try clear hfz15_3
                     try clear hfz16_0
                     try clear hfz16_1
                     try clear hfz16_2
                     try clear hfz16_3
                     try clear hfz18_0
                     try clear hfz18_1
                     try clear hfz18_2
                     try clear hfz18_3
                     try clear hfz22_0
                     try clear hfz22_1
                     try clear hfz22_2
                     try clear hfz22_3
                     try clear hfz24_0
                     try clear hfz24_1
                     try clear hfz24_2
                     try clear hfz24_3
                     try clear hfz27_0
                     try clear hfz27_1
                     try clear hfz27_2
                     try clear hfz27_3
                     try clear hfz31_0
                     try clear hfz31_1
                     try clear hfz31_2
                     try clear hfz31_3
                     try clear hfz32_0
                     try clear hfz32_1
                     try clear hfz32_2
                     try clear hfz32_3
                     try clear hfz34_0
                     try clear hfz34_1
                     try clear hfz34_2
                     try clear hfz34_3
                     try clear hfz40_0
                     try clear hfz40_1
                     try clear hfz40_2
                     try clear hfz40_3
                     try clear hfz41_0
                     try clear hfz41_1
                     try clear hfz41_2
                     try clear hfz41_3
                     try clear hfz51_0
                     try clear hfz51_1
                     try clear hfz51_2
                     try clear hfz51_3
                     try clear hfz53_0
                     try clear hfz53_1
                     try clear hfz53_2
                     try clear hfz53_3
                     try clear hfz54_0
                     try clear hfz54_1
                     try clear hfz54_2
                     try clear hfz54_3
                     try clear hfz56_0
                     try clear hfz56_1
                     try clear hfz56_2
                     try clear hfz56_3
                     try clear hfz57_0
                     try clear hfz57_1
                     try clear hfz57_2
                     try clear hfz57_3
                     try clear hfz58_0
                     try clear hfz58_1
                     try clear hfz58_2
                     try clear hfz58_3
                     try clear hfz5_0
                     try clear hfz5_1
                     try clear hfz5_2
                     try clear hfz5_3
                     try clear hfz64_0
                     try clear hfz64_1
                     try clear hfz64_2
                     try clear hfz64_3
                     try clear hfz65_0
                     try clear hfz65_1
                     try clear hfz65_2
                     try clear hfz65_3
                     try clear hfz9_0
                     try clear hfz9_1
                     try clear hfz9_2
                     try clear hfz9_3
                     try clear p2
                     obtain ⟨kq, x106_60, rfl, HA, HJ60, HO_208003, BK207, HB⟩ := hcut
                     cases kq with
                     | zero => exact absurd HA.out (by simp [handshakerlaw08_CodeOne.j7])
                     | succ kj60 =>
                      have H := HA.out
                      clear HA
                      simp only [handshakerlaw08_CodeOne.j7] at H
                      by_cases c66 : x106_60 = true
                      · subst c66
                        have H1 : (handshakerlaw08_CodeOne.j11 kj60 2 a0_0 a0_1 a0_2 l0_3) = some r := by rw [if_pos rfl] at H; exact H
                        clear H
                        have H := H1
                        clear H1
                        have H' := Aside0.mk H
                        clear H
                        go_wp2
                        go_meet
                        case rel => exact ⟨_, (2), (by first | rfl | (simp; done) | (simp [*]; done)), H', ⟨by have := HJ6.out; have := HJ12.out; have := HJ16.out; have := HJ28.out; have := HJ42.out; have := HJ60.out; first | omega | exact Nat.le_refl _⟩, ⟨by (with_reducible repeat (first | apply Kd.V_alloc | apply Kd.V_drewN | apply Kd.V_drew)); exact HO_208003.out⟩, ⟨by (with_reducible repeat (first | refine blk_drewN ?_ _ | refine blk_drew ?_ | refine blk_alloc ?_ _)); exact BK207.out⟩, ⟨by repeat (with_reducible first | exact HB.out | apply below_alloc | apply pw_below_drewN | apply below_drew1 | refine below_set ?_ GE207.out)⟩⟩
                      · replace c66 := Bool.eq_false_iff.mpr c66
                        subst c66
                        have H1 : (handshakerlaw08_CodeOne.j11 kj60 1 a0_0 a0_1 a0_2 l0_3) = some r := by rw [if_neg (show ¬ (false = true) by decide)] at H; exact H
                        clear H
                        have H := H1
                        clear H1
                        have H' := Aside0.mk H
                        clear H
                        go_wp2
                        go_meet
                        case rel => exact ⟨_, (1), (by first | rfl | (simp; done) | (simp [*]; done)), H', ⟨by have := HJ6.out; have := HJ12.out; have := HJ16.out; have := HJ28.out; have := HJ42.out; have := HJ60.out; first | omega | exact Nat.le_refl _⟩, ⟨by (with_reducible repeat (first | apply Kd.V_alloc | apply Kd.V_drewN | apply Kd.V_drew)); exact HO_208003.out⟩, ⟨by (with_reducible repeat (first | refine blk_drewN ?_ _ | refine blk_drew ?_ | refine blk_alloc ?_ _)); exact BK207.out⟩, ⟨by repeat (with_reducible first | exact HB.out | apply below_alloc | apply pw_below_drewN | apply below_drew1 | refine below_set ?_ GE207.out)⟩⟩
                  · rw [if_neg c60] at H
                    have c60b0 : (a0_0 == 4) = false := beq_eq_false_iff_ne.mpr c60
                    have c60b1 : (a0_0 != 4) = true := bne_iff_ne.mpr c60
                    have HC67 := Aside0.mk H
                    clear H
                    go_upto_if 107 with (fail)
                    go_cut [107] (fun v107 wc => ∃ (kq : Nat) (x107_66 : Bool), v107 = .bool x107_66 ∧ Aside0 (handshakerlaw08_CodeOne.j8 kq ((l0_3.length : Int) == 0) x7_28 1 a0_0 x107_66 a0_0 a0_1 a0_2 l0_3 = some r) ∧ Aside0 (kq ≤ kj42) ∧ Aside0 (Kd.V k41 41 wc w.heap.size (fun k_ => (P0_3_ k_ ∨ w.heap.size ≤ k_) ∧ k_ ≠ gb207) (.slice A0_3 l0_3.length c0_3) l0_3) ∧ Aside0 (wc.heap[gb207]? = some (.cells #[.int .i64 a0_0, .int .i64 a0_1, .int .i64 a0_2, (.slice A0_3 l0_3.length c0_3)] 37 (0, 0))) ∧ Aside0 (Below w.heap.size w wc))
                    case first => as_aux_lemma =>
                     have H := HC67.out
                     clear HC67
                     by_cases c68 : a0_0 = 5
                     · rw [if_pos c68] at H
                       have c68b0 : (a0_0 == 5) = true := beq_iff_eq.mpr c68
                       have c68b1 : (a0_0 != 5) = false := bne_eq_false_iff_eq.mpr c68
                       clear c68
                       (first | rw [c68b0] | (simp only [i64_w, i32_w]; rw [c68b0]) | skip)
                       have H' := Aside0.mk H
                       clear H
                       go_wp2
                       go_meet
                       case rel => exact ⟨_, ((a0_0 == 5)), (by first | rfl | (simp; done) | (simp [*]; done)), H', ⟨by have := HJ6.out; have := HJ12.out; have := HJ16.out; have := HJ28.out; have := HJ42.out; first | omega | exact Nat.le_refl _⟩, ⟨by (with_reducible repeat (first | apply Kd.V_alloc | apply Kd.V_drewN | apply Kd.V_drew)); exact HO_208003.out⟩, ⟨by (with_reducible repeat (first | refine blk_drewN ?_ _ | refine blk_drew ?_ | refine blk_alloc ?_ _)); exact BK207.out⟩, ⟨by repeat (with_reducible first | exact HB.out | apply below_alloc | apply pw_below_drewN | apply below_drew1 | refine below_set ?_ GE207.out)⟩⟩
                     · rw [if_neg c68] at H
                       have c68b0 : (a0_0 == 5) = false := beq_eq_false_iff_ne.mpr c68
                       have c68b1 : (a0_0 != 5) = true := bne_iff_ne.mpr c68
                       (first | rw [c68b0] | (simp only [i64_w, i32_w]; rw [c68b0]) | skip)
                       have H' := Aside0.mk H
                       clear H
                       go_wp2
                       go_meet
                       case rel => exact ⟨_, ((a0_0 == 6)), (by first | rfl | (simp; done) | (simp [*]; done)), H', ⟨by have := HJ6.out; have := HJ12.out; have := HJ16.out; have := HJ28.out; have := HJ42.out; first | omega | exact Nat.le_refl _⟩, ⟨by (with_reducible repeat (first | apply Kd.V_alloc | apply Kd.V_drewN | apply Kd.V_drew)); exact HO_208003.out⟩, ⟨by (with_reducible repeat (first | refine blk_drewN ?_ _ | refine blk_drew ?_ | refine blk_alloc ?_ _)); exact BK207.out⟩, ⟨by repeat (with_reducible first | exact HB.out | apply below_alloc | apply pw_below_drewN | apply below_drew1 | refine below_set ?_ GE207.out)⟩⟩
                    case rest => as_aux_lemma =>
                     clear HC67
                     try clear c1
                     try clear c2
                     try clear c2b0
                     try clear c2b1
                     try clear p2
                     try clear c3
                     try clear c4
                     try clear c5
                     try clear c6
                     try clear c8
                     try clear c10
                     try clear c10b0
                     try clear c14
                     try clear c14b0
                     try clear c16
                     try clear c20
                     try clear c20b0
                     try clear c20b1
                     try clear c25
                     try clear c30
                     try clear c30b0
                     try clear c35
                     try clear c35b0
                     try clear c35b1
                     try clear c37
                     try clear c37b0
                     try clear c37b1
                     try clear c37b2
                     try clear c38
                     try clear c39
                     try clear c39b0
                     try clear c42
                     try clear c44
                     try clear c44b0
                     try clear c44b1
                     try clear c45
                     try clear c47
                     try clear c48
                     try clear c48b0
                     try clear c48b1
                     try clear c49
                     try clear c49b0
                     try clear c49b1
                     try clear c50
                     try clear c52
                     try clear c52b0
                     try clear c52b1
                     try clear c55
                     try clear c55b0
                     try clear c55b1
                     try clear c59
                     try clear c60
                     try clear c60b0
                     try clear c60b1
                     try clear c62
                     try clear c63
                     try clear c63b0
                     try clear c63b1
                     try clear c66
                     try clear c68
                     try clear c68b0
                     try clear c68b1
                     try clear hcz11_0
                     try clear hcz11_1
                     try clear hcz11_2
                     try clear hcz11_3
                     try clear hcz12_0
                     try clear hcz12_1
                     try clear hcz12_2
                     try clear hcz12_3
                     try clear hcz15_0
                     try clear hcz15_1
                     try clear hcz15_2
                     try clear hcz15_3
                     try clear hcz16_0
                     try clear hcz16_1
                     try clear hcz16_2
                     try clear hcz16_3
                     try clear hcz18_0
                     try clear hcz18_1
                     try clear hcz18_2
                     try clear hcz18_3
                     try clear hcz22_0
                     try clear hcz22_1
                     try clear hcz22_2
                     try clear hcz22_3
                     try clear hcz24_0
                     try clear hcz24_1
                     try clear hcz24_2
                     try clear hcz24_3
                     try clear hcz27_0
                     try clear hcz27_1
                     try clear hcz27_2
                     try clear hcz27_3
                     try clear hcz31_0
                     try clear hcz31_1
                     try clear hcz31_2
                     try clear hcz31_3
                     try clear hcz32_0
                     try clear hcz32_1
                     try clear hcz32_2
                     try clear hcz32_3
                     try clear hcz34_0
                     try clear hcz34_1
                     try clear hcz34_2
                     try clear hcz34_3
                     try clear hcz40_0
                     try clear hcz40_1
                     try clear hcz40_2
                     try clear hcz40_3
                     try clear hcz41_0
                     try clear hcz41_1
                     try clear hcz41_2
                     try clear hcz41_3
                     try clear hcz51_0
                     try clear hcz51_1
                     try clear hcz51_2
                     try clear hcz51_3
                     try clear hcz53_0
                     try clear hcz53_1
                     try clear hcz53_2
                     try clear hcz53_3
                     try clear hcz54_0
                     try clear hcz54_1
                     try clear hcz54_2
                     try clear hcz54_3
                     try clear hcz56_0
                     try clear hcz56_1
                     try clear hcz56_2
                     try clear hcz56_3
                     try clear hcz57_0
                     try clear hcz57_1
                     try clear hcz57_2
                     try clear hcz57_3
                     try clear hcz58_0
                     try clear hcz58_1
                     try clear hcz58_2
                     try clear hcz58_3
                     try clear hcz5_0
                     try clear hcz5_1
                     try clear hcz5_2
                     try clear hcz5_3
                     try clear hcz64_0
                     try clear hcz64_1
                     try clear hcz64_2
                     try clear hcz64_3
                     try clear hcz65_0
                     try clear hcz65_1
                     try clear hcz65_2
                     try clear hcz65_3
                     try clear hcz9_0
                     try clear hcz9_1
                     try clear hcz9_2
                     try clear hcz9_3
                     try clear hfz11_0
                     try clear hfz11_1
                     try clear hfz11_2
                     try clear hfz11_3
                     try clear hfz12_0
                     try clear hfz12_1
                     try clear hfz12_2
                     try clear hfz12_3
                     try clear hfz15_0
                     try clear hfz15_1
                     try clear hfz15_2
                     try clear hfz15_3
                     try clear hfz16_0
                     try clear hfz16_1
                     try clear hfz16_2
                     try clear hfz16_3
                     try clear hfz18_0
                     try clear hfz18_1
                     try clear hfz18_2
                     try clear hfz18_3
                     try clear hfz22_0
                     try clear hfz22_1
                     try clear hfz22_2
                     try clear hfz22_3
                     try clear hfz24_0
                     try clear hfz24_1
                     try clear hfz24_2
                     try clear hfz24_3
                     try clear hfz27_0
                     try clear hfz27_1
                     try clear hfz27_2
                     try clear hfz27_3
                     try clear hfz31_0
                     try clear hfz31_1
                     try clear hfz31_2
                     try clear hfz31_3
                     try clear hfz32_0
                     try clear hfz32_1
                     try clear hfz32_2
                     try clear hfz32_3
                     try clear hfz34_0
                     try clear hfz34_1
                     try clear hfz34_2
                     try clear hfz34_3
                     try clear hfz40_0
                     try clear hfz40_1
                     try clear hfz40_2
                     try clear hfz40_3
                     try clear hfz41_0
                     try clear hfz41_1
                     try clear hfz41_2
                     try clear hfz41_3
                     try clear hfz51_0
                     try clear hfz51_1
                     try clear hfz51_2
                     try clear hfz51_3
                     try clear hfz53_0
                     try clear hfz53_1
                     try clear hfz53_2
                     try clear hfz53_3
                     try clear hfz54_0
                     try clear hfz54_1
                     try clear hfz54_2
                     try clear hfz54_3
                     try clear hfz56_0
                     try clear hfz56_1
                     try clear hfz56_2
                     try clear hfz56_3
                     try clear hfz57_0
                     try clear hfz57_1
                     try clear hfz57_2
                     try clear hfz57_3
                     try clear hfz58_0
                     try clear hfz58_1
                     try clear hfz58_2
                     try clear hfz58_3
                     try clear hfz5_0
                     try clear hfz5_1
                     try clear hfz5_2
                     try clear hfz5_3
                     try clear hfz64_0
                     try clear hfz64_1
                     try clear hfz64_2
                     try clear hfz64_3
                     try clear hfz65_0
                     try clear hfz65_1
                     try clear hfz65_2
                     try clear hfz65_3
                     try clear hfz9_0
                     try clear hfz9_1
                     try clear hfz9_2
                     try clear hfz9_3
                     try clear p2
                     obtain ⟨kq, x107_66, rfl, HA, HJ66, HO_208003, BK207, HB⟩ := hcut
                     cases kq with
                     | zero => exact absurd HA.out (by simp [handshakerlaw08_CodeOne.j8])
                     | succ kj66 =>
                      have H := HA.out
                      clear HA
                      simp only [handshakerlaw08_CodeOne.j8] at H
                      by_cases c69 : x107_66 = true
                      · subst c69
                        have H1 : (if ((l0_3.length : Int) == 0) = true then (if a0_2 = 0 then (if a0_0 = 5 then (if a0_1 = 0 then (handshakerlaw08_CodeOne.j9 kj66 1 true a0_0 a0_1 a0_2 l0_3) else (if a0_0 = 6 then (if a0_1 ≥ 0 then (handshakerlaw08_CodeOne.j9 kj66 1 (decide (a0_1 < 256)) a0_0 a0_1 a0_2 l0_3) else (handshakerlaw08_CodeOne.j9 kj66 1 false a0_0 a0_1 a0_2 l0_3)) else (handshakerlaw08_CodeOne.j9 kj66 1 false a0_0 a0_1 a0_2 l0_3))) else (if a0_0 = 6 then (if a0_1 ≥ 0 then (handshakerlaw08_CodeOne.j9 kj66 1 (decide (a0_1 < 256)) a0_0 a0_1 a0_2 l0_3) else (handshakerlaw08_CodeOne.j9 kj66 1 false a0_0 a0_1 a0_2 l0_3)) else (handshakerlaw08_CodeOne.j9 kj66 1 false a0_0 a0_1 a0_2 l0_3))) else (handshakerlaw08_CodeOne.j9 kj66 1 false a0_0 a0_1 a0_2 l0_3)) else (handshakerlaw08_CodeOne.j9 kj66 1 false a0_0 a0_1 a0_2 l0_3)) = some r := by rw [if_pos rfl] at H; exact H
                        clear H
                        have H := H1
                        clear H1
                        have HC70 := Aside0.mk H
                        clear H
                        go_upto_region 22 with (fail)
                        go_cut [140] (fun v140 wc => ∃ (kq : Nat) (x140_69 : Bool), v140 = .bool x140_69 ∧ Aside0 (handshakerlaw08_CodeOne.j9 kq 1 x140_69 a0_0 a0_1 a0_2 l0_3 = some r) ∧ Aside0 (kq ≤ kj66) ∧ Aside0 (Kd.V k41 41 wc w.heap.size (fun k_ => (P0_3_ k_ ∨ w.heap.size ≤ k_) ∧ k_ ≠ gb207) (.slice A0_3 l0_3.length c0_3) l0_3) ∧ Aside0 (wc.heap[gb207]? = some (.cells #[.int .i64 a0_0, .int .i64 a0_1, .int .i64 a0_2, (.slice A0_3 l0_3.length c0_3)] 37 (0, 0))) ∧ Aside0 (Below w.heap.size w wc))
                        case first => as_aux_lemma =>
                         have H := HC70.out
                         clear HC70
                         by_cases c71 : ((l0_3.length : Int) == 0) = true
                         · rw [if_pos c71] at H
                           have c71b0 : ((l0_3.length : Int) == 0) = true := c71
                           (try (have c71b1 : decide ((l0_3.length : Int) = 0) = true := by simpa using c71))
                           (try (have c71b2 : ((l0_3.length : Int) == 0) = true := by simpa using c71))
                           clear c71
                           (first | rw [c71b0] | (simp only [i64_w, i32_w]; rw [c71b0]) | skip)
                           by_cases c72 : a0_2 = 0
                           · rw [if_pos c72] at H
                             have c72b0 : (a0_2 == 0) = true := beq_iff_eq.mpr c72
                             have c72b1 : (a0_2 != 0) = false := bne_eq_false_iff_eq.mpr c72
                             clear c72
                             by_cases c73 : a0_0 = 5
                             · rw [if_pos c73] at H
                               have c73b0 : (a0_0 == 5) = true := beq_iff_eq.mpr c73
                               have c73b1 : (a0_0 != 5) = false := bne_eq_false_iff_eq.mpr c73
                               clear c73
                               by_cases c74 : a0_1 = 0
                               · rw [if_pos c74] at H
                                 have c74b0 : (a0_1 == 0) = true := beq_iff_eq.mpr c74
                                 have c74b1 : (a0_1 != 0) = false := bne_eq_false_iff_eq.mpr c74
                                 clear c74
                                 have H' := Aside0.mk H
                                 clear H
                                 have hcz75_0 : wc.cell? ⟨gb207, 0, none⟩ = some (.int .i64 a0_0) := (blk_cell BK207.out 0).trans rfl
                                 have hcz75_1 : wc.cell? ⟨gb207, 1, none⟩ = some (.int .i64 a0_1) := (blk_cell BK207.out 1).trans rfl
                                 have hcz75_2 : wc.cell? ⟨gb207, 2, none⟩ = some (.int .i64 a0_2) := (blk_cell BK207.out 2).trans rfl
                                 have hcz75_3 : wc.cell? ⟨gb207, 3, none⟩ = some (.slice A0_3 l0_3.length c0_3) := (blk_cell BK207.out 3).trans rfl
                                 have hfz75_0 := blk_frozen BK207.out 0
                                 have hfz75_1 := blk_frozen BK207.out 1
                                 have hfz75_2 := blk_frozen BK207.out 2
                                 have hfz75_3 := blk_frozen BK207.out 3
                                 go_wp2
                                 first | go_meet | (refine Met.intro ?_; go_step; (repeat apply Exists.intro); refine ⟨?rel, by rw [c71b0]; try rfl⟩)
                                 case rel => exact ⟨_, (true), (by first | rfl | (simp; done) | (simp [*]; done)), H', ⟨by have := HJ6.out; have := HJ12.out; have := HJ16.out; have := HJ28.out; have := HJ42.out; have := HJ66.out; first | omega | exact Nat.le_refl _⟩, ⟨by (with_reducible repeat (first | apply Kd.V_alloc | apply Kd.V_drewN | apply Kd.V_drew)); exact HO_208003.out⟩, ⟨by (with_reducible repeat (first | refine blk_drewN ?_ _ | refine blk_drew ?_ | refine blk_alloc ?_ _)); exact BK207.out⟩, ⟨by repeat (with_reducible first | exact HB.out | apply below_alloc | apply pw_below_drewN | apply below_drew1 | refine below_set ?_ GE207.out)⟩⟩
                               · rw [if_neg c74] at H
                                 have c74b0 : (a0_1 == 0) = false := beq_eq_false_iff_ne.mpr c74
                                 have c74b1 : (a0_1 != 0) = true := bne_iff_ne.mpr c74
                                 by_cases c76 : a0_0 = 6
                                 · rw [if_pos c76] at H
                                   have c76b0 : (a0_0 == 6) = true := beq_iff_eq.mpr c76
                                   have c76b1 : (a0_0 != 6) = false := bne_eq_false_iff_eq.mpr c76
                                   clear c76
                                   by_cases c77 : a0_1 ≥ 0
                                   · rw [if_pos c77] at H
                                     have c77b0 : decide (0 ≤ a0_1) = true := decide_eq_true c77
                                     clear c77
                                     have H' := Aside0.mk H
                                     clear H
                                     have hcz78_0 : wc.cell? ⟨gb207, 0, none⟩ = some (.int .i64 a0_0) := (blk_cell BK207.out 0).trans rfl
                                     have hcz78_1 : wc.cell? ⟨gb207, 1, none⟩ = some (.int .i64 a0_1) := (blk_cell BK207.out 1).trans rfl
                                     have hcz78_2 : wc.cell? ⟨gb207, 2, none⟩ = some (.int .i64 a0_2) := (blk_cell BK207.out 2).trans rfl
                                     have hcz78_3 : wc.cell? ⟨gb207, 3, none⟩ = some (.slice A0_3 l0_3.length c0_3) := (blk_cell BK207.out 3).trans rfl
                                     have hfz78_0 := blk_frozen BK207.out 0
                                     have hfz78_1 := blk_frozen BK207.out 1
                                     have hfz78_2 := blk_frozen BK207.out 2
                                     have hfz78_3 := blk_frozen BK207.out 3
                                     go_wp2
                                     first | go_meet | (refine Met.intro ?_; go_step; (repeat apply Exists.intro); refine ⟨?rel, by rw [c71b0]; try rfl⟩)
                                     case rel => exact ⟨_, (decide (a0_1 < 256)), (by first | rfl | (simp; done) | (simp [*]; done)), H', ⟨by have := HJ6.out; have := HJ12.out; have := HJ16.out; have := HJ28.out; have := HJ42.out; have := HJ66.out; first | omega | exact Nat.le_refl _⟩, ⟨by (with_reducible repeat (first | apply Kd.V_alloc | apply Kd.V_drewN | apply Kd.V_drew)); exact HO_208003.out⟩, ⟨by (with_reducible repeat (first | refine blk_drewN ?_ _ | refine blk_drew ?_ | refine blk_alloc ?_ _)); exact BK207.out⟩, ⟨by repeat (with_reducible first | exact HB.out | apply below_alloc | apply pw_below_drewN | apply below_drew1 | refine below_set ?_ GE207.out)⟩⟩
                                   · rw [if_neg c77] at H
                                     have c77b0 : decide (0 ≤ a0_1) = false := decide_eq_false c77
                                     clear c77
                                     have H' := Aside0.mk H
                                     clear H
                                     have hcz79_0 : wc.cell? ⟨gb207, 0, none⟩ = some (.int .i64 a0_0) := (blk_cell BK207.out 0).trans rfl
                                     have hcz79_1 : wc.cell? ⟨gb207, 1, none⟩ = some (.int .i64 a0_1) := (blk_cell BK207.out 1).trans rfl
                                     have hcz79_2 : wc.cell? ⟨gb207, 2, none⟩ = some (.int .i64 a0_2) := (blk_cell BK207.out 2).trans rfl
                                     have hcz79_3 : wc.cell? ⟨gb207, 3, none⟩ = some (.slice A0_3 l0_3.length c0_3) := (blk_cell BK207.out 3).trans rfl
                                     have hfz79_0 := blk_frozen BK207.out 0
                                     have hfz79_1 := blk_frozen BK207.out 1
                                     have hfz79_2 := blk_frozen BK207.out 2
                                     have hfz79_3 := blk_frozen BK207.out 3
                                     go_wp2
                                     first | go_meet | (refine Met.intro ?_; go_step; (repeat apply Exists.intro); refine ⟨?rel, by rw [c71b0]; try rfl⟩)
                                     case rel => exact ⟨_, (false), (by first | rfl | (simp; done) | (simp [*]; done)), H', ⟨by have := HJ6.out; have := HJ12.out; have := HJ16.out; have := HJ28.out; have := HJ42.out; have := HJ66.out; first | omega | exact Nat.le_refl _⟩, ⟨by (with_reducible repeat (first | apply Kd.V_alloc | apply Kd.V_drewN | apply Kd.V_drew)); exact HO_208003.out⟩, ⟨by (with_reducible repeat (first | refine blk_drewN ?_ _ | refine blk_drew ?_ | refine blk_alloc ?_ _)); exact BK207.out⟩, ⟨by repeat (with_reducible first | exact HB.out | apply below_alloc | apply pw_below_drewN | apply below_drew1 | refine below_set ?_ GE207.out)⟩⟩
                                 · rw [if_neg c76] at H
                                   have c76b0 : (a0_0 == 6) = false := beq_eq_false_iff_ne.mpr c76
                                   have c76b1 : (a0_0 != 6) = true := bne_iff_ne.mpr c76
                                   have H' := Aside0.mk H
                                   clear H
                                   have hcz80_0 : wc.cell? ⟨gb207, 0, none⟩ = some (.int .i64 a0_0) := (blk_cell BK207.out 0).trans rfl
                                   have hcz80_1 : wc.cell? ⟨gb207, 1, none⟩ = some (.int .i64 a0_1) := (blk_cell BK207.out 1).trans rfl
                                   have hcz80_2 : wc.cell? ⟨gb207, 2, none⟩ = some (.int .i64 a0_2) := (blk_cell BK207.out 2).trans rfl
                                   have hcz80_3 : wc.cell? ⟨gb207, 3, none⟩ = some (.slice A0_3 l0_3.length c0_3) := (blk_cell BK207.out 3).trans rfl
                                   have hfz80_0 := blk_frozen BK207.out 0
                                   have hfz80_1 := blk_frozen BK207.out 1
                                   have hfz80_2 := blk_frozen BK207.out 2
                                   have hfz80_3 := blk_frozen BK207.out 3
                                   go_wp2
                                   first | go_meet | (refine Met.intro ?_; go_step; (repeat apply Exists.intro); refine ⟨?rel, by rw [c71b0]; try rfl⟩)
                                   case rel => exact ⟨_, (false), (by first | rfl | (simp; done) | (simp [*]; done)), H', ⟨by have := HJ6.out; have := HJ12.out; have := HJ16.out; have := HJ28.out; have := HJ42.out; have := HJ66.out; first | omega | exact Nat.le_refl _⟩, ⟨by (with_reducible repeat (first | apply Kd.V_alloc | apply Kd.V_drewN | apply Kd.V_drew)); exact HO_208003.out⟩, ⟨by (with_reducible repeat (first | refine blk_drewN ?_ _ | refine blk_drew ?_ | refine blk_alloc ?_ _)); exact BK207.out⟩, ⟨by repeat (with_reducible first | exact HB.out | apply below_alloc | apply pw_below_drewN | apply below_drew1 | refine below_set ?_ GE207.out)⟩⟩
                             · rw [if_neg c73] at H
                               have c73b0 : (a0_0 == 5) = false := beq_eq_false_iff_ne.mpr c73
                               have c73b1 : (a0_0 != 5) = true := bne_iff_ne.mpr c73
                               by_cases c81 : a0_0 = 6
                               · rw [if_pos c81] at H
                                 have c81b0 : (a0_0 == 6) = true := beq_iff_eq.mpr c81
                                 have c81b1 : (a0_0 != 6) = false := bne_eq_false_iff_eq.mpr c81
                                 clear c81
                                 by_cases c82 : a0_1 ≥ 0
                                 · rw [if_pos c82] at H
                                   have c82b0 : decide (0 ≤ a0_1) = true := decide_eq_true c82
                                   clear c82
                                   have H' := Aside0.mk H
                                   clear H
                                   have hcz83_0 : wc.cell? ⟨gb207, 0, none⟩ = some (.int .i64 a0_0) := (blk_cell BK207.out 0).trans rfl
                                   have hcz83_1 : wc.cell? ⟨gb207, 1, none⟩ = some (.int .i64 a0_1) := (blk_cell BK207.out 1).trans rfl
                                   have hcz83_2 : wc.cell? ⟨gb207, 2, none⟩ = some (.int .i64 a0_2) := (blk_cell BK207.out 2).trans rfl
                                   have hcz83_3 : wc.cell? ⟨gb207, 3, none⟩ = some (.slice A0_3 l0_3.length c0_3) := (blk_cell BK207.out 3).trans rfl
                                   have hfz83_0 := blk_frozen BK207.out 0
                                   have hfz83_1 := blk_frozen BK207.out 1
                                   have hfz83_2 := blk_frozen BK207.out 2
                                   have hfz83_3 := blk_frozen BK207.out 3
                                   go_wp2
                                   first | go_meet | (refine Met.intro ?_; go_step; (repeat apply Exists.intro); refine ⟨?rel, by rw [c71b0]; try rfl⟩)
                                   case rel => exact ⟨_, (decide (a0_1 < 256)), (by first | rfl | (simp; done) | (simp [*]; done)), H', ⟨by have := HJ6.out; have := HJ12.out; have := HJ16.out; have := HJ28.out; have := HJ42.out; have := HJ66.out; first | omega | exact Nat.le_refl _⟩, ⟨by (with_reducible repeat (first | apply Kd.V_alloc | apply Kd.V_drewN | apply Kd.V_drew)); exact HO_208003.out⟩, ⟨by (with_reducible repeat (first | refine blk_drewN ?_ _ | refine blk_drew ?_ | refine blk_alloc ?_ _)); exact BK207.out⟩, ⟨by repeat (with_reducible first | exact HB.out | apply below_alloc | apply pw_below_drewN | apply below_drew1 | refine below_set ?_ GE207.out)⟩⟩
                                 · rw [if_neg c82] at H
                                   have c82b0 : decide (0 ≤ a0_1) = false := decide_eq_false c82
                                   clear c82
                                   have H' := Aside0.mk H
                                   clear H
                                   have hcz84_0 : wc.cell? ⟨gb207, 0, none⟩ = some (.int .i64 a0_0) := (blk_cell BK207.out 0).trans rfl
                                   have hcz84_1 : wc.cell? ⟨gb207, 1, none⟩ = some (.int .i64 a0_1) := (blk_cell BK207.out 1).trans rfl
                                   have hcz84_2 : wc.cell? ⟨gb207, 2, none⟩ = some (.int .i64 a0_2) := (blk_cell BK207.out 2).trans rfl
                                   have hcz84_3 : wc.cell? ⟨gb207, 3, none⟩ = some (.slice A0_3 l0_3.length c0_3) := (blk_cell BK207.out 3).trans rfl
                                   have hfz84_0 := blk_frozen BK207.out 0
                                   have hfz84_1 := blk_frozen BK207.out 1
                                   have hfz84_2 := blk_frozen BK207.out 2
                                   have hfz84_3 := blk_frozen BK207.out 3
                                   go_wp2
                                   first | go_meet | (refine Met.intro ?_; go_step; (repeat apply Exists.intro); refine ⟨?rel, by rw [c71b0]; try rfl⟩)
                                   case rel => exact ⟨_, (false), (by first | rfl | (simp; done) | (simp [*]; done)), H', ⟨by have := HJ6.out; have := HJ12.out; have := HJ16.out; have := HJ28.out; have := HJ42.out; have := HJ66.out; first | omega | exact Nat.le_refl _⟩, ⟨by (with_reducible repeat (first | apply Kd.V_alloc | apply Kd.V_drewN | apply Kd.V_drew)); exact HO_208003.out⟩, ⟨by (with_reducible repeat (first | refine blk_drewN ?_ _ | refine blk_drew ?_ | refine blk_alloc ?_ _)); exact BK207.out⟩, ⟨by repeat (with_reducible first | exact HB.out | apply below_alloc | apply pw_below_drewN | apply below_drew1 | refine below_set ?_ GE207.out)⟩⟩
                               · rw [if_neg c81] at H
                                 have c81b0 : (a0_0 == 6) = false := beq_eq_false_iff_ne.mpr c81
                                 have c81b1 : (a0_0 != 6) = true := bne_iff_ne.mpr c81
                                 have H' := Aside0.mk H
                                 clear H
                                 have hcz85_0 : wc.cell? ⟨gb207, 0, none⟩ = some (.int .i64 a0_0) := (blk_cell BK207.out 0).trans rfl
                                 have hcz85_1 : wc.cell? ⟨gb207, 1, none⟩ = some (.int .i64 a0_1) := (blk_cell BK207.out 1).trans rfl
                                 have hcz85_2 : wc.cell? ⟨gb207, 2, none⟩ = some (.int .i64 a0_2) := (blk_cell BK207.out 2).trans rfl
                                 have hcz85_3 : wc.cell? ⟨gb207, 3, none⟩ = some (.slice A0_3 l0_3.length c0_3) := (blk_cell BK207.out 3).trans rfl
                                 have hfz85_0 := blk_frozen BK207.out 0
                                 have hfz85_1 := blk_frozen BK207.out 1
                                 have hfz85_2 := blk_frozen BK207.out 2
                                 have hfz85_3 := blk_frozen BK207.out 3
                                 go_wp2
                                 first | go_meet | (refine Met.intro ?_; go_step; (repeat apply Exists.intro); refine ⟨?rel, by rw [c71b0]; try rfl⟩)
                                 case rel => exact ⟨_, (false), (by first | rfl | (simp; done) | (simp [*]; done)), H', ⟨by have := HJ6.out; have := HJ12.out; have := HJ16.out; have := HJ28.out; have := HJ42.out; have := HJ66.out; first | omega | exact Nat.le_refl _⟩, ⟨by (with_reducible repeat (first | apply Kd.V_alloc | apply Kd.V_drewN | apply Kd.V_drew)); exact HO_208003.out⟩, ⟨by (with_reducible repeat (first | refine blk_drewN ?_ _ | refine blk_drew ?_ | refine blk_alloc ?_ _)); exact BK207.out⟩, ⟨by repeat (with_reducible first | exact HB.out | apply below_alloc | apply pw_below_drewN | apply below_drew1 | refine below_set ?_ GE207.out)⟩⟩
                           · rw [if_neg c72] at H
                             have c72b0 : (a0_2 == 0) = false := beq_eq_false_iff_ne.mpr c72
                             have c72b1 : (a0_2 != 0) = true := bne_iff_ne.mpr c72
                             have H' := Aside0.mk H
                             clear H
                             have hcz86_0 : wc.cell? ⟨gb207, 0, none⟩ = some (.int .i64 a0_0) := (blk_cell BK207.out 0).trans rfl
                             have hcz86_1 : wc.cell? ⟨gb207, 1, none⟩ = some (.int .i64 a0_1) := (blk_cell BK207.out 1).trans rfl
                             have hcz86_2 : wc.cell? ⟨gb207, 2, none⟩ = some (.int .i64 a0_2) := (blk_cell BK207.out 2).trans rfl
                             have hcz86_3 : wc.cell? ⟨gb207, 3, none⟩ = some (.slice A0_3 l0_3.length c0_3) := (blk_cell BK207.out 3).trans rfl
                             have hfz86_0 := blk_frozen BK207.out 0
                             have hfz86_1 := blk_frozen BK207.out 1
                             have hfz86_2 := blk_frozen BK207.out 2
                             have hfz86_3 := blk_frozen BK207.out 3
                             go_wp2
                             first | go_meet | (refine Met.intro ?_; go_step; (repeat apply Exists.intro); refine ⟨?rel, by rw [c71b0]; try rfl⟩)
                             case rel => exact ⟨_, (false), (by first | rfl | (simp; done) | (simp [*]; done)), H', ⟨by have := HJ6.out; have := HJ12.out; have := HJ16.out; have := HJ28.out; have := HJ42.out; have := HJ66.out; first | omega | exact Nat.le_refl _⟩, ⟨by (with_reducible repeat (first | apply Kd.V_alloc | apply Kd.V_drewN | apply Kd.V_drew)); exact HO_208003.out⟩, ⟨by (with_reducible repeat (first | refine blk_drewN ?_ _ | refine blk_drew ?_ | refine blk_alloc ?_ _)); exact BK207.out⟩, ⟨by repeat (with_reducible first | exact HB.out | apply below_alloc | apply pw_below_drewN | apply below_drew1 | refine below_set ?_ GE207.out)⟩⟩
                         · rw [if_neg c71] at H
                           have c71b0 : ((l0_3.length : Int) == 0) = false := by simpa using c71
                           (try (have c71b1 : decide ((l0_3.length : Int) = 0) = false := by simpa using c71))
                           (try (have c71b2 : ((l0_3.length : Int) == 0) = false := by simpa using c71))
                           (try (have c71b3 : ¬ ((l0_3.length : Int) = 0) := by simpa using c71))
                           clear c71
                           (first | rw [c71b0] | (simp only [i64_w, i32_w]; rw [c71b0]) | skip)
                           have H' := Aside0.mk H
                           clear H
                           go_wp2
                           first | go_meet | (refine Met.intro ?_; go_step; (repeat apply Exists.intro); refine ⟨?rel, by rw [c71b0]; try rfl⟩)
                           case rel => exact ⟨_, (false), (by first | rfl | (simp; done) | (simp [*]; done)), H', ⟨by have := HJ6.out; have := HJ12.out; have := HJ16.out; have := HJ28.out; have := HJ42.out; have := HJ66.out; first | omega | exact Nat.le_refl _⟩, ⟨by (with_reducible repeat (first | apply Kd.V_alloc | apply Kd.V_drewN | apply Kd.V_drew)); exact HO_208003.out⟩, ⟨by (with_reducible repeat (first | refine blk_drewN ?_ _ | refine blk_drew ?_ | refine blk_alloc ?_ _)); exact BK207.out⟩, ⟨by repeat (with_reducible first | exact HB.out | apply below_alloc | apply pw_below_drewN | apply below_drew1 | refine below_set ?_ GE207.out)⟩⟩
                        case rest => as_aux_lemma =>
                         clear HC70
                         try clear c1
                         try clear c2
                         try clear c2b0
                         try clear c2b1
                         try clear p2
                         try clear c3
                         try clear c4
                         try clear c5
                         try clear c6
                         try clear c7
                         try clear c8
                         try clear c10
                         try clear c10b0
                         try clear c14
                         try clear c14b0
                         try clear c16
                         try clear c20
                         try clear c20b0
                         try clear c20b1
                         try clear c25
                         try clear c30
                         try clear c30b0
                         try clear c35
                         try clear c35b0
                         try clear c35b1
                         try clear c37
                         try clear c37b0
                         try clear c37b1
                         try clear c37b2
                         try clear c38
                         try clear c39
                         try clear c39b0
                         try clear c42
                         try clear c44
                         try clear c44b0
                         try clear c44b1
                         try clear c45
                         try clear c47
                         try clear c48
                         try clear c48b0
                         try clear c48b1
                         try clear c49
                         try clear c49b0
                         try clear c49b1
                         try clear c50
                         try clear c52
                         try clear c52b0
                         try clear c52b1
                         try clear c55
                         try clear c55b0
                         try clear c55b1
                         try clear c59
                         try clear c60
                         try clear c60b0
                         try clear c60b1
                         try clear c62
                         try clear c63
                         try clear c63b0
                         try clear c63b1
                         try clear c66
                         try clear c68
                         try clear c68b0
                         try clear c68b1
                         try clear c69
                         try clear c71
                         try clear c71b0
                         try clear c71b1
                         try clear c71b2
                         try clear c72
                         try clear c72b0
                         try clear c72b1
                         try clear c73
                         try clear c73b0
                         try clear c73b1
                         try clear c74
                         try clear c74b0
                         try clear c74b1
                         try clear c76
                         try clear c76b0
                         try clear c76b1
                         try clear c77
                         try clear c77b0
                         try clear c81
                         try clear c81b0
                         try clear c81b1
                         try clear c82
                         try clear c82b0
                         try clear hcz11_0
                         try clear hcz11_1
                         try clear hcz11_2
                         try clear hcz11_3
                         try clear hcz12_0
                         try clear hcz12_1
                         try clear hcz12_2
                         try clear hcz12_3
                         try clear hcz15_0
                         try clear hcz15_1
                         try clear hcz15_2
                         try clear hcz15_3
                         try clear hcz16_0
                         try clear hcz16_1
                         try clear hcz16_2
                         try clear hcz16_3
                         try clear hcz18_0
                         try clear hcz18_1
                         try clear hcz18_2
                         try clear hcz18_3
                         try clear hcz22_0
                         try clear hcz22_1
                         try clear hcz22_2
                         try clear hcz22_3
                         try clear hcz24_0
                         try clear hcz24_1
                         try clear hcz24_2
                         try clear hcz24_3
                         try clear hcz27_0
                         try clear hcz27_1
                         try clear hcz27_2
                         try clear hcz27_3
                         try clear hcz31_0
                         try clear hcz31_1
                         try clear hcz31_2
                         try clear hcz31_3
                         try clear hcz32_0
                         try clear hcz32_1
                         try clear hcz32_2
                         try clear hcz32_3
                         try clear hcz34_0
                         try clear hcz34_1
                         try clear hcz34_2
                         try clear hcz34_3
                         try clear hcz40_0
                         try clear hcz40_1
                         try clear hcz40_2
                         try clear hcz40_3
                         try clear hcz41_0
                         try clear hcz41_1
                         try clear hcz41_2
                         try clear hcz41_3
                         try clear hcz51_0
                         try clear hcz51_1
                         try clear hcz51_2
                         try clear hcz51_3
                         try clear hcz53_0
                         try clear hcz53_1
                         try clear hcz53_2
                         try clear hcz53_3
                         try clear hcz54_0
                         try clear hcz54_1
                         try clear hcz54_2
                         try clear hcz54_3
                         try clear hcz56_0
                         try clear hcz56_1
                         try clear hcz56_2
                         try clear hcz56_3
                         try clear hcz57_0
                         try clear hcz57_1
                         try clear hcz57_2
                         try clear hcz57_3
                         try clear hcz58_0
                         try clear hcz58_1
                         try clear hcz58_2
                         try clear hcz58_3
                         try clear hcz5_0
                         try clear hcz5_1
                         try clear hcz5_2
                         try clear hcz5_3
                         try clear hcz64_0
                         try clear hcz64_1
                         try clear hcz64_2
                         try clear hcz64_3
                         try clear hcz65_0
                         try clear hcz65_1
                         try clear hcz65_2
                         try clear hcz65_3
                         try clear hcz75_0
                         try clear hcz75_1
                         try clear hcz75_2
                         try clear hcz75_3
                         try clear hcz78_0
                         try clear hcz78_1
                         try clear hcz78_2
                         try clear hcz78_3
                         try clear hcz79_0
                         try clear hcz79_1
                         try clear hcz79_2
                         try clear hcz79_3
                         try clear hcz80_0
                         try clear hcz80_1
                         try clear hcz80_2
                         try clear hcz80_3
                         try clear hcz83_0
                         try clear hcz83_1
                         try clear hcz83_2
                         try clear hcz83_3
                         try clear hcz84_0
                         try clear hcz84_1
                         try clear hcz84_2
                         try clear hcz84_3
                         try clear hcz85_0
                         try clear hcz85_1
                         try clear hcz85_2
                         try clear hcz85_3
                         try clear hcz86_0
                         try clear hcz86_1
                         try clear hcz86_2
                         try clear hcz86_3
                         try clear hcz9_0
                         try clear hcz9_1
                         try clear hcz9_2
                         try clear hcz9_3
                         try clear hfz11_0
                         try clear hfz11_1
                         try clear hfz11_2
                         try clear hfz11_3
                         try clear hfz12_0
                         try clear hfz12_1
                         try clear hfz12_2
                         try clear hfz12_3
                         try clear hfz15_0
                         try clear hfz15_1
                         try clear hfz15_2
                         try clear hfz15_3
                         try clear hfz16_0
                         try clear hfz16_1
                         try clear hfz16_2
                         try clear hfz16_3
                         try clear hfz18_0
                         try clear hfz18_1
                         try clear hfz18_2
                         try clear hfz18_3
                         try clear hfz22_0
                         try clear hfz22_1
                         try clear hfz22_2
                         try clear hfz22_3
                         try clear hfz24_0
                         try clear hfz24_1
                         try clear hfz24_2
                         try clear hfz24_3
                         try clear hfz27_0
                         try clear hfz27_1
                         try clear hfz27_2
                         try clear hfz27_3
                         try clear hfz31_0
                         try clear hfz31_1
                         try clear hfz31_2
                         try clear hfz31_3
                         try clear hfz32_0
                         try clear hfz32_1
                         try clear hfz32_2
                         try clear hfz32_3
                         try clear hfz34_0
                         try clear hfz34_1
                         try clear hfz34_2
                         try clear hfz34_3
                         try clear hfz40_0
                         try clear hfz40_1
                         try clear hfz40_2
                         try clear hfz40_3
                         try clear hfz41_0
                         try clear hfz41_1
                         try clear hfz41_2
                         try clear hfz41_3
                         try clear hfz51_0
                         try clear hfz51_1
                         try clear hfz51_2
                         try clear hfz51_3
                         try clear hfz53_0
                         try clear hfz53_1
                         try clear hfz53_2
                         try clear hfz53_3
                         try clear hfz54_0
                         try clear hfz54_1
                         try clear hfz54_2
                         try clear hfz54_3
                         try clear hfz56_0
                         try clear hfz56_1
                         try clear hfz56_2
                         try clear hfz56_3
                         try clear hfz57_0
                         try clear hfz57_1
                         try clear hfz57_2
                         try clear hfz57_3
                         try clear hfz58_0
                         try clear hfz58_1
                         try clear hfz58_2
                         try clear hfz58_3
                         try clear hfz5_0
                         try clear hfz5_1
                         try clear hfz5_2
                         try clear hfz5_3
                         try clear hfz64_0
                         try clear hfz64_1
                         try clear hfz64_2
                         try clear hfz64_3
                         try clear hfz65_0
                         try clear hfz65_1
                         try clear hfz65_2
                         try clear hfz65_3
                         try clear hfz75_0
                         try clear hfz75_1
                         try clear hfz75_2
                         try clear hfz75_3
                         try clear hfz78_0
                         try clear hfz78_1
                         try clear hfz78_2
                         try clear hfz78_3
                         try clear hfz79_0
                         try clear hfz79_1
                         try clear hfz79_2
                         try clear hfz79_3
                         try clear hfz80_0
                         try clear hfz80_1
                         try clear hfz80_2
                         try clear hfz80_3
                         try clear hfz83_0
                         try clear hfz83_1
                         try clear hfz83_2
                         try clear hfz83_3
                         try clear hfz84_0
                         try clear hfz84_1
                         try clear hfz84_2
                         try clear hfz84_3
                         try clear hfz85_0
                         try clear hfz85_1
                         try clear hfz85_2
                         try clear hfz85_3
                         try clear hfz86_0
                         try clear hfz86_1
                         try clear hfz86_2
                         try clear hfz86_3
                         try clear hfz9_0
                         try clear hfz9_1
                         try clear hfz9_2
                         try clear hfz9_3
                         try clear p2
                         obtain ⟨kq, x140_69, rfl, HA, HJ69, HO_208003, BK207, HB⟩ := hcut
                         cases kq with
                         | zero => exact absurd HA.out (by simp [handshakerlaw08_CodeOne.j9])
                         | succ kj69 =>
                          have H := HA.out
                          clear HA
                          simp only [handshakerlaw08_CodeOne.j9] at H
                          by_cases c87 : x140_69 = true
                          · subst c87
                            have H1 : (handshakerlaw08_CodeOne.j11 kj69 0 a0_0 a0_1 a0_2 l0_3) = some r := by rw [if_pos rfl] at H; exact H
                            clear H
                            have H := H1
                            clear H1
                            have H' := Aside0.mk H
                            clear H
                            go_wp2
                            go_meet
                            case rel => exact ⟨_, (0), (by first | rfl | (simp; done) | (simp [*]; done)), H', ⟨by have := HJ6.out; have := HJ12.out; have := HJ16.out; have := HJ28.out; have := HJ42.out; have := HJ66.out; have := HJ69.out; first | omega | exact Nat.le_refl _⟩, ⟨by (with_reducible repeat (first | apply Kd.V_alloc | apply Kd.V_drewN | apply Kd.V_drew)); exact HO_208003.out⟩, ⟨by (with_reducible repeat (first | refine blk_drewN ?_ _ | refine blk_drew ?_ | refine blk_alloc ?_ _)); exact BK207.out⟩, ⟨by repeat (with_reducible first | exact HB.out | apply below_alloc | apply pw_below_drewN | apply below_drew1 | refine below_set ?_ GE207.out)⟩⟩
                          · replace c87 := Bool.eq_false_iff.mpr c87
                            subst c87
                            have H1 : (handshakerlaw08_CodeOne.j11 kj69 1 a0_0 a0_1 a0_2 l0_3) = some r := by rw [if_neg (show ¬ (false = true) by decide)] at H; exact H
                            clear H
                            have H := H1
                            clear H1
                            have H' := Aside0.mk H
                            clear H
                            go_wp2
                            go_meet
                            case rel => exact ⟨_, (1), (by first | rfl | (simp; done) | (simp [*]; done)), H', ⟨by have := HJ6.out; have := HJ12.out; have := HJ16.out; have := HJ28.out; have := HJ42.out; have := HJ66.out; have := HJ69.out; first | omega | exact Nat.le_refl _⟩, ⟨by (with_reducible repeat (first | apply Kd.V_alloc | apply Kd.V_drewN | apply Kd.V_drew)); exact HO_208003.out⟩, ⟨by (with_reducible repeat (first | refine blk_drewN ?_ _ | refine blk_drew ?_ | refine blk_alloc ?_ _)); exact BK207.out⟩, ⟨by repeat (with_reducible first | exact HB.out | apply below_alloc | apply pw_below_drewN | apply below_drew1 | refine below_set ?_ GE207.out)⟩⟩
                      · replace c69 := Bool.eq_false_iff.mpr c69
                        subst c69
                        have H1 : (if a0_0 = 7 then (if ((l0_3.length : Int) == 0) = true then (if x7_28 = true then (if a0_2 ≥ 1 then (handshakerlaw08_CodeOne.j10 kj66 1 (decide (a0_2 ≤ 24)) a0_0 a0_1 a0_2 l0_3) else (handshakerlaw08_CodeOne.j10 kj66 1 false a0_0 a0_1 a0_2 l0_3)) else (handshakerlaw08_CodeOne.j10 kj66 1 false a0_0 a0_1 a0_2 l0_3)) else (handshakerlaw08_CodeOne.j10 kj66 1 false a0_0 a0_1 a0_2 l0_3)) else (handshakerlaw08_CodeOne.j11 kj66 1 a0_0 a0_1 a0_2 l0_3)) = some r := by rw [if_neg (show ¬ (false = true) by decide)] at H; exact H
                        clear H
                        have H := H1
                        clear H1
                        by_cases c88 : a0_0 = 7
                        · rw [if_pos c88] at H
                          have c88b0 : (a0_0 == 7) = true := beq_iff_eq.mpr c88
                          have c88b1 : (a0_0 != 7) = false := bne_eq_false_iff_eq.mpr c88
                          clear c88
                          have HC89 := Aside0.mk H
                          clear H
                          go_upto_region 25 with (fail)
                          go_cut [156] (fun v156 wc => ∃ (kq : Nat) (x156_88 : Bool), v156 = .bool x156_88 ∧ Aside0 (handshakerlaw08_CodeOne.j10 kq 1 x156_88 a0_0 a0_1 a0_2 l0_3 = some r) ∧ Aside0 (kq ≤ kj66) ∧ Aside0 (Kd.V k41 41 wc w.heap.size (fun k_ => (P0_3_ k_ ∨ w.heap.size ≤ k_) ∧ k_ ≠ gb207) (.slice A0_3 l0_3.length c0_3) l0_3) ∧ Aside0 (wc.heap[gb207]? = some (.cells #[.int .i64 a0_0, .int .i64 a0_1, .int .i64 a0_2, (.slice A0_3 l0_3.length c0_3)] 37 (0, 0))) ∧ Aside0 (Below w.heap.size w wc))
                          case first => as_aux_lemma =>
                           have H := HC89.out
                           clear HC89
                           by_cases c90 : ((l0_3.length : Int) == 0) = true
                           · rw [if_pos c90] at H
                             have c90b0 : ((l0_3.length : Int) == 0) = true := c90
                             (try (have c90b1 : decide ((l0_3.length : Int) = 0) = true := by simpa using c90))
                             (try (have c90b2 : ((l0_3.length : Int) == 0) = true := by simpa using c90))
                             clear c90
                             (first | rw [c90b0] | (simp only [i64_w, i32_w]; rw [c90b0]) | skip)
                             by_cases c91 : x7_28 = true
                             · subst c91
                               have H1 : (if a0_2 ≥ 1 then (handshakerlaw08_CodeOne.j10 kj66 1 (decide (a0_2 ≤ 24)) a0_0 a0_1 a0_2 l0_3) else (handshakerlaw08_CodeOne.j10 kj66 1 false a0_0 a0_1 a0_2 l0_3)) = some r := by rw [if_pos rfl] at H; exact H
                               clear H
                               have H := H1
                               clear H1
                               by_cases c92 : a0_2 ≥ 1
                               · rw [if_pos c92] at H
                                 have c92b0 : decide (1 ≤ a0_2) = true := decide_eq_true c92
                                 clear c92
                                 have H' := Aside0.mk H
                                 clear H
                                 have hcz93_0 : wc.cell? ⟨gb207, 0, none⟩ = some (.int .i64 a0_0) := (blk_cell BK207.out 0).trans rfl
                                 have hcz93_1 : wc.cell? ⟨gb207, 1, none⟩ = some (.int .i64 a0_1) := (blk_cell BK207.out 1).trans rfl
                                 have hcz93_2 : wc.cell? ⟨gb207, 2, none⟩ = some (.int .i64 a0_2) := (blk_cell BK207.out 2).trans rfl
                                 have hcz93_3 : wc.cell? ⟨gb207, 3, none⟩ = some (.slice A0_3 l0_3.length c0_3) := (blk_cell BK207.out 3).trans rfl
                                 have hfz93_0 := blk_frozen BK207.out 0
                                 have hfz93_1 := blk_frozen BK207.out 1
                                 have hfz93_2 := blk_frozen BK207.out 2
                                 have hfz93_3 := blk_frozen BK207.out 3
                                 go_wp2
                                 first | go_meet | (refine Met.intro ?_; go_step; (repeat apply Exists.intro); refine ⟨?rel, by rw [c90b0]; try rfl⟩)
                                 case rel => exact ⟨_, (decide (a0_2 ≤ 24)), (by first | rfl | (simp; done) | (simp [*]; done)), H', ⟨by have := HJ6.out; have := HJ12.out; have := HJ16.out; have := HJ28.out; have := HJ42.out; have := HJ66.out; first | omega | exact Nat.le_refl _⟩, ⟨by (with_reducible repeat (first | apply Kd.V_alloc | apply Kd.V_drewN | apply Kd.V_drew)); exact HO_208003.out⟩, ⟨by (with_reducible repeat (first | refine blk_drewN ?_ _ | refine blk_drew ?_ | refine blk_alloc ?_ _)); exact BK207.out⟩, ⟨by repeat (with_reducible first | exact HB.out | apply below_alloc | apply pw_below_drewN | apply below_drew1 | refine below_set ?_ GE207.out)⟩⟩
                               · rw [if_neg c92] at H
                                 have c92b0 : decide (1 ≤ a0_2) = false := decide_eq_false c92
                                 clear c92
                                 have H' := Aside0.mk H
                                 clear H
                                 have hcz94_0 : wc.cell? ⟨gb207, 0, none⟩ = some (.int .i64 a0_0) := (blk_cell BK207.out 0).trans rfl
                                 have hcz94_1 : wc.cell? ⟨gb207, 1, none⟩ = some (.int .i64 a0_1) := (blk_cell BK207.out 1).trans rfl
                                 have hcz94_2 : wc.cell? ⟨gb207, 2, none⟩ = some (.int .i64 a0_2) := (blk_cell BK207.out 2).trans rfl
                                 have hcz94_3 : wc.cell? ⟨gb207, 3, none⟩ = some (.slice A0_3 l0_3.length c0_3) := (blk_cell BK207.out 3).trans rfl
                                 have hfz94_0 := blk_frozen BK207.out 0
                                 have hfz94_1 := blk_frozen BK207.out 1
                                 have hfz94_2 := blk_frozen BK207.out 2
                                 have hfz94_3 := blk_frozen BK207.out 3
                                 go_wp2
                                 first | go_meet | (refine Met.intro ?_; go_step; (repeat apply Exists.intro); refine ⟨?rel, by rw [c90b0]; try rfl⟩)
                                 case rel => exact ⟨_, (false), (by first | rfl | (simp; done) | (simp [*]; done)), H', ⟨by have := HJ6.out; have := HJ12.out; have := HJ16.out; have := HJ28.out; have := HJ42.out; have := HJ66.out; first | omega | exact Nat.le_refl _⟩, ⟨by (with_reducible repeat (first | apply Kd.V_alloc | apply Kd.V_drewN | apply Kd.V_drew)); exact HO_208003.out⟩, ⟨by (with_reducible repeat (first | refine blk_drewN ?_ _ | refine blk_drew ?_ | refine blk_alloc ?_ _)); exact BK207.out⟩, ⟨by repeat (with_reducible first | exact HB.out | apply below_alloc | apply pw_below_drewN | apply below_drew1 | refine below_set ?_ GE207.out)⟩⟩
                             · replace c91 := Bool.eq_false_iff.mpr c91
                               subst c91
                               have H1 : (handshakerlaw08_CodeOne.j10 kj66 1 false a0_0 a0_1 a0_2 l0_3) = some r := by rw [if_neg (show ¬ (false = true) by decide)] at H; exact H
                               clear H
                               have H := H1
                               clear H1
                               have H' := Aside0.mk H
                               clear H
                               go_wp2
                               first | go_meet | (refine Met.intro ?_; go_step; (repeat apply Exists.intro); refine ⟨?rel, by rw [c90b0]; try rfl⟩)
                               case rel => exact ⟨_, (false), (by first | rfl | (simp; done) | (simp [*]; done)), H', ⟨by have := HJ6.out; have := HJ12.out; have := HJ16.out; have := HJ28.out; have := HJ42.out; have := HJ66.out; first | omega | exact Nat.le_refl _⟩, ⟨by (with_reducible repeat (first | apply Kd.V_alloc | apply Kd.V_drewN | apply Kd.V_drew)); exact HO_208003.out⟩, ⟨by (with_reducible repeat (first | refine blk_drewN ?_ _ | refine blk_drew ?_ | refine blk_alloc ?_ _)); exact BK207.out⟩, ⟨by repeat (with_reducible first | exact HB.out | apply below_alloc | apply pw_below_drewN | apply below_drew1 | refine below_set ?_ GE207.out)⟩⟩
                           · rw [if_neg c90] at H
                             have c90b0 : ((l0_3.length : Int) == 0) = false := by simpa using c90
                             (try (have c90b1 : decide ((l0_3.length : Int) = 0) = false := by simpa using c90))
                             (try (have c90b2 : ((l0_3.length : Int) == 0) = false := by simpa using c90))
                             (try (have c90b3 : ¬ ((l0_3.length : Int) = 0) := by simpa using c90))
                             clear c90
                             (first | rw [c90b0] | (simp only [i64_w, i32_w]; rw [c90b0]) | skip)
                             have H' := Aside0.mk H
                             clear H
                             go_wp2
                             first | go_meet | (refine Met.intro ?_; go_step; (repeat apply Exists.intro); refine ⟨?rel, by rw [c90b0]; try rfl⟩)
                             case rel => exact ⟨_, (false), (by first | rfl | (simp; done) | (simp [*]; done)), H', ⟨by have := HJ6.out; have := HJ12.out; have := HJ16.out; have := HJ28.out; have := HJ42.out; have := HJ66.out; first | omega | exact Nat.le_refl _⟩, ⟨by (with_reducible repeat (first | apply Kd.V_alloc | apply Kd.V_drewN | apply Kd.V_drew)); exact HO_208003.out⟩, ⟨by (with_reducible repeat (first | refine blk_drewN ?_ _ | refine blk_drew ?_ | refine blk_alloc ?_ _)); exact BK207.out⟩, ⟨by repeat (with_reducible first | exact HB.out | apply below_alloc | apply pw_below_drewN | apply below_drew1 | refine below_set ?_ GE207.out)⟩⟩
                          case rest => as_aux_lemma =>
                           clear HC89
                           try clear c1
                           try clear c2
                           try clear c2b0
                           try clear c2b1
                           try clear p2
                           try clear c3
                           try clear c4
                           try clear c5
                           try clear c6
                           try clear c7
                           try clear c8
                           try clear c9
                           try clear c10
                           try clear c10b0
                           try clear c14
                           try clear c14b0
                           try clear c16
                           try clear c20
                           try clear c20b0
                           try clear c20b1
                           try clear c25
                           try clear c30
                           try clear c30b0
                           try clear c35
                           try clear c35b0
                           try clear c35b1
                           try clear c37
                           try clear c37b0
                           try clear c37b1
                           try clear c37b2
                           try clear c38
                           try clear c39
                           try clear c39b0
                           try clear c42
                           try clear c44
                           try clear c44b0
                           try clear c44b1
                           try clear c45
                           try clear c47
                           try clear c48
                           try clear c48b0
                           try clear c48b1
                           try clear c49
                           try clear c49b0
                           try clear c49b1
                           try clear c50
                           try clear c52
                           try clear c52b0
                           try clear c52b1
                           try clear c55
                           try clear c55b0
                           try clear c55b1
                           try clear c59
                           try clear c60
                           try clear c60b0
                           try clear c60b1
                           try clear c62
                           try clear c63
                           try clear c63b0
                           try clear c63b1
                           try clear c66
                           try clear c68
                           try clear c68b0
                           try clear c68b1
                           try clear c69
                           try clear c71
                           try clear c71b0
                           try clear c71b1
                           try clear c71b2
                           try clear c72
                           try clear c72b0
                           try clear c72b1
                           try clear c73
                           try clear c73b0
                           try clear c73b1
                           try clear c74
                           try clear c74b0
                           try clear c74b1
                           try clear c76
                           try clear c76b0
                           try clear c76b1
                           try clear c77
                           try clear c77b0
                           try clear c81
                           try clear c81b0
                           try clear c81b1
                           try clear c82
                           try clear c82b0
                           try clear c87
                           try clear c88
                           try clear c88b0
                           try clear c88b1
                           try clear c90
                           try clear c90b0
                           try clear c90b1
                           try clear c90b2
                           try clear c91
                           try clear c92
                           try clear c92b0
                           try clear hcz11_0
                           try clear hcz11_1
                           try clear hcz11_2
                           try clear hcz11_3
                           try clear hcz12_0
                           try clear hcz12_1
                           try clear hcz12_2
                           try clear hcz12_3
                           try clear hcz15_0
                           try clear hcz15_1
                           try clear hcz15_2
                           try clear hcz15_3
                           try clear hcz16_0
                           try clear hcz16_1
                           try clear hcz16_2
                           try clear hcz16_3
                           try clear hcz18_0
                           try clear hcz18_1
                           try clear hcz18_2
                           try clear hcz18_3
                           try clear hcz22_0
                           try clear hcz22_1
                           try clear hcz22_2
                           try clear hcz22_3
                           try clear hcz24_0
                           try clear hcz24_1
                           try clear hcz24_2
                           try clear hcz24_3
                           try clear hcz27_0
                           try clear hcz27_1
                           try clear hcz27_2
                           try clear hcz27_3
                           try clear hcz31_0
                           try clear hcz31_1
                           try clear hcz31_2
                           try clear hcz31_3
                           try clear hcz32_0
                           try clear hcz32_1
                           try clear hcz32_2
                           try clear hcz32_3
                           try clear hcz34_0
                           try clear hcz34_1
                           try clear hcz34_2
                           try clear hcz34_3
                           try clear hcz40_0
                           try clear hcz40_1
                           try clear hcz40_2
                           try clear hcz40_3
                           try clear hcz41_0
                           try clear hcz41_1
                           try clear hcz41_2
                           try clear hcz41_3
                           try clear hcz51_0
                           try clear hcz51_1
                           try clear hcz51_2
                           try clear hcz51_3
                           try clear hcz53_0
                           try clear hcz53_1
                           try clear hcz53_2
                           try clear hcz53_3
                           try clear hcz54_0
                           try clear hcz54_1
                           try clear hcz54_2
                           try clear hcz54_3
                           try clear hcz56_0
                           try clear hcz56_1
                           try clear hcz56_2
                           try clear hcz56_3
                           try clear hcz57_0
                           try clear hcz57_1
                           try clear hcz57_2
                           try clear hcz57_3
                           try clear hcz58_0
                           try clear hcz58_1
                           try clear hcz58_2
                           try clear hcz58_3
                           try clear hcz5_0
                           try clear hcz5_1
                           try clear hcz5_2
                           try clear hcz5_3
                           try clear hcz64_0
                           try clear hcz64_1
                           try clear hcz64_2
                           try clear hcz64_3
                           try clear hcz65_0
                           try clear hcz65_1
                           try clear hcz65_2
                           try clear hcz65_3
                           try clear hcz75_0
                           try clear hcz75_1
                           try clear hcz75_2
                           try clear hcz75_3
                           try clear hcz78_0
                           try clear hcz78_1
                           try clear hcz78_2
                           try clear hcz78_3
                           try clear hcz79_0
                           try clear hcz79_1
                           try clear hcz79_2
                           try clear hcz79_3
                           try clear hcz80_0
                           try clear hcz80_1
                           try clear hcz80_2
                           try clear hcz80_3
                           try clear hcz83_0
                           try clear hcz83_1
                           try clear hcz83_2
                           try clear hcz83_3
                           try clear hcz84_0
                           try clear hcz84_1
                           try clear hcz84_2
                           try clear hcz84_3
                           try clear hcz85_0
                           try clear hcz85_1
                           try clear hcz85_2
                           try clear hcz85_3
                           try clear hcz86_0
                           try clear hcz86_1
                           try clear hcz86_2
                           try clear hcz86_3
                           try clear hcz93_0
                           try clear hcz93_1
                           try clear hcz93_2
                           try clear hcz93_3
                           try clear hcz94_0
                           try clear hcz94_1
                           try clear hcz94_2
                           try clear hcz94_3
                           try clear hcz9_0
                           try clear hcz9_1
                           try clear hcz9_2
                           try clear hcz9_3
                           try clear hfz11_0
                           try clear hfz11_1
                           try clear hfz11_2
                           try clear hfz11_3
                           try clear hfz12_0
                           try clear hfz12_1
                           try clear hfz12_2
                           try clear hfz12_3
                           try clear hfz15_0
                           try clear hfz15_1
                           try clear hfz15_2
                           try clear hfz15_3
                           try clear hfz16_0
                           try clear hfz16_1
                           try clear hfz16_2
                           try clear hfz16_3
                           try clear hfz18_0
                           try clear hfz18_1
                           try clear hfz18_2
                           try clear hfz18_3
                           try clear hfz22_0
                           try clear hfz22_1
                           try clear hfz22_2
                           try clear hfz22_3
                           try clear hfz24_0
                           try clear hfz24_1
                           try clear hfz24_2
                           try clear hfz24_3
                           try clear hfz27_0
                           try clear hfz27_1
                           try clear hfz27_2
                           try clear hfz27_3
                           try clear hfz31_0
                           try clear hfz31_1
                           try clear hfz31_2
                           try clear hfz31_3
                           try clear hfz32_0
                           try clear hfz32_1
                           try clear hfz32_2
                           try clear hfz32_3
                           try clear hfz34_0
                           try clear hfz34_1
                           try clear hfz34_2
                           try clear hfz34_3
                           try clear hfz40_0
                           try clear hfz40_1
                           try clear hfz40_2
                           try clear hfz40_3
                           try clear hfz41_0
                           try clear hfz41_1
                           try clear hfz41_2
                           try clear hfz41_3
                           try clear hfz51_0
                           try clear hfz51_1
                           try clear hfz51_2
                           try clear hfz51_3
                           try clear hfz53_0
                           try clear hfz53_1
                           try clear hfz53_2
                           try clear hfz53_3
                           try clear hfz54_0
                           try clear hfz54_1
                           try clear hfz54_2
                           try clear hfz54_3
                           try clear hfz56_0
                           try clear hfz56_1
                           try clear hfz56_2
                           try clear hfz56_3
                           try clear hfz57_0
                           try clear hfz57_1
                           try clear hfz57_2
                           try clear hfz57_3
                           try clear hfz58_0
                           try clear hfz58_1
                           try clear hfz58_2
                           try clear hfz58_3
                           try clear hfz5_0
                           try clear hfz5_1
                           try clear hfz5_2
                           try clear hfz5_3
                           try clear hfz64_0
                           try clear hfz64_1
                           try clear hfz64_2
                           try clear hfz64_3
                           try clear hfz65_0
                           try clear hfz65_1
                           try clear hfz65_2
                           try clear hfz65_3
                           try clear hfz75_0
                           try clear hfz75_1
                           try clear hfz75_2
                           try clear hfz75_3
                           try clear hfz78_0
                           try clear hfz78_1
                           try clear hfz78_2
                           try clear hfz78_3
                           try clear hfz79_0
                           try clear hfz79_1
                           try clear hfz79_2
                           try clear hfz79_3
                           try clear hfz80_0
                           try clear hfz80_1
                           try clear hfz80_2
                           try clear hfz80_3
                           try clear hfz83_0
                           try clear hfz83_1
                           try clear hfz83_2
                           try clear hfz83_3
                           try clear hfz84_0
                           try clear hfz84_1
                           try clear hfz84_2
                           try clear hfz84_3
                           try clear hfz85_0
                           try clear hfz85_1
                           try clear hfz85_2
                           try clear hfz85_3
                           try clear hfz86_0
                           try clear hfz86_1
                           try clear hfz86_2
                           try clear hfz86_3
                           try clear hfz93_0
                           try clear hfz93_1
                           try clear hfz93_2
                           try clear hfz93_3
                           try clear hfz94_0
                           try clear hfz94_1
                           try clear hfz94_2
                           try clear hfz94_3
                           try clear hfz9_0
                           try clear hfz9_1
                           try clear hfz9_2
                           try clear hfz9_3
                           try clear p2
                           obtain ⟨kq, x156_88, rfl, HA, HJ88, HO_208003, BK207, HB⟩ := hcut
                           cases kq with
                           | zero => exact absurd HA.out (by simp [handshakerlaw08_CodeOne.j10])
                           | succ kj88 =>
                            have H := HA.out
                            clear HA
                            simp only [handshakerlaw08_CodeOne.j10] at H
                            by_cases c95 : x156_88 = true
                            · subst c95
                              have H1 : (handshakerlaw08_CodeOne.j11 kj88 2 a0_0 a0_1 a0_2 l0_3) = some r := by rw [if_pos rfl] at H; exact H
                              clear H
                              have H := H1
                              clear H1
                              have H' := Aside0.mk H
                              clear H
                              go_wp2
                              go_meet
                              case rel => exact ⟨_, (2), (by first | rfl | (simp; done) | (simp [*]; done)), H', ⟨by have := HJ6.out; have := HJ12.out; have := HJ16.out; have := HJ28.out; have := HJ42.out; have := HJ66.out; have := HJ88.out; first | omega | exact Nat.le_refl _⟩, ⟨by (with_reducible repeat (first | apply Kd.V_alloc | apply Kd.V_drewN | apply Kd.V_drew)); exact HO_208003.out⟩, ⟨by (with_reducible repeat (first | refine blk_drewN ?_ _ | refine blk_drew ?_ | refine blk_alloc ?_ _)); exact BK207.out⟩, ⟨by repeat (with_reducible first | exact HB.out | apply below_alloc | apply pw_below_drewN | apply below_drew1 | refine below_set ?_ GE207.out)⟩⟩
                            · replace c95 := Bool.eq_false_iff.mpr c95
                              subst c95
                              have H1 : (handshakerlaw08_CodeOne.j11 kj88 1 a0_0 a0_1 a0_2 l0_3) = some r := by rw [if_neg (show ¬ (false = true) by decide)] at H; exact H
                              clear H
                              have H := H1
                              clear H1
                              have H' := Aside0.mk H
                              clear H
                              go_wp2
                              go_meet
                              case rel => exact ⟨_, (1), (by first | rfl | (simp; done) | (simp [*]; done)), H', ⟨by have := HJ6.out; have := HJ12.out; have := HJ16.out; have := HJ28.out; have := HJ42.out; have := HJ66.out; have := HJ88.out; first | omega | exact Nat.le_refl _⟩, ⟨by (with_reducible repeat (first | apply Kd.V_alloc | apply Kd.V_drewN | apply Kd.V_drew)); exact HO_208003.out⟩, ⟨by (with_reducible repeat (first | refine blk_drewN ?_ _ | refine blk_drew ?_ | refine blk_alloc ?_ _)); exact BK207.out⟩, ⟨by repeat (with_reducible first | exact HB.out | apply below_alloc | apply pw_below_drewN | apply below_drew1 | refine below_set ?_ GE207.out)⟩⟩
                        · rw [if_neg c88] at H
                          have c88b0 : (a0_0 == 7) = false := beq_eq_false_iff_ne.mpr c88
                          have c88b1 : (a0_0 != 7) = true := bne_iff_ne.mpr c88
                          have H' := Aside0.mk H
                          clear H
                          go_wp2
                          go_meet
                          case rel => exact ⟨_, (1), (by first | rfl | (simp; done) | (simp [*]; done)), H', ⟨by have := HJ6.out; have := HJ12.out; have := HJ16.out; have := HJ28.out; have := HJ42.out; have := HJ66.out; first | omega | exact Nat.le_refl _⟩, ⟨by (with_reducible repeat (first | apply Kd.V_alloc | apply Kd.V_drewN | apply Kd.V_drew)); exact HO_208003.out⟩, ⟨by (with_reducible repeat (first | refine blk_drewN ?_ _ | refine blk_drew ?_ | refine blk_alloc ?_ _)); exact BK207.out⟩, ⟨by repeat (with_reducible first | exact HB.out | apply below_alloc | apply pw_below_drewN | apply below_drew1 | refine below_set ?_ GE207.out)⟩⟩
           case rest => as_aux_lemma =>
            clear HC33
            try clear c1
            try clear c2
            try clear c2b0
            try clear c2b1
            try clear p2
            try clear c3
            try clear c4
            try clear c5
            try clear c6
            try clear c7
            try clear c8
            try clear c9
            try clear c10
            try clear c10b0
            try clear c14
            try clear c14b0
            try clear c16
            try clear c20
            try clear c20b0
            try clear c20b1
            try clear c25
            try clear c30
            try clear c30b0
            try clear c35
            try clear c35b0
            try clear c35b1
            try clear c37
            try clear c37b0
            try clear c37b1
            try clear c37b2
            try clear c38
            try clear c39
            try clear c39b0
            try clear c42
            try clear c44
            try clear c44b0
            try clear c44b1
            try clear c45
            try clear c47
            try clear c48
            try clear c48b0
            try clear c48b1
            try clear c49
            try clear c49b0
            try clear c49b1
            try clear c50
            try clear c52
            try clear c52b0
            try clear c52b1
            try clear c55
            try clear c55b0
            try clear c55b1
            try clear c59
            try clear c60
            try clear c60b0
            try clear c60b1
            try clear c62
            try clear c63
            try clear c63b0
            try clear c63b1
            try clear c66
            try clear c68
            try clear c68b0
            try clear c68b1
            try clear c69
            try clear c71
            try clear c71b0
            try clear c71b1
            try clear c71b2
            try clear c72
            try clear c72b0
            try clear c72b1
            try clear c73
            try clear c73b0
            try clear c73b1
            try clear c74
            try clear c74b0
            try clear c74b1
            try clear c76
            try clear c76b0
            try clear c76b1
            try clear c77
            try clear c77b0
            try clear c81
            try clear c81b0
            try clear c81b1
            try clear c82
            try clear c82b0
            try clear c87
            try clear c88
            try clear c88b0
            try clear c88b1
            try clear c90
            try clear c90b0
            try clear c90b1
            try clear c90b2
            try clear c91
            try clear c92
            try clear c92b0
            try clear c95
            try clear hcz11_0
            try clear hcz11_1
            try clear hcz11_2
            try clear hcz11_3
            try clear hcz12_0
            try clear hcz12_1
            try clear hcz12_2
            try clear hcz12_3
            try clear hcz15_0
            try clear hcz15_1
            try clear hcz15_2
            try clear hcz15_3
            try clear hcz16_0
            try clear hcz16_1
            try clear hcz16_2
            try clear hcz16_3
            try clear hcz18_0
            try clear hcz18_1
            try clear hcz18_2
            try clear hcz18_3
            try clear hcz22_0
            try clear hcz22_1
            try clear hcz22_2
            try clear hcz22_3
            try clear hcz24_0
            try clear hcz24_1
            try clear hcz24_2
            try clear hcz24_3
            try clear hcz27_0
            try clear hcz27_1
            try clear hcz27_2
            try clear hcz27_3
            try clear hcz31_0
            try clear hcz31_1
            try clear hcz31_2
            try clear hcz31_3
            try clear hcz32_0
            try clear hcz32_1
            try clear hcz32_2
            try clear hcz32_3
            try clear hcz34_0
            try clear hcz34_1
            try clear hcz34_2
            try clear hcz34_3
            try clear hcz40_0
            try clear hcz40_1
            try clear hcz40_2
            try clear hcz40_3
            try clear hcz41_0
            try clear hcz41_1
            try clear hcz41_2
            try clear hcz41_3
            try clear hcz51_0
            try clear hcz51_1
            try clear hcz51_2
            try clear hcz51_3
            try clear hcz53_0
            try clear hcz53_1
            try clear hcz53_2
            try clear hcz53_3
            try clear hcz54_0
            try clear hcz54_1
            try clear hcz54_2
            try clear hcz54_3
            try clear hcz56_0
            try clear hcz56_1
            try clear hcz56_2
            try clear hcz56_3
            try clear hcz57_0
            try clear hcz57_1
            try clear hcz57_2
            try clear hcz57_3
            try clear hcz58_0
            try clear hcz58_1
            try clear hcz58_2
            try clear hcz58_3
            try clear hcz5_0
            try clear hcz5_1
            try clear hcz5_2
            try clear hcz5_3
            try clear hcz64_0
            try clear hcz64_1
            try clear hcz64_2
            try clear hcz64_3
            try clear hcz65_0
            try clear hcz65_1
            try clear hcz65_2
            try clear hcz65_3
            try clear hcz75_0
            try clear hcz75_1
            try clear hcz75_2
            try clear hcz75_3
            try clear hcz78_0
            try clear hcz78_1
            try clear hcz78_2
            try clear hcz78_3
            try clear hcz79_0
            try clear hcz79_1
            try clear hcz79_2
            try clear hcz79_3
            try clear hcz80_0
            try clear hcz80_1
            try clear hcz80_2
            try clear hcz80_3
            try clear hcz83_0
            try clear hcz83_1
            try clear hcz83_2
            try clear hcz83_3
            try clear hcz84_0
            try clear hcz84_1
            try clear hcz84_2
            try clear hcz84_3
            try clear hcz85_0
            try clear hcz85_1
            try clear hcz85_2
            try clear hcz85_3
            try clear hcz86_0
            try clear hcz86_1
            try clear hcz86_2
            try clear hcz86_3
            try clear hcz93_0
            try clear hcz93_1
            try clear hcz93_2
            try clear hcz93_3
            try clear hcz94_0
            try clear hcz94_1
            try clear hcz94_2
            try clear hcz94_3
            try clear hcz9_0
            try clear hcz9_1
            try clear hcz9_2
            try clear hcz9_3
            try clear hfz11_0
            try clear hfz11_1
            try clear hfz11_2
            try clear hfz11_3
            try clear hfz12_0
            try clear hfz12_1
            try clear hfz12_2
            try clear hfz12_3
            try clear hfz15_0
            try clear hfz15_1
            try clear hfz15_2
            try clear hfz15_3
            try clear hfz16_0
            try clear hfz16_1
            try clear hfz16_2
            try clear hfz16_3
            try clear hfz18_0
            try clear hfz18_1
            try clear hfz18_2
            try clear hfz18_3
            try clear hfz22_0
            try clear hfz22_1
            try clear hfz22_2
            try clear hfz22_3
            try clear hfz24_0
            try clear hfz24_1
            try clear hfz24_2
            try clear hfz24_3
            try clear hfz27_0
            try clear hfz27_1
            try clear hfz27_2
            try clear hfz27_3
            try clear hfz31_0
            try clear hfz31_1
            try clear hfz31_2
            try clear hfz31_3
            try clear hfz32_0
            try clear hfz32_1
            try clear hfz32_2
            try clear hfz32_3
            try clear hfz34_0
            try clear hfz34_1
            try clear hfz34_2
            try clear hfz34_3
            try clear hfz40_0
            try clear hfz40_1
            try clear hfz40_2
            try clear hfz40_3
            try clear hfz41_0
            try clear hfz41_1
            try clear hfz41_2
            try clear hfz41_3
            try clear hfz51_0
            try clear hfz51_1
            try clear hfz51_2
            try clear hfz51_3
            try clear hfz53_0
            try clear hfz53_1
            try clear hfz53_2
            try clear hfz53_3
            try clear hfz54_0
            try clear hfz54_1
            try clear hfz54_2
            try clear hfz54_3
            try clear hfz56_0
            try clear hfz56_1
            try clear hfz56_2
            try clear hfz56_3
            try clear hfz57_0
            try clear hfz57_1
            try clear hfz57_2
            try clear hfz57_3
            try clear hfz58_0
            try clear hfz58_1
            try clear hfz58_2
            try clear hfz58_3
            try clear hfz5_0
            try clear hfz5_1
            try clear hfz5_2
            try clear hfz5_3
            try clear hfz64_0
            try clear hfz64_1
            try clear hfz64_2
            try clear hfz64_3
            try clear hfz65_0
            try clear hfz65_1
            try clear hfz65_2
            try clear hfz65_3
            try clear hfz75_0
            try clear hfz75_1
            try clear hfz75_2
            try clear hfz75_3
            try clear hfz78_0
            try clear hfz78_1
            try clear hfz78_2
            try clear hfz78_3
            try clear hfz79_0
            try clear hfz79_1
            try clear hfz79_2
            try clear hfz79_3
            try clear hfz80_0
            try clear hfz80_1
            try clear hfz80_2
            try clear hfz80_3
            try clear hfz83_0
            try clear hfz83_1
            try clear hfz83_2
            try clear hfz83_3
            try clear hfz84_0
            try clear hfz84_1
            try clear hfz84_2
            try clear hfz84_3
            try clear hfz85_0
            try clear hfz85_1
            try clear hfz85_2
            try clear hfz85_3
            try clear hfz86_0
            try clear hfz86_1
            try clear hfz86_2
            try clear hfz86_3
            try clear hfz93_0
            try clear hfz93_1
            try clear hfz93_2
            try clear hfz93_3
            try clear hfz94_0
            try clear hfz94_1
            try clear hfz94_2
            try clear hfz94_3
            try clear hfz9_0
            try clear hfz9_1
            try clear hfz9_2
            try clear hfz9_3
            try clear p2
            obtain ⟨kq, x8_32, rfl, HA, HJ32, HO_208003, BK207, HB⟩ := hcut
            cases kq with
            | zero => exact absurd HA.out (by simp [handshakerlaw08_CodeOne.j11])
            | succ kj32 =>
             have H := HA.out
             clear HA
             simp only [handshakerlaw08_CodeOne.j11] at H
             obtain ⟨y213, hy213⟩ : ∃ y_ : List (S37), y_ = (([(⟨a0_0, a0_1, a0_2, l0_3⟩ : S37)] : List (S37))) := ⟨_, rfl⟩
             replace H : ((code_Check.f kj32 y213).bind fun t216 => (if t216 = x8_32 then ((handshakerlaw08_awake.f kj32).bind fun t217 => (some t217)) else (some false))) = some r := by first | (rw [hy213]; with_reducible exact H) | (have H2_ := (Option.bind_some _ _).symm.trans H; rw [hy213]; with_reducible exact H2_) | (have H2_ := (Option.bind_some _ _).symm.trans H; with_reducible exact H2_) | with_reducible exact H | (rw [hy213]; exact H) | exact H
             have Ny213 := Aside0.mk hy213
             clear hy213
             replace H := Option.bind_eq_some_iff.mp H
             obtain ⟨t216, A960, H⟩ := H
             replace H : (if t216 = x8_32 then ((handshakerlaw08_awake.f kj32).bind fun t217 => (some t217)) else (some false)) = some r := H
             have A96 := Aside0.mk A960
             clear A960
             by_cases c97 : t216 = x8_32
             · rw [if_pos c97] at H
               have c97b0 : (t216 == x8_32) = true := beq_iff_eq.mpr c97
               have c97b1 : (t216 != x8_32) = false := bne_eq_false_iff_eq.mpr c97
               clear c97
               replace H := Option.bind_eq_some_iff.mp H
               obtain ⟨t217, A980, H⟩ := H
               replace H : (some t217) = some r := H
               have A98 := Aside0.mk A980
               clear A980
               obtain rfl := Option.some.inj H
               have hcz99_0 : wc.cell? ⟨gb207, 0, none⟩ = some (.int .i64 a0_0) := (blk_cell BK207.out 0).trans rfl
               have hcz99_1 : wc.cell? ⟨gb207, 1, none⟩ = some (.int .i64 a0_1) := (blk_cell BK207.out 1).trans rfl
               have hcz99_2 : wc.cell? ⟨gb207, 2, none⟩ = some (.int .i64 a0_2) := (blk_cell BK207.out 2).trans rfl
               have hcz99_3 : wc.cell? ⟨gb207, 3, none⟩ = some (.slice A0_3 l0_3.length c0_3) := (blk_cell BK207.out 3).trans rfl
               have hfz99_0 := blk_frozen BK207.out 0
               have hfz99_1 := blk_frozen BK207.out 1
               have hfz99_2 := blk_frozen BK207.out 2
               have hfz99_3 := blk_frozen BK207.out 3
               go_wp2_with (first | ((with_reducible refine gate_dst (N := 158) rfl ?_); (try (refine gate_guard (by rfl) ?_; dsimp only)); refine Kd.N_lit k37 _ 37 ?hg (N' := 158) ?hd (xs := ([(⟨a0_0, a0_1, a0_2, l0_3⟩ : S37)] : List (S37))) (inner := [.int .i64 a0_0, .int .i64 a0_1, .int .i64 a0_2, .slice A0_3 l0_3.length c0_3]) (ok := (fun k_ => (P0_3_ k_ ∨ w.heap.size ≤ k_) ∧ k_ ≠ gb207)) (okp := (fun k_ => (P0_3_ k_ ∨ w.heap.size ≤ k_) ∧ k_ ≠ gb207)) ?hr ?hp (fun _ hk => hk) ((show ∀ k_, wc.heap.size ≤ k_ → (fun k_ => (P0_3_ k_ ∨ w.heap.size ≤ k_) ∧ k_ ≠ gb207) k_ from fun k_ hk => ⟨(.inr (Nat.le_trans (below_size (by repeat (with_reducible first | exact HB.out | apply below_alloc | apply pw_below_drewN | apply below_drew1 | refine below_set ?_ GE207.out))) hk)), Kd.freshB (g := gb207) (o := .cells #[.int .i64 a0_0, .int .i64 a0_1, .int .i64 a0_2, .slice A0_3 l0_3.length c0_3] 37 (0, 0)) (by (with_reducible repeat (first | refine blk_drewN ?_ _ | refine blk_drew ?_ | refine blk_alloc ?_ _)); exact BK207.out) k_ hk⟩) _ (Nat.le_refl _)) (Below.refl _ _) (Nat.le_refl _) (by simp) ?_; (case hd => rfl); (case hg => rfl); (case hr => first | (go_simp; done) | (go_simp; rfl)); (case hp => exact (Reps.c4 (show Kd.FK k37 _ _ (⟨a0_0, a0_1, a0_2, l0_3⟩ : S37) [.int .i64 a0_0, .int .i64 a0_1, .int .i64 a0_2, .slice A0_3 l0_3.length c0_3] from (k37_mkF _ _ (⟨a0_0, a0_1, a0_2, l0_3⟩ : S37) (Kd.V_reads' (Kd.V_mono (ok' := (fun k_ => (P0_3_ k_ ∨ w.heap.size ≤ k_) ∧ k_ ≠ gb207)) (HO_208003.out) (fun k_ hk => ⟨hk.1, hk.2⟩))).2.1 (Kd.V_F (Kd.V_mono (ok' := (fun k_ => (P0_3_ k_ ∨ w.heap.size ≤ k_) ∧ k_ ≠ gb207)) (HO_208003.out) (fun k_ hk => ⟨hk.1, hk.2⟩))))) (Reps.none _ _))); intro v214 w100 ho101 hb hg_ hnew_; clear hg_ hnew_; (first | rw [← Ny213.out] at ho101 | (simp only [Int.reduceToNat] at ho101; rw [← Ny213.out] at ho101)); have n0_ := Aside0.mk (Kd.V_elder' (by (with_reducible repeat (first | apply Kd.V_alloc | apply Kd.V_drewN | apply Kd.V_drew)); exact HO_208003.out) (Kd.N_base ho101) hb); have n1_ := Aside0.mk (Kd.N_lower ho101 (below_size (by repeat (with_reducible first | exact HB.out | apply below_alloc | apply pw_below_drewN | apply below_drew1 | refine below_set ?_ GE207.out)))); have n2_ := Aside0.mk (blk_below (g := gb207) (o := .cells #[.int .i64 a0_0, .int .i64 a0_1, .int .i64 a0_2, .slice A0_3 l0_3.length c0_3] 37 (0, 0)) (by (with_reducible repeat (first | refine blk_drewN ?_ _ | refine blk_drew ?_ | refine blk_alloc ?_ _)); exact BK207.out) hb); have n3_ := Aside0.mk (below_step (by repeat (with_reducible first | exact HB.out | apply below_alloc | apply pw_below_drewN | apply below_drew1 | refine below_set ?_ GE207.out)) hb); clear HO_208003; clear BK207; clear HB; have HO_208003 := n0_; have HO215 := n1_; have BK207 := n2_; have HB := n3_; clear n0_ n1_ n2_ n3_; clear hb ho101; obtain ⟨Ao102, co102, eo102⟩ := Kd.N_slice HO215.out; subst eo102) | ((with_reducible refine gate_callee (f := 18) rfl ?_); refine goesL_ (some 159) rfl rfl Try.func18 (by kernel_rfl) rfl #[.slice Ao102 y213.length co102] rfl (by (try simp only [List.map_toArray, List.map_cons, List.map_nil]); first | done | rfl) ?_; (with_reducible refine (code_Check.calls kj32 _ _ y213 t216 _ ?side1 ?side2 A96.out).mono ?_); (case side1 => repeat (first | exact (Kd.N_reads' HO215.out).2.2 | with_reducible first | refine Kd.C_alloc ?_ _ | refine Kd.C_drewN ?_ _ | refine Kd.C_drew ?_)); (case side2 => exact (Kd.N_reads' HO215.out).2.1); rintro e w103 ⟨rfl, hb⟩; refine ⟨_, rfl, ?_⟩; have n0_ := Aside0.mk (Kd.V_below (by (with_reducible repeat (first | apply Kd.V_alloc | apply Kd.V_drewN | apply Kd.V_drew)); exact HO_208003.out) hb); have n1_ := Aside0.mk (Kd.N_below (by (with_reducible repeat (first | apply Kd.N_alloc | apply Kd.N_drewN | apply Kd.N_drew)); exact HO215.out) hb); have n2_ := Aside0.mk (blk_below (g := gb207) (o := .cells #[.int .i64 a0_0, .int .i64 a0_1, .int .i64 a0_2, .slice A0_3 l0_3.length c0_3] 37 (0, 0)) (by (with_reducible repeat (first | refine blk_drewN ?_ _ | refine blk_drew ?_ | refine blk_alloc ?_ _)); exact BK207.out) hb); have n3_ := Aside0.mk (below_step (by repeat (with_reducible first | exact HB.out | apply below_alloc | apply pw_below_drewN | apply below_drew1 | refine below_set ?_ GE207.out)) hb); clear HO_208003; clear HO215; clear BK207; clear HB; have HO_208003 := n0_; have HO215 := n1_; have BK207 := n2_; have HB := n3_; clear n0_ n1_ n2_ n3_; (try clear hb); (try clear hb2); (try clear hk); (try clear hi)) | (go_at_call 16; (with_reducible refine (handshakerlaw08_awake.calls kj32  t217 _ A98.out).mono ?_); rintro e w104 ⟨rfl, hb⟩; have n0_ := Aside0.mk (Kd.V_below (by (with_reducible repeat (first | apply Kd.V_alloc | apply Kd.V_drewN | apply Kd.V_drew)); exact HO_208003.out) hb); have n1_ := Aside0.mk (Kd.N_below (by (with_reducible repeat (first | apply Kd.N_alloc | apply Kd.N_drewN | apply Kd.N_drew)); exact HO215.out) hb); have n2_ := Aside0.mk (blk_below (g := gb207) (o := .cells #[.int .i64 a0_0, .int .i64 a0_1, .int .i64 a0_2, .slice A0_3 l0_3.length c0_3] 37 (0, 0)) (by (with_reducible repeat (first | refine blk_drewN ?_ _ | refine blk_drew ?_ | refine blk_alloc ?_ _)); exact BK207.out) hb); have n3_ := Aside0.mk (below_step (by repeat (with_reducible first | exact HB.out | apply below_alloc | apply pw_below_drewN | apply below_drew1 | refine below_set ?_ GE207.out)) hb); clear HO_208003; clear HO215; clear BK207; clear HB; have HO_208003 := n0_; have HO215 := n1_; have BK207 := n2_; have HB := n3_; clear n0_ n1_ n2_ n3_; (try clear hb); (try clear hb2); (try clear hk); (try clear hi)))
               go_ret
               exact ⟨by first | rfl | (simp [errW_none, errW_some] <;> rfl) | (simp [*, errW_none, errW_some] <;> rfl), by repeat (with_reducible first | exact HB.out | apply below_alloc | apply pw_below_drewN | apply below_drew1 | refine below_set ?_ GE207.out)⟩
             · rw [if_neg c97] at H
               have c97b0 : (t216 == x8_32) = false := beq_eq_false_iff_ne.mpr c97
               have c97b1 : (t216 != x8_32) = true := bne_iff_ne.mpr c97
               exact absurd (Option.some.inj H) (by rw [HT.out]; decide)

/-- THE ONE PURE STATEMENT of handshakerlaw08_CodeOne. -/
def handshakerlaw08_CodeOne.Pure : Prop := ∀ (x0 : S37), wfS37 x0 → ∃ k, handshakerlaw08_CodeOne.f k x0.f0 x0.f1 x0.f2 x0.f3 = some true

end Go.Proofs.Ytbcpnbmegaodbaa.Co
