/-
  PROVED: a step alone is a code just if it is one of the table, but a Skip or an Either, for every step. Condition: the argument is of its kind; nothing else.
-/
import Derived.Test.YtbcpnbmegaodbaaCoLem
import Derived.Test.YtbcpnbmegaodbaaCoCode
import Derived.Test.YtbcpnbmegaodbaaCox5
namespace Go.Proofs.Ytbcpnbmegaodbaa.Co
open Go.RowKit Go.Proofs.YtbcpnbmegaodbaaW.PrintWords Go.Proofs.YtbcpnbmegaodbaaW.PrintLast Go.Proofs.YtbcpnbmegaodbaaW.PrintMore Go.Proofs.Ytbcpnbmegaodbaa.Ho
set_option linter.unusedVariables false
set_option linter.unusedSimpArgs false
def wantO (s : S37) : Int := if mayC s = true then (if s.f0 = 4 ∨ s.f0 = 7 then 2 else 0) else 1
theorem checkC_one (s : S37) : checkC [s] = wantO s := by
  unfold checkC wantO
  by_cases hm : mayC s = true
  · rw [if_pos hm, if_pos ⟨by simp, by simp [mayAllC, hm]⟩, deepT]
    by_cases h7 : s.f0 = 7
    · obtain ⟨a1, a2, b1, b2⟩ := mayC_either hm h7
      rw [if_pos h7, if_pos (by simp; omega), if_pos (.inr h7)]
    · rw [if_neg h7]
      by_cases h4 : s.f0 = 4
      · obtain ⟨a1, a2⟩ := mayC_skip hm h4
        rw [if_pos ⟨h4, by simp; omega⟩, if_pos (.inl h4)]
      · rw [if_neg (fun e => h4 e.1), deepT_nil, if_neg (by omega)]; rfl
  · rw [if_neg hm, if_neg (by simp [mayAllC, hm])]
theorem ge_ltG (g : Bool → Option Bool) (a lo hi : Int) : (if a ≥ lo then g (decide (a < hi)) else g false) = g (btw a lo (hi - 1)) := by
  unfold btw
  by_cases h : a ≥ lo
  · rw [if_pos h]; congr 1; rw [decide_eq_decide]; omega
  · rw [if_neg h]; congr 1; symm; rw [decide_eq_false_iff_not]; omega
theorem ge_leG (g : Bool → Option Bool) (a lo hi : Int) : (if a ≥ lo then g (decide (a ≤ hi)) else g false) = g (btw a lo hi) := by
  unfold btw
  by_cases h : a ≥ lo
  · rw [if_pos h]; congr 1; rw [decide_eq_decide]; omega
  · rw [if_neg h]; congr 1; symm; rw [decide_eq_false_iff_not]; omega
theorem one_j11 (f0 f1 f2 : Int) (l : List S41) (k : Nat) (w : Int) (hk : 100 ≤ k) (hw : w = wantO ⟨f0, f1, f2, l⟩) : handshakerlaw08_CodeOne.j11 k w f0 f1 f2 l = some true := by
  obtain ⟨k, rfl⟩ : ∃ m, k = m + 1 := ⟨k - 1, by omega⟩
  simp only [handshakerlaw08_CodeOne.j11]
  rw [CheckC_f k _ (by omega), checkC_one]
  simp only [Option.bind_some]
  rw [if_pos hw.symm, awake8 k (by omega)]; rfl
theorem one_j3 (f0 f1 f2 : Int) (l : List S41) (k : Nat) (hk : 120 ≤ k) :
    handshakerlaw08_CodeOne.j3 k (btw f1 0 7) (btw f1 0 63) ((l.length : Int) == 0) (reckB l) (btw f1 1 24) f0 f1 f2 l = some true := by
  obtain ⟨k, rfl⟩ : ∃ m, k = m + 10 := ⟨k - 10, by omega⟩
  have J := fun k w => one_j11 f0 f1 f2 l k w
  have hz : ((l.length : Int) == 0) = (l.length == 0) := by
    rw [Bool.eq_iff_iff]; simp
  rw [hz]
  simp only [handshakerlaw08_CodeOne.j3]
  by_cases h1 : f0 = 1
  · subst h1
    rw [if_pos rfl]
    have e := ge_ltG (fun b => handshakerlaw08_CodeOne.j4 (k + 9) 1 b 1 f1 f2 l) f2 0 64
    simp only [Int.reduceSub] at e
    rw [e]
    simp only [handshakerlaw08_CodeOne.j4]
    have hw : wantO ⟨1, f1, f2, l⟩ = if (l.length == 0 && btw f1 0 7 && btw f2 0 63) = true then 0 else 1 := by unfold wantO mayC; simp
    generalize (l.length == 0) = z at *
    generalize btw f1 0 7 = b1 at *
    generalize btw f2 0 63 = b2 at *
    cases z <;> cases b1 <;> cases b2 <;> simp only [Bool.false_eq_true, if_true, if_false] <;> exact J _ _ (by omega) (by rw [hw]; rfl)
  rw [if_neg h1]
  simp only [handshakerlaw08_CodeOne.j5]
  by_cases h2 : f0 = 2
  · subst h2
    have hw : wantO ⟨2, f1, f2, l⟩ = if (btw f1 0 7 && f2 == 0 && reckB l) = true then 0 else 1 := by unfold wantO mayC; simp
    rw [if_pos rfl]
    simp only [handshakerlaw08_CodeOne.j6, Int.reduceEq, Int.reduceBEq, BEq.rfl, if_true, if_false, Bool.false_eq_true]
    generalize reckB l = r at *
    generalize btw f1 0 7 = b1 at *
    by_cases e2 : f2 = 0
    · rw [if_pos e2]
      rw [show (f2 == 0) = true from by simp [e2]] at hw
      cases r <;> cases b1 <;> simp only [Bool.false_eq_true, if_true, if_false] <;> exact J _ _ (by omega) (by rw [hw]; rfl)
    · rw [if_neg e2]
      rw [show (f2 == 0) = false from by simp [e2]] at hw
      cases r <;> cases b1 <;> simp only [Bool.false_eq_true, if_true, if_false] <;> exact J _ _ (by omega) (by rw [hw]; rfl)
  rw [if_neg h2]
  by_cases h3 : f0 = 3
  · subst h3
    have hw : wantO ⟨3, f1, f2, l⟩ = if (btw f1 0 63 && f2 == 0 && reckB l) = true then 0 else 1 := by unfold wantO mayC; simp
    simp only [handshakerlaw08_CodeOne.j6, Int.reduceEq, Int.reduceBEq, BEq.rfl, if_true, if_false, Bool.false_eq_true]
    generalize reckB l = r at *
    generalize btw f1 0 63 = b1 at *
    by_cases e2 : f2 = 0
    · rw [if_pos e2]
      rw [show (f2 == 0) = true from by simp [e2]] at hw
      cases r <;> cases b1 <;> simp only [Bool.false_eq_true, if_true, if_false] <;> exact J _ _ (by omega) (by rw [hw]; rfl)
    · rw [if_neg e2]
      rw [show (f2 == 0) = false from by simp [e2]] at hw
      cases r <;> cases b1 <;> simp only [Bool.false_eq_true, if_true, if_false] <;> exact J _ _ (by omega) (by rw [hw]; rfl)
  rw [if_neg (by simp [h3])]
  by_cases h4 : f0 = 4
  · subst h4
    have hw : wantO ⟨4, f1, f2, l⟩ = if (btw f1 1 24 && f2 == 0 && reckB l) = true then 2 else 1 := by unfold wantO mayC; simp
    rw [if_pos rfl]
    simp only [handshakerlaw08_CodeOne.j7]
    generalize reckB l = r at *
    generalize btw f1 1 24 = b1 at *
    by_cases e2 : f2 = 0
    · rw [if_pos e2]
      rw [show (f2 == 0) = true from by simp [e2]] at hw
      cases r <;> cases b1 <;> simp only [Bool.false_eq_true, if_true, if_false] <;> exact J _ _ (by omega) (by rw [hw]; rfl)
    · rw [if_neg e2]
      rw [show (f2 == 0) = false from by simp [e2]] at hw
      cases r <;> cases b1 <;> simp only [Bool.false_eq_true, if_true, if_false] <;> exact J _ _ (by omega) (by rw [hw]; rfl)
  rw [if_neg h4]
  simp only [handshakerlaw08_CodeOne.j8]
  by_cases h5 : f0 = 5
  · subst h5
    have hw : wantO ⟨5, f1, f2, l⟩ = if (l.length == 0 && f1 == 0 && f2 == 0) = true then 0 else 1 := by unfold wantO mayC; simp
    rw [if_pos rfl]
    simp only [handshakerlaw08_CodeOne.j9, Int.reduceEq, Int.reduceBEq, BEq.rfl, if_true, if_false, Bool.false_eq_true]
    generalize (l.length == 0) = z at *
    by_cases e2 : f2 = 0 <;> by_cases e1 : f1 = 0
    all_goals
      first | rw [if_pos e2] | rw [if_neg e2]
      first | rw [if_pos e1] | rw [if_neg e1] | skip
      cases z <;> simp only [Bool.false_eq_true, if_true, if_false] <;> exact J _ _ (by omega) (by rw [hw]; simp [e1, e2])
  rw [if_neg h5]
  by_cases h6 : f0 = 6
  · subst h6
    have hw : wantO ⟨6, f1, f2, l⟩ = if (l.length == 0 && btw f1 0 255 && f2 == 0) = true then 0 else 1 := by unfold wantO mayC; simp
    have e := ge_ltG (fun b => handshakerlaw08_CodeOne.j9 (k + 7) 1 b 6 f1 f2 l) f1 0 256
    simp only [Int.reduceSub] at e
    simp only [Int.reduceEq, Int.reduceBEq, BEq.rfl, if_true, if_false, Bool.false_eq_true]
    rw [e]
    simp only [handshakerlaw08_CodeOne.j9]
    generalize (l.length == 0) = z at *
    generalize btw f1 0 255 = b1 at *
    by_cases e2 : f2 = 0
    · rw [if_pos e2]
      rw [show (f2 == 0) = true from by simp [e2]] at hw
      cases z <;> cases b1 <;> simp only [Bool.false_eq_true, if_true, if_false] <;> exact J _ _ (by omega) (by rw [hw]; rfl)
    · rw [if_neg e2]
      rw [show (f2 == 0) = false from by simp [e2]] at hw
      cases z <;> cases b1 <;> simp only [Bool.false_eq_true, if_true, if_false] <;> exact J _ _ (by omega) (by rw [hw]; rfl)
  rw [if_neg (by simp [h6])]
  by_cases h7 : f0 = 7
  · subst h7
    have hw : wantO ⟨7, f1, f2, l⟩ = if (l.length == 0 && btw f1 1 24 && btw f2 1 24) = true then 2 else 1 := by unfold wantO mayC; simp
    rw [if_pos rfl]
    have e := ge_leG (fun b => handshakerlaw08_CodeOne.j10 (k + 7) 1 b 7 f1 f2 l) f2 1 24
    rw [e]
    simp only [handshakerlaw08_CodeOne.j10]
    generalize (l.length == 0) = z at *
    generalize btw f1 1 24 = b1 at *
    generalize btw f2 1 24 = b2 at *
    cases z <;> cases b1 <;> cases b2 <;> simp only [Bool.false_eq_true, if_true, if_false] <;> exact J _ _ (by omega) (by rw [hw]; rfl)
  rw [if_neg h7]
  refine J _ _ (by omega) ?_
  unfold wantO mayC
  rw [if_neg h1, if_neg h2, if_neg h3, if_neg h4, if_neg h5, if_neg h6, if_neg h7, if_neg (by decide)]
theorem CodeOne : handshakerlaw08_CodeOne.Pure := by
  intro s _
  obtain ⟨f0, f1, f2, l⟩ := s
  refine ⟨200, ?_⟩
  generalize hK : (200 : Nat) = K
  obtain ⟨k, rfl⟩ : ∃ m, K = m + 3 := ⟨K - 3, by omega⟩
  unfold handshakerlaw08_CodeOne.f
  simp only
  by_cases hl : (l.length : Int) > 20
  · rw [if_pos hl, awake8 _ (by omega)]; rfl
  rw [if_neg hl]
  refine (ge_ltG (fun b => handshakerlaw08_CodeOne.j0 (k + 3) b f0 f1 f2 l) f1 0 8).trans ?_
  simp only [handshakerlaw08_CodeOne.j0]
  refine (ge_ltG (fun b => handshakerlaw08_CodeOne.j1 (k + 2) (btw f1 0 (8 - 1)) b f0 f1 f2 l) f1 0 64).trans ?_
  simp only [handshakerlaw08_CodeOne.j1]
  rw [Check_f (k + 1) l (by omega), Cells_f (k + 1) l (by omega)]
  simp only [Option.bind_some]
  have er : (if checkB l = 0 then handshakerlaw08_CodeOne.j2 (k + 1) (btw f1 0 (8 - 1)) (btw f1 0 (64 - 1)) ((l.length : Int) == 0) (((cellsB l).length : Int) == 0) f0 f1 f2 l else handshakerlaw08_CodeOne.j2 (k + 1) (btw f1 0 (8 - 1)) (btw f1 0 (64 - 1)) ((l.length : Int) == 0) false f0 f1 f2 l) = handshakerlaw08_CodeOne.j2 (k + 1) (btw f1 0 (8 - 1)) (btw f1 0 (64 - 1)) ((l.length : Int) == 0) (reckB l) f0 f1 f2 l := by
    unfold reckB
    by_cases h : checkB l = 0
    · rw [if_pos h, h]; simp
    · rw [if_neg h, show (checkB l == 0) = false from beq_eq_false_iff_ne.2 h]; rfl
  rw [er]
  simp only [handshakerlaw08_CodeOne.j2]
  refine (ge_leG (fun b => handshakerlaw08_CodeOne.j3 k (btw f1 0 (8 - 1)) (btw f1 0 (64 - 1)) ((l.length : Int) == 0) (reckB l) b f0 f1 f2 l) f1 1 24).trans ?_
  simp only [Int.reduceSub]
  exact one_j3 f0 f1 f2 l k (by omega)
end Go.Proofs.Ytbcpnbmegaodbaa.Co
namespace Go.Proofs.Ytbcpnbmegaodbaa.Pure
theorem CodeOne : Go.Proofs.Ytbcpnbmegaodbaa.Co.handshakerlaw08_CodeOne.Pure := Go.Proofs.Ytbcpnbmegaodbaa.Co.CodeOne
end Go.Proofs.Ytbcpnbmegaodbaa.Pure
