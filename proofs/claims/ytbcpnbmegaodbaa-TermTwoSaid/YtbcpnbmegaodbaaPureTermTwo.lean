/-
  PROVED: two terms that are told, with an operation of two behind, tell what it tells of both, and Not behind one tells whether it is 0, for every two terms, heap and registers. Condition: each argument is of its kind; nothing else.
-/
import Derived.Test.YtbcpnbmegaodbaaTcLem
import Derived.Test.YtbcpnbmegaodbaaTcLem2
import Derived.Test.YtbcpnbmegaodbaaTcx9
namespace Go.Proofs.Ytbcpnbmegaodbaa.Tc
open Go.RowKit Go.Proofs.YtbcpnbmegaodbaaW.PrintWords Go.Proofs.YtbcpnbmegaodbaaW.PrintLast Go.Proofs.YtbcpnbmegaodbaaW.PrintMore Go.Proofs.Ytbcpnbmegaodbaa.Ho
set_option linter.unusedVariables false
set_option linter.unusedSimpArgs false
theorem op_const {h : List S58} (hr : RightB h = true) {x y : Int} (hx : inR x = true) (hy : inR y = true) (kd : Int) (h4 : 4 ≤ kd) (h10 : kd ≤ 10) :
    evalB [⟨1, x⟩, ⟨1, y⟩, ⟨kd, 0⟩] h [] = (twoB kd x y, 0) := by
  have htk : takes kd = 2 := by unfold takes; rw [if_pos ⟨h4, h10⟩]
  refine evalB_of (checkB_of (by simp) (by simp) ?_ ?_) hr ?_
  · intro o ho
    simp only [List.mem_cons, List.not_mem_nil, or_false] at ho
    rcases ho with rfl | rfl | rfl
    · exact hx
    · exact hy
    · unfold mayB
      simp only [htk]
      rw [if_neg (by omega), if_neg (by omega), if_neg (by omega)]; rfl
  · have h1 : takes 1 = 0 := by decide
    simp [walkN, htk, h1]
  · have h1 : takes 1 = 0 := by decide
    simp [runT, stepB, htk, h1, leafB]
theorem op_not {a : List S41} {h : List S58} {regs : List Int} (ha5 : a.length ≤ 5) (ea : (evalB a h regs).2 = 0) :
    evalB (a ++ [⟨11, 0⟩]) h regs = (tru ((evalB a h regs).1 == 0), 0) := by
  obtain ⟨ca, hr, ra, _⟩ := evalB_ok ea
  obtain ⟨a1, a2, a3, a4⟩ := checkB_ok ca
  have htk : takes 11 = 1 := by decide
  refine evalB_of (checkB_of (by simp <;> omega) (by simp <;> omega) ?_ ?_) hr ?_
  · intro o ho
    simp only [List.mem_append, List.mem_singleton] at ho
    rcases ho with ho | rfl
    · exact a3 o ho
    · decide
  · rw [walkN_app, a4]
    simp [walkN, htk]
  · rw [runT_app, ra]
    simp only [runT, stepB, htk]
theorem two_l (a b : List S41) (h : List S58) (regs : List Int) (ha5 : a.length ≤ 5) (hb5 : b.length ≤ 5) (ea : (evalB a h regs).2 = 0) (eb : (evalB b h regs).2 = 0) (d : Nat) : ∀ (k i : Nat), 4 ≤ i → i ≤ 11 → 11 - i = d → d + 70 < k →
    handshakerlaw07_TermTwo.l0 k a h regs (evalB a h regs).1 (evalB b h regs).1 (a ++ b) (i : Int) = some true := by
  obtain ⟨ca, hr, _, xa⟩ := evalB_ok ea
  obtain ⟨cb, _, _, xb⟩ := evalB_ok eb
  induction d with
  | zero =>
    intro k i h4 hi hd hk
    obtain ⟨k, rfl⟩ : ∃ m, k = m + 1 := ⟨k - 1, by omega⟩
    simp only [handshakerlaw07_TermTwo.l0]
    rw [if_neg (by omega)]
    simp only [Eval_f k _ h _ (by omega), Check_f k _ (show 20 ≤ k by omega), Option.bind_some, List.nil_append, awake7 k (show 60 ≤ k by omega)]
    rw [if_pos (by simp; omega), if_pos (by omega)]
    simp only [op_not ha5 ea, both_form ha5 hb5 ca cb, if_true]
    by_cases h0 : (evalB a h regs).1 = 0
    · simp [h0, tru]
    · have : ((evalB a h regs).1 == 0) = false := by simpa using h0
      simp [h0, this, tru]
  | succ d ih =>
    intro k i h4 hi hd hk
    obtain ⟨k, rfl⟩ : ∃ m, k = m + 1 := ⟨k - 1, by omega⟩
    simp only [handshakerlaw07_TermTwo.l0]
    rw [if_pos (by omega)]
    simp only [Eval_f k _ h _ (show 20 ≤ k by omega), Option.bind_some, List.nil_append]
    rw [if_pos (by simp; omega), if_pos (by simp; omega)]
    simp only [op_two ha5 hb5 ea eb (i : Int) (by omega) (by omega), op_const hr xa xb (i : Int) (by omega) (by omega), if_true]
    rw [wrN (by omega)]
    exact ih k (i + 1) (by omega) (by omega) (by omega) (by omega)
theorem TermTwo : handshakerlaw07_TermTwo.Pure := by
  intro a b h regs _ _ _ _ _ _ _ _ _ _ _ _
  refine ⟨302, ?_⟩
  generalize hK : (302 : Nat) = K
  obtain ⟨K, rfl⟩ : ∃ q, K = q + 2 := ⟨K - 2, by omega⟩
  have aw : ∀ (c : Bool), c = true → handshakerlaw07_TermTwo.j0 (K + 2) a b h regs c = some true := by
    intro c hb
    simp only [handshakerlaw07_TermTwo.j0]
    rw [if_pos hb, awake7 _ (by omega)]; rfl
  unfold handshakerlaw07_TermTwo.f
  by_cases h1 : (a.length : Int) > 5
  · rw [if_pos h1]; exact aw _ rfl
  rw [if_neg h1]
  by_cases h2 : (b.length : Int) > 5
  · rw [if_pos h2]; exact aw _ rfl
  rw [if_neg h2]
  by_cases h3 : (h.length : Int) > 64
  · rw [if_pos h3]; exact aw _ rfl
  rw [if_neg h3]
  by_cases h4 : (regs.length : Int) > 8
  · exact aw _ (by simpa using h4)
  have aw1 : ∀ (x y : Int) (c : Bool), c = true → handshakerlaw07_TermTwo.j1 (K + 1) a b h regs x y c = some true := by
    intro x y c hb
    simp only [handshakerlaw07_TermTwo.j1]
    rw [if_pos hb, awake7 _ (by omega)]; rfl
  simp only [handshakerlaw07_TermTwo.j0]
  rw [if_neg (by simpa using h4), Eval_f _ _ _ _ (by omega), Eval_f _ _ _ _ (by omega)]
  simp only [Option.bind_some]
  by_cases ea : (evalB a h regs).2 = 0
  · rw [if_pos ea]
    by_cases eb : (evalB b h regs).2 = 0
    · simp only [handshakerlaw07_TermTwo.j1]
      rw [if_neg (by simp [eb])]
      simp only [Option.bind_some, List.nil_append]
      rw [if_pos (by simp; omega), if_pos (by omega)]
      exact two_l a b h regs (by omega) (by omega) ea eb 7 K 4 (by omega) (by omega) (by omega) (by omega)
    · exact aw1 _ _ _ (by simpa using eb)
  · rw [if_neg ea]; exact aw1 _ _ _ rfl
end Go.Proofs.Ytbcpnbmegaodbaa.Tc
namespace Go.Proofs.Ytbcpnbmegaodbaa.Pure
theorem TermTwo : Go.Proofs.Ytbcpnbmegaodbaa.Tc.handshakerlaw07_TermTwo.Pure := Go.Proofs.Ytbcpnbmegaodbaa.Tc.TermTwo
end Go.Proofs.Ytbcpnbmegaodbaa.Pure
