/-
  PROVED: of two terms that are told just one of equal, below and above holds, for every two terms, heap and registers. Condition: each argument is of its kind; nothing else.
-/
import Derived.Test.YtbcpnbmegaodbaaTcLem
import Derived.Test.YtbcpnbmegaodbaaTcLem2
import Derived.Test.YtbcpnbmegaodbaaTcx12
namespace Go.Proofs.Ytbcpnbmegaodbaa.Tc
open Go.RowKit Go.Proofs.YtbcpnbmegaodbaaW.PrintWords Go.Proofs.YtbcpnbmegaodbaaW.PrintLast Go.Proofs.YtbcpnbmegaodbaaW.PrintMore Go.Proofs.Ytbcpnbmegaodbaa.Ho
set_option linter.unusedVariables false
set_option linter.unusedSimpArgs false
theorem TermEqual : handshakerlaw07_TermEqual.Pure := by
  intro a b h regs _ _ _ _ _ _ _ _ _ _ _ _
  refine ⟨302, ?_⟩
  generalize hK : (302 : Nat) = K
  obtain ⟨K, rfl⟩ : ∃ q, K = q + 2 := ⟨K - 2, by omega⟩
  have aw : ∀ (c : Bool), c = true → handshakerlaw07_TermEqual.j0 (K + 2) a b h regs c = some true := by
    intro c hb
    simp only [handshakerlaw07_TermEqual.j0]
    rw [if_pos hb, awake7 _ (by omega)]; rfl
  unfold handshakerlaw07_TermEqual.f
  by_cases h1 : (a.length : Int) > 5
  · rw [if_pos h1]; exact aw _ rfl
  rw [if_neg h1]
  by_cases h2 : (b.length : Int) > 5
  · rw [if_pos h2]; exact aw _ rfl
  rw [if_neg h2]
  by_cases h3 : (h.length : Int) > 64
  · rw [if_pos h3]; exact aw _ rfl
  rw [if_neg h3]
  by_cases h4 : (regs.length : Int) > 8
  · exact aw _ (by simpa using h4)
  have aw1 : ∀ (x y : Int) (c : Bool), c = true → handshakerlaw07_TermEqual.j1 (K + 1) a b h regs x y c = some true := by
    intro x y c hb
    simp only [handshakerlaw07_TermEqual.j1]
    rw [if_pos hb, awake7 _ (by omega)]; rfl
  simp only [handshakerlaw07_TermEqual.j0]
  rw [if_neg (by simpa using h4), Eval_f _ _ _ _ (by omega), Eval_f _ _ _ _ (by omega)]
  simp only [Option.bind_some]
  by_cases ea : (evalB a h regs).2 = 0
  · rw [if_pos ea]
    by_cases eb : (evalB b h regs).2 = 0
    · simp only [handshakerlaw07_TermEqual.j1]
      rw [if_neg (by simp [eb])]
      simp only [Option.bind_some, List.nil_append, Eval_f K _ h _ (show 20 ≤ K by omega), awake7 K (show 60 ≤ K by omega)]
      have q1 := op_two (show a.length ≤ 5 by omega) (show b.length ≤ 5 by omega) ea eb 7 (by decide) (by decide)
      have q2 := op_two (show a.length ≤ 5 by omega) (show b.length ≤ 5 by omega) ea eb 8 (by decide) (by decide)
      have q3 := op_two (show b.length ≤ 5 by omega) (show a.length ≤ 5 by omega) eb ea 8 (by decide) (by decide)
      simp only [q1, q2, q3]
      generalize (evalB a h regs).1 = x
      generalize (evalB b h regs).1 = y
      have hl : ∀ (p q : List S41), p.length ≤ 5 → q.length ≤ 5 → (p ++ q).length < 8796093022208 := by
        intro p q hp hq; simp; omega
      have e1 := hl a b (by omega) (by omega)
      have e2 := hl b a (by omega) (by omega)
      simp only [List.length_nil, Nat.zero_add, e1, e2, if_true]
      have e3 : ∀ p q : List S41, p.length ≤ 5 → q.length ≤ 5 → p.length + q.length < 8796093022208 := by intro p q hp hq; omega
      have e4 : a.length < 8796093022208 := by omega
      have e5 : b.length < 8796093022208 := by omega
      simp only [e3 a b (by omega) (by omega), e3 b a (by omega) (by omega), e4, e5, if_true]
      have t7 : twoB 7 x y = tru (x == y) := rfl
      have t8 : ∀ u v, twoB 8 u v = tru (decide (u < v)) := fun _ _ => rfl
      rw [t7, t8, t8]
      have c3 : wrap64 1 = 1 := by unfold wrap64; omega
      have c4 : wrap64 0 = 0 := by unfold wrap64; omega
      have c0 : wrap64 (wrap64 (1 + 0) + 0) = 1 := by unfold wrap64; omega
      have c1 : wrap64 (wrap64 (0 + 1) + 0) = 1 := by unfold wrap64; omega
      have c2 : wrap64 (wrap64 (0 + 0) + 1) = 1 := by unfold wrap64; omega
      rcases Int.lt_trichotomy x y with hlt | heq | hgt
      · have n1 : (x == y) = false := by simp; omega
        have n2 : ¬ y < x := by omega
        have n3 : ¬ x = y := by omega
        simp [n1, hlt, n2, n3, tru, c1, c3, c4]
      · subst heq
        simp [tru, c0, c3, c4]
      · have n1 : (x == y) = false := by simp; omega
        have n2 : ¬ x < y := by omega
        have n3 : ¬ x = y := by omega
        simp [n1, hgt, n2, n3, tru, c2, c3, c4]
    · exact aw1 _ _ _ (by simpa using eb)
  · rw [if_neg ea]; exact aw1 _ _ _ rfl
end Go.Proofs.Ytbcpnbmegaodbaa.Tc
namespace Go.Proofs.Ytbcpnbmegaodbaa.Pure
theorem TermEqual : Go.Proofs.Ytbcpnbmegaodbaa.Tc.handshakerlaw07_TermEqual.Pure := Go.Proofs.Ytbcpnbmegaodbaa.Tc.TermEqual
end Go.Proofs.Ytbcpnbmegaodbaa.Pure
