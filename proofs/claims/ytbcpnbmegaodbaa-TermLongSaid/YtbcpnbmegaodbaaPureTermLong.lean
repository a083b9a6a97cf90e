/-
  PROVED: a term of so many numbers that are all put together tells their sum, as deep as they are piled; thirteen operations are refused; for every two numbers and either way. Condition: each argument is of its kind; nothing else.
-/
import Derived.Test.YtbcpnbmegaodbaaTcLem
import Derived.Test.YtbcpnbmegaodbaaTcLem2
import Derived.Test.YtbcpnbmegaodbaaTcx10
namespace Go.Proofs.Ytbcpnbmegaodbaa.Tc
open Go.RowKit Go.Proofs.YtbcpnbmegaodbaaW.PrintWords Go.Proofs.YtbcpnbmegaodbaaW.PrintLast Go.Proofs.YtbcpnbmegaodbaaW.PrintMore Go.Proofs.Ytbcpnbmegaodbaa.Ho
set_option linter.unusedVariables false
set_option linter.unusedSimpArgs false
def lst (b : Bool) (c : Int) : Nat → List S41
  | 0 => []
  | i + 1 => lst b c i ++ [⟨1, c⟩] ++ (if b = false ∧ 0 < i then [⟨4, 0⟩] else [])
theorem lst_len (b : Bool) (c : Int) : ∀ i, (lst b c i).length ≤ 2 * i
  | 0 => by simp [lst]
  | i + 1 => by
    have := lst_len b c i
    simp only [lst]
    split <;> simp <;> omega
theorem long_l0 (a1 : Int) (b : Bool) (n K : Nat) (hn : n ≤ 7) (he : ∀ k, K < k → handshakerlaw07_TermLong.l1 k a1 b (n : Int) (lst b (wrap64 a1) n) (wrap64 ((n : Int) - 1)) 0 = some true) (d : Nat) : ∀ (k i : Nat), i ≤ n → n - i = d → d + K + 1 < k →
    handshakerlaw07_TermLong.l0 k a1 b (n : Int) (lst b (wrap64 a1) i) (n : Int) (i : Int) = some true := by
  induction d with
  | zero =>
    intro k i hi hd hk
    obtain ⟨k, rfl⟩ : ∃ m, k = m + 1 := ⟨k - 1, by omega⟩
    simp only [handshakerlaw07_TermLong.l0]
    rw [if_neg (by omega)]
    have : i = n := by omega
    rw [this]
    exact he k (by omega)
  | succ d ih =>
    intro k i hi hd hk
    obtain ⟨k, rfl⟩ : ∃ m, k = m + 1 := ⟨k - 1, by omega⟩
    have hl := lst_len b (wrap64 a1) i
    simp only [handshakerlaw07_TermLong.l0]
    rw [if_pos (by omega), if_pos (by omega)]
    simp only [Option.bind_some]
    have := ih k (i + 1) (by omega) (by omega) (by omega)
    simp only [lst] at this
    rw [wrN (by omega)]
    by_cases h0 : 0 < i
    · rw [if_pos (by omega)]
      cases b with
      | true =>
        rw [if_pos rfl]
        rw [if_neg (by simp), List.append_nil] at this
        exact this
      | false =>
        rw [if_neg (by decide), if_pos (by simp; omega)]
        rw [if_pos ⟨rfl, h0⟩] at this
        exact this
    · rw [if_neg (by omega)]
      rw [if_neg (fun e => h0 e.2), List.append_nil] at this
      exact this
def fin (b : Bool) (c : Int) (n : Nat) : List S41 := lst b c n ++ (if b = true then List.replicate (n - 1) ⟨4, 0⟩ else [])
theorem long_fin (c : Int) (hc : -32768 ≤ c ∧ c ≤ 32767) (b : Bool) (n : Nat) (h1 : 1 ≤ n) (h7 : n ≤ 7) : evalB (fin b c n) [⟨false, 0⟩] [] = (if n = 7 then (0, 1) else ((n : Int) * c, 0)) ∧ deepB (fin b c n) = (if n = 7 then 0 else if b = true then (n : Int) else if n < 2 then (n : Int) else 2) ∧ (n = 7 → (fin b c n).length = 13) := by
  have hr : RightB [⟨false, 0⟩] = true := by decide
  have t1 : takes 1 = 0 := by decide
  have t4 : takes 4 = 2 := by decide
  have hi : inR c = true := by simp [inR]; omega
  have m1 : mayB 1 c = true := hi
  have m4 : mayB 4 0 = true := by decide
  have hn : n = 1 ∨ n = 2 ∨ n = 3 ∨ n = 4 ∨ n = 5 ∨ n = 6 ∨ n = 7 := by omega
  rcases hn with rfl | rfl | rfl | rfl | rfl | rfl | rfl <;> cases b <;>
    simp [fin, lst, evalB, deepB, checkB, mayAll, m1, m4, hr, walkN, mostN, t1, t4, runT, stepB, leafB, endB, twoB, List.replicate] <;> (try unfold wrap32) <;> omega
theorem long_l1 (a1 : Int) (ha : -32768 ≤ a1 ∧ a1 ≤ 32767) (b : Bool) (n : Nat) (h1 : 1 ≤ n) (hn : n ≤ 7) (d : Nat) : ∀ (k j : Nat), j ≤ n - 1 → n - 1 - j = d → d + 70 < k →
    handshakerlaw07_TermLong.l1 k a1 b (n : Int) (lst b (wrap64 a1) n ++ (if b = true then List.replicate j ⟨4, 0⟩ else [])) (wrap64 ((n : Int) - 1)) (j : Int) = some true := by
  have hw : wrap64 ((n : Int) - 1) = ((n - 1 : Nat) : Int) := by rw [wr (by omega) (by omega)]; omega
  have hl := lst_len b (wrap64 a1) n
  have ha' : wrap64 a1 = a1 := wr (by omega) (by omega)
  induction d with
  | zero =>
    intro k j hj hd hk
    obtain ⟨k, rfl⟩ : ∃ m, k = m + 1 := ⟨k - 1, by omega⟩
    have : j = n - 1 := by omega
    subst this
    obtain ⟨e1, e2, e3⟩ := long_fin a1 ha b n h1 hn
    simp only [handshakerlaw07_TermLong.l1]
    rw [hw, if_neg (by omega), ha']
    have ef : lst b a1 n ++ (if b = true then List.replicate (n - 1) ⟨4, 0⟩ else []) = fin b a1 n := rfl
    simp only [ef, Eval_f k _ _ _ (show 20 ≤ k by omega), Deep_f k _ (show 20 ≤ k by omega), awake7 k (show 60 ≤ k by omega), Option.bind_some, e1, e2]
    by_cases h7 : n = 7
    · have h7' : (n : Int) = 7 := by omega
      rw [if_pos h7', if_pos (by have := e3 h7; omega)]
      simp [h7]
    · have h7' : ¬ (n : Int) = 7 := by omega
      have hm : wrap64 ((n : Int) * a1) = (n : Int) * a1 := by
        have hn : n = 1 ∨ n = 2 ∨ n = 3 ∨ n = 4 ∨ n = 5 ∨ n = 6 ∨ n = 7 := by omega
        rcases hn with rfl | rfl | rfl | rfl | rfl | rfl | rfl <;> exact wr (by omega) (by omega)
      rw [if_neg h7']
      cases b with
      | true => simp [h7, hm]
      | false =>
        simp only [h7, hm, if_false, if_true, Bool.false_eq_true]
        have : (if n < 2 then (n : Int) else 2) = mn (n : Int) 2 := by
          unfold mn
          by_cases h2 : n < 2
          · rw [if_pos h2, if_neg (by omega)]
          · rw [if_neg h2]
            split <;> omega
        rw [this, if_pos rfl]
  | succ d ih =>
    intro k j hj hd hk
    obtain ⟨k, rfl⟩ : ∃ m, k = m + 1 := ⟨k - 1, by omega⟩
    have := ih k (j + 1) (by omega) (by omega) (by omega)
    simp only [handshakerlaw07_TermLong.l1]
    rw [hw] at this ⊢
    rw [if_pos (by omega), wrN (by omega)]
    cases b with
    | true =>
      rw [if_pos rfl] at this ⊢
      rw [if_pos rfl, if_pos (by simp; omega)]
      rw [List.append_assoc, ← List.replicate_succ']
      exact this
    | false =>
      rw [if_neg (by decide)] at this ⊢
      rw [if_neg (by decide)]
      exact this
theorem TermLong : handshakerlaw07_TermLong.Pure := by
  intro a0 a1 b ha0 ha1
  have ha0' : 0 ≤ a0 ∧ a0 ≤ 255 := by simpa [Lit.wf, IntKind.bits, IntKind.signed, IntKind.min, IntKind.max] using ha0
  have ha1' : -32768 ≤ a1 ∧ a1 ≤ 32767 := by simpa [Lit.wf, IntKind.bits, IntKind.signed, IntKind.min, IntKind.max] using ha1
  refine ⟨302, ?_⟩
  generalize hK : (302 : Nat) = K
  unfold handshakerlaw07_TermLong.f
  have hq := tmod_rng (a := a0) (n := 7) (by omega) (by omega)
  have hw : wrap64 (1 + wrap64 (Int.tmod a0 7)) = ((1 + Int.tmod a0 7).toNat : Int) := by
    rw [wr (i := Int.tmod a0 7) (by omega) (by omega), wr (by omega) (by omega)]; omega
  rw [hw]
  generalize hn : (1 + Int.tmod a0 7).toNat = n
  refine long_l0 a1 b n 90 (by omega) (fun k hk => ?_) n K 0 (by omega) (by omega) (by omega)
  have := long_l1 a1 ha1' b n (by omega) (by omega) (n - 1) k 0 (by omega) (by omega) (by omega)
  have e : (if b = true then List.replicate 0 (⟨4, 0⟩ : S41) else []) = [] := by cases b <;> rfl
  rw [e, List.append_nil] at this
  exact this
end Go.Proofs.Ytbcpnbmegaodbaa.Tc
namespace Go.Proofs.Ytbcpnbmegaodbaa.Pure
theorem TermLong : Go.Proofs.Ytbcpnbmegaodbaa.Tc.handshakerlaw07_TermLong.Pure := Go.Proofs.Ytbcpnbmegaodbaa.Tc.TermLong
end Go.Proofs.Ytbcpnbmegaodbaa.Pure
