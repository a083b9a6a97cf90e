/-
  PROVED: a set takes 24 reads of unlike cells, and no more, for every three numbers. Condition: each argument is of its kind; nothing else.
-/
import Derived.Test.YtlfmobnmohnjmaaRLem
import Derived.Test.YtlfmobnmohnjmaaRRef
import Derived.Test.YtlfmobnmohnjmaaRMore
import Derived.Test.YtlfmobnmohnjmaaRx3
import Derived.Test.YtlfmobnmohnjmaaRx13
namespace Go.Proofs.Ytlfmobnmohnjmaa.R
open Go.RowKit Go.Proofs.YtlfmobnmohnjmaaW.PrintWords Go.Proofs.YtlfmobnmohnjmaaW.PrintLast Go.Proofs.YtlfmobnmohnjmaaW.PrintMore Go.Proofs.Ytlfmobnmohnjmaa.Ho
set_option linter.unusedVariables false
set_option linter.unusedSimpArgs false
def rdF (a0 a1 a2 : Int) (i : Nat) : S24 := ⟨a0 + 7 * i, a1 + i, a2⟩
def LF (a0 a1 a2 : Int) (n : Nat) : List S24 := (List.range n).map (rdF a0 a1 a2)
theorem LF_len (a0 a1 a2 : Int) (n : Nat) : (LF a0 a1 a2 n).length = n := by simp [LF]
theorem LF_at (a0 a1 a2 : Int) (n i : Nat) (h : i < n) : (LF a0 a1 a2 n).getD i z24 = rdF a0 a1 a2 i := by
  unfold LF
  rw [List.getD_eq_getElem?_getD, List.getElem?_map, List.getElem?_range h]; rfl
theorem LF_ok {a0 a1 a2 : Int} (h0 : 0 ≤ a0 ∧ a0 ≤ 65535) (h1 : 0 ≤ a1 ∧ a1 ≤ 65535) (h2 : -32768 ≤ a2 ∧ a2 ≤ 32767) (i : Nat) (hi : i < 24) : okR (rdF a0 a1 a2 i) = true := by
  rw [okR_eq]
  unfold rdF tickB inR
  simp only [decide_eq_true_eq]
  omega
theorem LF_right {a0 a1 a2 : Int} (h0 : 0 ≤ a0 ∧ a0 ≤ 65535) (h1 : 0 ≤ a1 ∧ a1 ≤ 65535) (h2 : -32768 ≤ a2 ∧ a2 ≤ 32767) (n : Nat) (hn : n ≤ 24) : rightR (LF a0 a1 a2 n) = true := by
  rw [rightR_iff]
  refine ⟨by rw [LF_len]; omega, fun x hx => ?_, ?_⟩
  · unfold LF at hx
    obtain ⟨i, hi, rfl⟩ := List.mem_map.1 hx
    exact LF_ok h0 h1 h2 i (by have := List.mem_range.1 hi; omega)
  · unfold LF
    rw [List.pairwise_map]
    exact List.pairwise_lt_range.imp fun h => by unfold rdF; simp only; omega
theorem LF_none {a0 a1 a2 : Int} (n : Nat) (c : Int) (h : ∀ i : Nat, i < n → a0 + 7 * i ≠ c) : plc (LF a0 a1 a2 n) c = -1 := by
  rcases plc_cases (LF a0 a1 a2 n) c with ⟨e, _⟩ | ⟨j, hj, e1, e2, _⟩
  · exact e
  · rw [LF_len] at hj
    rw [LF_at a0 a1 a2 n j hj] at e2
    exact absurd e2 (h j hj)
theorem LF_sn (a0 a1 a2 : Int) (n : Nat) : LF a0 a1 a2 (n + 1) = LF a0 a1 a2 n ++ [rdF a0 a1 a2 n] := by
  unfold LF
  rw [List.range_succ, List.map_append]; rfl
theorem Fills_l1 {a0 a1 a2 : Int} (h0 : 0 ≤ a0 ∧ a0 ≤ 65535) (h1 : 0 ≤ a1 ∧ a1 ≤ 65535) (h2 : -32768 ≤ a2 ∧ a2 ≤ 32767) (d : Nat) : ∀ (k i : Nat), i ≤ 24 → 24 - i = d → d + 200 < k →
    handshakerlaw05_ReadsFills.l1 k a0 a1 a2 (LF a0 a1 a2 24) (i : Int) = some true := by
  have hr := LF_right h0 h1 h2 24 (by omega)
  have hlen := LF_len a0 a1 a2 24
  induction d with
  | zero =>
    intro k i hi hd hk
    obtain ⟨k, rfl⟩ : ∃ m, k = m + 1 := ⟨k - 1, by omega⟩
    simp only [handshakerlaw05_ReadsFills.l1]
    rw [if_neg (by omega), wr (i := a0) (by omega) (by omega), wr (i := a0 + 1) (by omega) (by omega)]
    have e1 := AddR_f k (LF a0 a1 a2 24) ⟨a0 + 1, 0, 0⟩ (by omega) (by omega)
    simp only at e1
    rw [e1, addR_in hr (by rw [okR_eq]; simp only [tickB, inR, decide_eq_true_eq]; omega), LF_none 24 (a0 + 1) (fun i hi => by omega), if_neg (by omega), if_pos hlen]
    simp only [Option.bind_some, if_true]
    rw [SameR_f k _ (by omega) (by omega), CellsR_f k _ (by omega) (by omega)]
    simp only [Option.bind_some, if_true]
    rw [if_pos (by rw [cellsR_len hr, hlen]; rfl), awake5 k (by omega)]; rfl
  | succ d ih =>
    intro k i hi hd hk
    obtain ⟨k, rfl⟩ : ∃ m, k = m + 1 := ⟨k - 1, by omega⟩
    simp only [handshakerlaw05_ReadsFills.l1]
    rw [if_pos (by omega), wr (i := a0) (by omega) (by omega), wr (i := 7 * (i : Int)) (by omega) (by omega), wr (i := a0 + 7 * (i : Int)) (by omega) (by omega), wr (i := a1) (by omega) (by omega), wr (i := a1 + (i : Int)) (by omega) (by omega), wr (i := a2) (by omega) (by omega), wrN (by omega)]
    rw [FindR_f k _ _ (by omega) (by omega), findR_has hr i (by omega) (a0 + 7 * (i : Int)) (by rw [LF_at a0 a1 a2 24 i (by omega)]; rfl), LF_at a0 a1 a2 24 i (by omega)]
    simp only [Option.bind_some, if_true, rdF]
    exact ih k (i + 1) (by omega) (by omega) (by omega)
theorem Fills_l0 {a0 a1 a2 : Int} (h0 : 0 ≤ a0 ∧ a0 ≤ 65535) (h1 : 0 ≤ a1 ∧ a1 ≤ 65535) (h2 : -32768 ≤ a2 ∧ a2 ≤ 32767) (d : Nat) : ∀ (k i : Nat), i ≤ 24 → 24 - i = d → d + 230 < k →
    handshakerlaw05_ReadsFills.l0 k a0 a1 a2 (LF a0 a1 a2 i) (i : Int) = some true := by
  induction d with
  | zero =>
    intro k i hi hd hk
    obtain ⟨k, rfl⟩ : ∃ m, k = m + 1 := ⟨k - 1, by omega⟩
    have : i = 24 := by omega
    subst this
    simp only [handshakerlaw05_ReadsFills.l0]
    rw [if_neg (by omega)]
    exact Fills_l1 h0 h1 h2 24 k 0 (by omega) (by omega) (by omega)
  | succ d ih =>
    intro k i hi hd hk
    obtain ⟨k, rfl⟩ : ∃ m, k = m + 1 := ⟨k - 1, by omega⟩
    have hr := LF_right h0 h1 h2 i (by omega)
    have hlen := LF_len a0 a1 a2 i
    simp only [handshakerlaw05_ReadsFills.l0]
    rw [if_pos (by omega), wr (i := a0) (by omega) (by omega), wr (i := 7 * (i : Int)) (by omega) (by omega), wr (i := a0 + 7 * (i : Int)) (by omega) (by omega), wr (i := a1) (by omega) (by omega), wr (i := a1 + (i : Int)) (by omega) (by omega), wr (i := a2) (by omega) (by omega), wrN (by omega)]
    have e1 := AddR_f k (LF a0 a1 a2 i) (rdF a0 a1 a2 i) (by omega) (by omega)
    rw [addR_in hr (LF_ok h0 h1 h2 i (by omega)), LF_none i _ (fun j hj => by unfold rdF; simp only; omega), if_neg (show ¬ (0 : Int) ≤ -1 by omega), if_neg (by omega), ← LF_sn] at e1
    have e2 : reads_Add.f k (LF a0 a1 a2 i) (a0 + 7 * (i : Int)) (a1 + (i : Int)) a2 = some (LF a0 a1 a2 (i + 1), 0) := e1
    rw [e2]
    simp only [Option.bind_some, if_true]
    rw [if_pos (by rw [LF_len])]
    exact ih k (i + 1) (by omega) (by omega) (by omega)
theorem ReadsFills : handshakerlaw05_ReadsFills.Pure := by
  intro a0 a1 a2 w0 w1 w2
  have h0 : 0 ≤ a0 ∧ a0 ≤ 65535 := by simpa [Lit.wf, IntKind.bits, IntKind.signed, IntKind.min, IntKind.max] using w0
  have h1 : 0 ≤ a1 ∧ a1 ≤ 65535 := by simpa [Lit.wf, IntKind.bits, IntKind.signed, IntKind.min, IntKind.max] using w1
  have h2 : -32768 ≤ a2 ∧ a2 ≤ 32767 := by simpa [Lit.wf, IntKind.bits, IntKind.signed, IntKind.min, IntKind.max] using w2
  refine ⟨300, ?_⟩
  generalize hK : (300 : Nat) = K
  unfold handshakerlaw05_ReadsFills.f
  exact Fills_l0 h0 h1 h2 24 K 0 (by omega) (by omega) (by omega)
end Go.Proofs.Ytlfmobnmohnjmaa.R
namespace Go.Proofs.Ytlfmobnmohnjmaa.Pure
theorem ReadsFills : Go.Proofs.Ytlfmobnmohnjmaa.R.handshakerlaw05_ReadsFills.Pure := Go.Proofs.Ytlfmobnmohnjmaa.R.ReadsFills
end Go.Proofs.Ytlfmobnmohnjmaa.Pure
