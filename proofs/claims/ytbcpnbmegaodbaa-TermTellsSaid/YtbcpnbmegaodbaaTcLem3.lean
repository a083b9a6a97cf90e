/-
  PROVED: Plain lemmas on numbers and lists, of what the printed functions answer. No condition beside those of each lemma.
-/
import Derived.Test.YtbcpnbmegaodbaaTcLem
import Derived.Test.YtbcpnbmegaodbaaTcLem2
import Derived.Test.YtbcpnbmegaodbaaTcx1
import Derived.Test.YtbcpnbmegaodbaaTcx2
namespace Go.Proofs.Ytbcpnbmegaodbaa.Tc
open Go.RowKit Go.Proofs.YtbcpnbmegaodbaaW.PrintWords Go.Proofs.YtbcpnbmegaodbaaW.PrintLast Go.Proofs.YtbcpnbmegaodbaaW.PrintMore Go.Proofs.Ytbcpnbmegaodbaa.Ho
set_option linter.unusedVariables false
set_option linter.unusedSimpArgs false
/-! the cells that a term names -/
def cellsL (t : List S41) : List Int := (t.filter fun o => o.f0 == 2).map fun o => o.f1
def cellsB (t : List S41) : List Int := if checkB t = 0 then Go.Lib.compact ((cellsL t).mergeSort fun x y => decide (x ≤ y)) else []
theorem cellsL_len (t : List S41) : (cellsL t).length ≤ t.length := by
  unfold cellsL
  rw [List.length_map]
  exact List.length_filter_le _ _
theorem Cells_l (t : List S41) (hm : t.length ≤ 12) (d : Nat) : ∀ (k i : Nat) (out : List Int), i ≤ t.length → t.length - i = d → d < k → out.length ≤ i →
    term_Cells.l0 k out t (t.length : Int) (i : Int) = some (Go.Lib.compact ((out ++ cellsL (t.drop i)).mergeSort fun x y => decide (x ≤ y))) := by
  induction d with
  | zero =>
    intro k i out hi hd hk ho
    obtain ⟨k, rfl⟩ : ∃ m, k = m + 1 := ⟨k - 1, by omega⟩
    rw [List.drop_of_length_le (by omega)]
    simp only [term_Cells.l0, slices_Sort.f, slices_Compact.f]
    rw [if_neg (by omega), if_pos (by omega)]
    simp only [Option.bind_some]
    rw [if_pos (by simp; omega)]
    simp [cellsL]
  | succ d ih =>
    intro k i out hi hd hk ho
    obtain ⟨k, rfl⟩ : ∃ m, k = m + 1 := ⟨k - 1, by omega⟩
    rw [drop_cons t z41 i (by omega)]
    simp only [term_Cells.l0]
    rw [if_pos (by omega), if_pos (by omega), if_pos (by omega), wrN (by omega)]
    rw [show rd_T41 t (i : Int) = t.getD i z41 from rfl]
    by_cases h2 : (t.getD i z41).f0 = 2
    · rw [if_pos h2, if_pos (by omega), ih k (i + 1) _ (by omega) (by omega) (by omega) (by simp; omega)]
      have : cellsL (t.getD i z41 :: t.drop (i + 1)) = (t.getD i z41).f1 :: cellsL (t.drop (i + 1)) := by
        unfold cellsL
        generalize t.getD i z41 = o at h2 ⊢
        simp [List.filter_cons, h2]
      rw [this]; simp
    · rw [if_neg h2, ih k (i + 1) _ (by omega) (by omega) (by omega) (by omega)]
      have : cellsL (t.getD i z41 :: t.drop (i + 1)) = cellsL (t.drop (i + 1)) := by
        unfold cellsL
        generalize t.getD i z41 = o at h2 ⊢
        simp [List.filter_cons, h2]
      rw [this]
theorem Cells_f (k : Nat) (t : List S41) (hk : 20 ≤ k) : term_Cells.f k t = some (cellsB t) := by
  unfold term_Cells.f cellsB
  rw [Check_f k t hk]
  simp only [Option.bind_some]
  by_cases h : checkB t = 0
  · rw [if_pos h, if_pos h]
    have := checkB_ok h
    exact Cells_l t (by omega) t.length k 0 [] (by omega) (by omega) (by omega) (by simp)
  · rw [if_neg h, if_neg h]
theorem comp_len (l : List Int) : (Go.Lib.compact l).length ≤ l.length := by
  unfold Go.Lib.compact Go.Lib.compactUpTo
  rw [List.length_map]
  refine Nat.le_trans (List.length_filter_le _ _) ?_
  simp
theorem cellsB_len (t : List S41) : (cellsB t).length ≤ 12 := by
  unfold cellsB
  split
  · rename_i h
    have := checkB_ok h
    have := cellsL_len t
    refine Nat.le_trans (comp_len _) ?_
    rw [List.length_mergeSort]; omega
  · simp
end Go.Proofs.Ytbcpnbmegaodbaa.Tc
