/-
  PROVED: what is told does not hang on a cell that a term does not name, for every term, heap, registers and two numbers. Condition: each argument is of its kind; nothing else.
-/
import Derived.Test.YtbcpnbmegaodbaaTcLem
import Derived.Test.YtbcpnbmegaodbaaTcLem2
import Derived.Test.YtbcpnbmegaodbaaTcLem3
import Derived.Test.YtbcpnbmegaodbaaTcx8
namespace Go.Proofs.Ytbcpnbmegaodbaa.Tc
open Go.RowKit Go.Proofs.YtbcpnbmegaodbaaW.PrintWords Go.Proofs.YtbcpnbmegaodbaaW.PrintLast Go.Proofs.YtbcpnbmegaodbaaW.PrintMore Go.Proofs.Ytbcpnbmegaodbaa.Ho
set_option linter.unusedVariables false
set_option linter.unusedSimpArgs false
theorem mem_comp (l : List Int) (x : Int) (h : x ∈ l) : x ∈ Go.Lib.compact l := by
  have key : ∀ i : Nat, i < l.length → ∃ j, j ≤ i ∧ Go.Lib.keeps l.toArray j = true ∧ l.toArray[j]! = l.toArray[i]! := by
    intro i
    induction i with
    | zero => intro _; exact ⟨0, by omega, by simp [Go.Lib.keeps], rfl⟩
    | succ i ih =>
      intro hi
      by_cases e : l.toArray[i + 1]! = l.toArray[i]!
      · obtain ⟨j, h1, h2, h3⟩ := ih (by omega)
        exact ⟨j, by omega, h2, h3.trans e.symm⟩
      · exact ⟨i + 1, by omega, by unfold Go.Lib.keeps; exact decide_eq_true (.inr (by simpa using e)), rfl⟩
  obtain ⟨i, hi, rfl⟩ := List.mem_iff_getElem.1 h
  obtain ⟨j, h1, h2, h3⟩ := key i hi
  unfold Go.Lib.compact Go.Lib.compactUpTo
  refine List.mem_map.2 ⟨j, List.mem_filter.2 ⟨List.mem_range.2 (by omega), h2⟩, ?_⟩
  rw [h3]
  simp [getElem!_pos, hi]
theorem mem_cells {t : List S41} (hc : checkB t = 0) {o : S41} (ho : o ∈ t) (h2 : o.f0 = 2) : o.f1 ∈ cellsB t := by
  unfold cellsB
  rw [if_pos hc]
  refine mem_comp _ _ (List.mem_mergeSort.2 ?_)
  exact List.mem_map.2 ⟨o, List.mem_filter.2 ⟨ho, by simp [h2]⟩, rfl⟩
theorem getD_setC (h : List S58) (i j : Nat) (c : S58) (hi : i < h.length) : (h.set i c).getD j z58 = if i = j then c else h.getD j z58 := by
  simp only [List.getD_eq_getElem?_getD, List.getElem?_set]
  split
  · first | rfl | (rw [if_pos hi]; rfl)
  · rfl
theorem right_set {h : List S58} {q : Nat} {v : Int} (hr : RightB h = true) (hv : inR v = true) : RightB (h.set q ⟨true, v⟩) = true := by
  obtain ⟨h1, h2, h3⟩ := Right_len hr
  unfold RightB
  rw [List.length_set, decide_eq_true h1, decide_eq_true h2, Bool.true_and, Bool.true_and, List.all_eq_true]
  intro x hx
  rcases List.mem_or_eq_of_mem_set hx with hx | rfl
  · exact h3 x hx
  · simp [okC, hv]
theorem same_if {x y : Int × Int} {i1 : Decidable (x.2 = 1)} {i2 : Decidable (x.1 = y.1)} {i3 : Decidable (x.2 = y.2)} (h : x.2 = 1 ∨ x = y) : (if x.2 = 1 then some true else (if x.1 = y.1 then (if x.2 = y.2 then some true else some false) else some false)) = some true := by
  split
  · rfl
  · rcases h with h | h
    · exact absurd h ‹_›
    · rw [if_pos (by rw [h]), if_pos (by rw [h])]
theorem names_l (t : List S41) (h : List S58) (regs : List Int) (v : Int) (hv : inR (wrap64 v) = true) (q : Nat) (hq : q < h.length) (hh : h.length ≤ 64) (d : Nat) : ∀ (k i : Nat), i ≤ (cellsB t).length → (cellsB t).length - i = d → d + 70 < k → (∀ j : Nat, j < i → (cellsB t).getD j 0 ≠ (q : Int)) →
    handshakerlaw07_TermNames.l0 k t h regs v (q : Int) (cellsB t) ((cellsB t).length : Int) (i : Int) = some true := by
  have hlen := cellsB_len t
  induction d with
  | zero =>
    intro k i hi hd hk hj
    obtain ⟨k, rfl⟩ : ∃ m, k = m + 1 := ⟨k - 1, by omega⟩
    simp only [handshakerlaw07_TermNames.l0]
    rw [if_neg (by omega)]
    simp only [Eval_f k t _ regs (show 20 ≤ k by omega), Option.bind_some, List.nil_append, awake7 k (show 60 ≤ k by omega)]
    rw [if_pos (by simp; omega), if_pos (by omega), if_pos (by omega)]
    rw [show (q : Int).toNat = q by simp]
    by_cases hr : RightB h = true
    · have : evalB t h regs = evalB t (h.set q ⟨true, wrap64 v⟩) regs := by
        refine evalB_congr (by rw [hr, right_set hr hv]) fun hc _ o ho ht => ?_
        unfold leafB
        rcases may_leaf ((checkB_ok hc).2.2.1 o ho) ht with h1 | ⟨h2, h3, h4⟩ | ⟨h2, h3, h4⟩
        · rw [if_pos h1, if_pos h1]
        · rw [h2]
          have hm := mem_cells hc ho h2
          have hne : o.f1 ≠ (q : Int) := by
            intro e
            obtain ⟨j, hj1, hj2⟩ := List.mem_iff_getElem.1 hm
            refine hj j (by omega) ?_
            rw [List.getD_eq_getElem?_getD, List.getElem?_eq_getElem hj1, hj2, e]; rfl
          have hn : ¬ q = o.f1.toNat := by omega
          have e1 : (h.set q ⟨true, wrap64 v⟩).getD o.f1.toNat z58 = h.getD o.f1.toNat z58 := by
            rw [getD_setC _ _ _ _ hq, if_neg hn]
          simp only [getB, there, hr, right_set hr hv, e1, List.length_set]
          rfl
        · rw [h2]; rfl
      exact same_if (.inr this)
    · have : (evalB t h regs) = (0, 1) ∨ ((evalB t h regs) = (evalB t (h.set q ⟨true, wrap64 v⟩) regs)) := by
        unfold evalB
        by_cases hc : checkB t = 0
        · rw [if_pos hc, if_neg hr]; exact .inl rfl
        · rw [if_neg hc, if_neg hc]; exact .inr rfl
      rcases this with e | e
      · exact same_if (.inl (by rw [e]))
      · exact same_if (.inr e)
  | succ d ih =>
    intro k i hi hd hk hj
    obtain ⟨k, rfl⟩ : ∃ m, k = m + 1 := ⟨k - 1, by omega⟩
    simp only [handshakerlaw07_TermNames.l0]
    rw [if_pos (by omega), if_pos (by omega), if_pos (by omega), wrN (by omega), awake7 k (by omega)]
    rw [show rd (cellsB t) (i : Int) = (cellsB t).getD i 0 from rfl]
    by_cases h3 : (cellsB t).getD i 0 = (q : Int)
    · rw [if_pos h3]; rfl
    · rw [if_neg h3]
      refine ih k (i + 1) (by omega) (by omega) (by omega) fun j hj' => ?_
      by_cases e : j = i
      · rw [e]; exact h3
      · exact hj j (by omega)
theorem TermNames : handshakerlaw07_TermNames.Pure := by
  intro t h regs a3 a4 _ _ _ _ _ _ _ _ _ ha3 ha4
  have ha3' : 0 ≤ a3 ∧ a3 ≤ 255 := by simpa [Lit.wf, IntKind.bits, IntKind.signed, IntKind.min, IntKind.max] using ha3
  have ha4' : -2147483648 ≤ a4 ∧ a4 ≤ 2147483647 := by simpa [Lit.wf, IntKind.bits, IntKind.signed, IntKind.min, IntKind.max] using ha4
  refine ⟨302, ?_⟩
  generalize hK : (302 : Nat) = K
  obtain ⟨K, rfl⟩ : ∃ q, K = q + 1 := ⟨K - 1, by omega⟩
  have aw : ∀ (b : Bool), b = true → handshakerlaw07_TermNames.j0 (K + 1) t h regs a3 a4 b = some true := by
    intro b hb
    simp only [handshakerlaw07_TermNames.j0]
    rw [if_pos hb, awake7 _ (by omega)]; rfl
  unfold handshakerlaw07_TermNames.f
  by_cases h1 : (t.length : Int) > 12
  · rw [if_pos h1]; exact aw _ rfl
  rw [if_neg h1]
  by_cases h2 : (h.length : Int) > 64
  · rw [if_pos h2]; exact aw _ rfl
  rw [if_neg h2]
  by_cases h3 : (h.length : Int) = 0
  · rw [if_pos h3]; exact aw _ rfl
  rw [if_neg h3]
  by_cases h4 : (regs.length : Int) > 20
  · exact aw _ (by simpa using h4)
  simp only [handshakerlaw07_TermNames.j0]
  rw [if_neg (by simpa using h4), if_neg h3, Cells_f K t (by omega)]
  simp only [Option.bind_some]
  rw [wr (i := a3) (by omega) (by omega)]
  have hq := tmod_rng (a := a3) (n := (h.length : Int)) (by omega) (by omega)
  obtain ⟨q, hq'⟩ : ∃ q : Nat, Int.tmod a3 (h.length : Int) = (q : Int) := ⟨(Int.tmod a3 (h.length : Int)).toNat, by omega⟩
  rw [hq'] at hq ⊢
  have := cellsB_len t
  exact names_l t h regs a4 (by rw [wr (by omega) (by omega)]; simp [inR]; omega) q (by omega) (by omega) (cellsB t).length K 0 (by omega) (by omega) (by omega) (by intro j hj; omega)
end Go.Proofs.Ytbcpnbmegaodbaa.Tc
namespace Go.Proofs.Ytbcpnbmegaodbaa.Pure
theorem TermNames : Go.Proofs.Ytbcpnbmegaodbaa.Tc.handshakerlaw07_TermNames.Pure := Go.Proofs.Ytbcpnbmegaodbaa.Tc.TermNames
end Go.Proofs.Ytbcpnbmegaodbaa.Pure
