/-
  PROVED: what is told does not hang on a register that a term does not name, nor on more of one than its 32 bits, for every term, heap, registers and two numbers. Condition: each argument is of its kind; nothing else.
-/
import Derived.Test.YtbcpnbmegaodbaaTcLem
import Derived.Test.YtbcpnbmegaodbaaTcLem2
import Derived.Test.YtbcpnbmegaodbaaTcx11
namespace Go.Proofs.Ytbcpnbmegaodbaa.Tc
open Go.RowKit Go.Proofs.YtbcpnbmegaodbaaW.PrintWords Go.Proofs.YtbcpnbmegaodbaaW.PrintLast Go.Proofs.YtbcpnbmegaodbaaW.PrintMore Go.Proofs.Ytbcpnbmegaodbaa.Ho
set_option linter.unusedVariables false
set_option linter.unusedSimpArgs false
theorem regs_leaf (o : S41) (h : List S58) (regs regs' : List Int) (hm : mayB o.f0 o.f1 = true) (ht : takes o.f0 = 0) (hl : regs.length = regs'.length) (he : o.f0 = 3 → 0 ≤ o.f1 → o.f1 < regs.length → wrap32 (regs.getD o.f1.toNat 0) = wrap32 (regs'.getD o.f1.toNat 0)) : leafB o h regs = leafB o h regs' := by
  unfold leafB
  rcases may_leaf hm ht with h1 | ⟨h2, _⟩ | ⟨h3, h4, h5⟩
  · rw [if_pos h1, if_pos h1]
  · rw [h2]; rfl
  · have a1 : ¬ o.f0 = 1 := by omega
    have a2 : ¬ o.f0 = 2 := by omega
    rw [if_neg a1, if_neg a2, if_neg a1, if_neg a2]
    by_cases h6 : o.f1 < regs.length
    · rw [if_pos h6, if_pos (by omega), he h3 h4 h6]
    · rw [if_neg h6, if_neg (by omega)]
theorem getD_setI (l : List Int) (i j : Nat) (v : Int) (hi : i < l.length) : (l.set i v).getD j 0 = if i = j then v else l.getD j 0 := by
  simp only [List.getD_eq_getElem?_getD, List.getElem?_set]
  split
  · first | rfl | (rw [if_pos hi]; rfl)
  · rfl
theorem regs_l (t : List S41) (h : List S58) (regs : List Int) (v : Int) (q : Nat) (hq : q < regs.length) (hq8 : regs.length ≤ 8) (hm : t.length ≤ 12) (d : Nat) : ∀ (k i : Nat) (b : Bool), i ≤ t.length → t.length - i = d → d + 70 < k → b = (t.take i).any (fun o => o.f0 == 3 && o.f1 == (q : Int)) →
    handshakerlaw07_TermRegs.l0 k t h regs v (q : Int) b t (t.length : Int) (i : Int) = some true := by
  induction d with
  | zero =>
    intro k i b hi hd hk hb
    obtain ⟨k, rfl⟩ : ∃ m, k = m + 1 := ⟨k - 1, by omega⟩
    rw [List.take_of_length_le (by omega)] at hb
    simp only [handshakerlaw07_TermRegs.l0]
    rw [if_neg (by omega)]
    simp only [Eval_f k t h _ (by omega), Option.bind_some, List.nil_append]
    rw [if_pos (by simp; omega), if_pos (by omega), if_pos (by omega), wrap_f, awake7 k (by omega)]
    simp only [Option.bind_some]
    have e1 : (q : Int).toNat = q := by simp
    rw [e1]
    cases hb' : b with
    | true =>
      rw [if_pos rfl, if_pos (by omega)]
      have : evalB t h regs = evalB t h ((regs.set q v).set q (wrap32 (rd regs (q : Int)))) := by
        refine evalB_congr rfl fun hc _ o ho ht => regs_leaf o h _ _ ((checkB_ok hc).2.2.1 o ho) ht (by simp) fun h3 h0 hlt => ?_
        rw [getD_setI _ _ _ _ (by simpa using hq), getD_setI _ _ _ _ hq]
        split
        · rename_i e; rw [← e, w32_w32]; rfl
        · rfl
      rw [← this, if_pos rfl, if_pos rfl]
    | false =>
      rw [if_neg (by decide)]
      have : evalB t h regs = evalB t h (regs.set q v) := by
        refine evalB_congr rfl fun hc _ o ho ht => regs_leaf o h _ _ ((checkB_ok hc).2.2.1 o ho) ht (by simp) fun h3 h0 hlt => ?_
        rw [getD_setI _ _ _ _ hq]
        have hn : ¬ q = o.f1.toNat := by
          intro e
          have : (t.any fun o => o.f0 == 3 && o.f1 == (q : Int)) = true := List.any_eq_true.2 ⟨o, ho, by simp [h3]; omega⟩
          rw [← hb, hb'] at this; simp at this
        rw [if_neg hn]
      rw [← this, if_pos rfl, if_pos rfl]
  | succ d ih =>
    intro k i b hi hd hk hb
    obtain ⟨k, rfl⟩ : ∃ m, k = m + 1 := ⟨k - 1, by omega⟩
    simp only [handshakerlaw07_TermRegs.l0]
    rw [if_pos (by omega), if_pos (by omega), if_pos (by omega), wrN (by omega)]
    rw [show rd_T41 t (i : Int) = t.getD i z41 from rfl]
    have et : t.take (i + 1) = t.take i ++ [t.getD i z41] := by
      rw [List.take_add_one, List.getD_eq_getElem?_getD, List.getElem?_eq_getElem (by omega)]; rfl
    have en : ((t.take (i + 1)).any fun o => o.f0 == 3 && o.f1 == (q : Int)) = (b || ((t.getD i z41).f0 == 3 && (t.getD i z41).f1 == (q : Int))) := by
      rw [et, List.any_append, ← hb]; simp
    cases hb' : b with
    | true =>
      rw [if_pos rfl]
      exact ih k (i + 1) true (by omega) (by omega) (by omega) (by rw [en, hb']; rfl)
    | false =>
      rw [if_neg (by decide)]
      by_cases h3 : (t.getD i z41).f0 = 3
      · rw [if_pos h3]
        exact ih k (i + 1) _ (by omega) (by omega) (by omega) (by rw [en, hb', h3]; simp)
      · rw [if_neg h3]
        exact ih k (i + 1) _ (by omega) (by omega) (by omega) (by rw [en, hb', show ((t.getD i z41).f0 == 3) = false from beq_eq_false_iff_ne.2 h3]; rfl)
theorem TermRegs : handshakerlaw07_TermRegs.Pure := by
  intro t h regs a3 a4 _ _ _ _ _ _ _ _ _ ha3 ha4
  have ha3' : 0 ≤ a3 ∧ a3 ≤ 255 := by simpa [Lit.wf, IntKind.bits, IntKind.signed, IntKind.min, IntKind.max] using ha3
  refine ⟨302, ?_⟩
  generalize hK : (302 : Nat) = K
  obtain ⟨K, rfl⟩ : ∃ q, K = q + 1 := ⟨K - 1, by omega⟩
  have aw : ∀ (b : Bool), b = true → handshakerlaw07_TermRegs.j0 (K + 1) t h regs a3 a4 b = some true := by
    intro b hb
    simp only [handshakerlaw07_TermRegs.j0]
    rw [if_pos hb, awake7 _ (by omega)]; rfl
  unfold handshakerlaw07_TermRegs.f
  by_cases h1 : (t.length : Int) > 12
  · rw [if_pos h1]; exact aw _ rfl
  rw [if_neg h1]
  by_cases h2 : (h.length : Int) > 64
  · rw [if_pos h2]; exact aw _ rfl
  rw [if_neg h2]
  by_cases h3 : (regs.length : Int) > 8
  · rw [if_pos h3]; exact aw _ rfl
  rw [if_neg h3]
  by_cases h4 : regs.length = 0
  · exact aw _ (by rw [h4]; rfl)
  simp only [handshakerlaw07_TermRegs.j0]
  rw [if_neg (by simp only [beq_iff_eq]; omega), if_neg (by omega), wr (by omega) (by omega)]
  have hq := tmod_rng (a := a3) (n := (regs.length : Int)) (by omega) (by omega)
  obtain ⟨q, hq'⟩ : ∃ q : Nat, Int.tmod a3 (regs.length : Int) = (q : Int) := ⟨(Int.tmod a3 (regs.length : Int)).toNat, by omega⟩
  rw [hq'] at hq ⊢
  exact regs_l t h regs a4 q (by omega) (by omega) (by omega) t.length K 0 false (by omega) (by omega) (by omega) (by simp)
end Go.Proofs.Ytbcpnbmegaodbaa.Tc
namespace Go.Proofs.Ytbcpnbmegaodbaa.Pure
theorem TermRegs : Go.Proofs.Ytbcpnbmegaodbaa.Tc.handshakerlaw07_TermRegs.Pure := Go.Proofs.Ytbcpnbmegaodbaa.Tc.TermRegs
end Go.Proofs.Ytbcpnbmegaodbaa.Pure
