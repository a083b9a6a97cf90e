/-
  PROVED: a cell that is freed has no value, and comes first again if all ahead of it are Live, for every list of cells, every number and every int32. Condition: each argument is of its kind; nothing else.
-/
import Derived.Test.YtlfeohglfjnnhaaHpLem
import Derived.Test.YtlfeohglfjnnhaaHpRef
import Derived.Test.YtlfeohglfjnnhaaHpx8
namespace Go.Proofs.Ytlfeohglfjnnhaa.Hp
open Go.RowKit Go.Proofs.YtlfeohglfjnnhaaW.PrintWords Go.Proofs.YtlfeohglfjnnhaaW.PrintLast Go.Proofs.YtlfeohglfjnnhaaW.PrintMore Go.Proofs.Ytlfeohglfjnnhaa.Ho
set_option linter.unusedVariables false
set_option linter.unusedSimpArgs false
theorem again_l (h a : List S59) (c : Int) (v : Int) (v0 : Int) (hv : wrap64 v0 = v) (j : Nat) (hm : h.length ≤ 64) (hl : a.length = h.length) (hg : getB a (j : Int) = (v, 0))
    (hb : ∀ m : Nat, m < j → (h.getD m z59).f0 = true) (ho : ∀ m : Nat, (m : Int) ≠ c → m ≠ j → a.getD m z59 = h.getD m z59) (d : Nat) : ∀ (k i : Nat), i ≤ h.length → h.length - i = d → d + 70 < k →
    handshakerlaw02_HeapAgain.l0 k h c v0 a (j : Int) (h.length : Int) (i : Int) = some true := by
  induction d with
  | zero =>
    intro k i hi hd hk
    obtain ⟨k, rfl⟩ : ∃ m, k = m + 1 := ⟨k - 1, by omega⟩
    simp only [handshakerlaw02_HeapAgain.l0]
    rw [if_neg (by omega), Get_f, hg, hv, awake_ok _ (by omega)]
    simp
  | succ d ih =>
    intro k i hi hd hk
    obtain ⟨k, rfl⟩ : ∃ m, k = m + 1 := ⟨k - 1, by omega⟩
    have hn := ih k (i + 1) (by omega) (by omega) (by omega)
    have hw : wrap64 ((i : Int) + 1) = ((i + 1 : Nat) : Int) := wrN (by omega)
    simp only [handshakerlaw02_HeapAgain.l0]
    rw [if_pos (by omega), hw]
    simp only [show rd_T59 h (i : Int) = h.getD i z59 from rfl, show rd_T59 a (i : Int) = a.getD i z59 from rfl]
    have hlive : (i : Int) < (j : Int) → (h.getD i z59).f0 = true := fun e => hb i (by omega)
    have inner : (if (i : Int) < (j : Int) then (if 0 ≤ (i : Int) then (if (i : Int) < (h.length : Int) then (if ((h.getD i z59).f0 = true) then (handshakerlaw02_HeapAgain.l0 k h c v0 a (j : Int) (h.length : Int) ((i + 1 : Nat) : Int)) else (some false)) else (none)) else (none)) else (handshakerlaw02_HeapAgain.l0 k h c v0 a (j : Int) (h.length : Int) ((i + 1 : Nat) : Int))) = some true := by
      by_cases e : (i : Int) < (j : Int)
      · rw [if_pos e, if_pos (by omega), if_pos (by omega), if_pos (hlive e)]; exact hn
      · rw [if_neg e]; exact hn
    by_cases e1 : (i : Int) = c
    · rw [if_pos e1]; exact inner
    · rw [if_neg e1]
      by_cases e2 : (i : Int) = (j : Int)
      · rw [if_pos e2]; exact inner
      · rw [if_neg e2, if_pos (by omega), if_pos (by omega), if_pos (by omega), ho i e1 (by omega), if_neg (by simp)]
        by_cases e : (i : Int) < (j : Int)
        · rw [if_pos e, if_pos (hlive e)]; exact hn
        · rw [if_neg e]; exact hn
theorem HeapAgain : handshakerlaw02_HeapAgain.Pure := by
  intro h c v0 _ _ _ _ ha
  have ha' : -2147483648 ≤ v0 ∧ v0 ≤ 2147483647 := by simpa [Lit.wf, IntKind.bits, IntKind.signed, IntKind.min, IntKind.max] using ha
  have hw : wrap64 v0 = v0 := wr (by omega) (by omega)
  have hv : inR v0 = true := by simp [inR, ha'.1, ha'.2]
  by_cases h1 : (h.length : Int) > 64
  · refine ⟨62, ?_⟩
    unfold handshakerlaw02_HeapAgain.f
    rw [if_pos h1, awake_ok _ (by omega)]; rfl
  by_cases he : (getB h c).2 = 0
  · obtain ⟨hr, ht⟩ := getB_ok he
    obtain ⟨c0, c1, c2⟩ := there_rng ht
    obtain ⟨r1, r2, r3⟩ := Right_len hr
    have ef : freeB h c = (h.set c.toNat ⟨false, 0⟩, 0) := by unfold freeB; rw [if_pos he]
    have hlt : c.toNat < h.length := by omega
    -- the heap without the cell
    generalize hf : h.set c.toNat ⟨false, 0⟩ = f at ef
    have fl : f.length = h.length := by rw [← hf]; simp
    have fget : ∀ m : Nat, f.getD m z59 = if c.toNat = m then ⟨false, 0⟩ else h.getD m z59 := fun m => by rw [← hf]; exact getD_set _ _ _ _ hlt
    have fr : RightB f = true := by
      refine RightB_of (by omega) (by omega) fun q hq => ?_
      rw [fget q]
      split
      · decide
      · exact okC_get hr q (by omega)
    have fthere : there f c = false := by
      unfold there
      rw [fget c.toNat, if_pos rfl]; simp
    have fg : getB f c = (0, 3) := by
      unfold getB
      rw [if_pos fr, if_neg (by rw [fthere]; decide)]
    -- its first cell that is not Live
    obtain ⟨j, hj, ej, hjp, hjb⟩ : ∃ j : Nat, j < f.length ∧ freeI f = j ∧ (f.getD j z59).f0 = false ∧ ∀ m, m < j → (f.getD m z59).f0 = true := by
      rcases idxT_cases (fun x : S59 => !x.f0) z59 f 0 with ⟨e, he⟩ | ⟨j, hj, e, hjp, hjb⟩
      · have := he (f.getD c.toNat z59) (by simp [List.getElem?_eq_getElem (show c.toNat < f.length by omega)])
        rw [fget c.toNat, if_pos rfl] at this
        simp at this
      · exact ⟨j, hj, by unfold freeI; omega, by simpa using hjp, fun m hm => by simpa using hjb m hm⟩
    have hjc : (j : Int) ≤ c := by
      rcases Nat.lt_or_ge c.toNat j with hlt2 | hge
      · have := hjb c.toNat hlt2
        rw [fget c.toNat, if_pos rfl] at this
        simp at this
      · omega
    have ea : allocB f v0 = (f.set j ⟨true, v0⟩, (j : Int), 0) := by
      unfold allocB
      rw [if_pos ⟨fr, hv⟩, ej, if_neg (by omega)]; rfl
    generalize hA : f.set j ⟨true, v0⟩ = a at ea
    have al : a.length = h.length := by rw [← hA]; simpa using fl
    have aget : ∀ m : Nat, a.getD m z59 = if j = m then ⟨true, v0⟩ else f.getD m z59 := fun m => by rw [← hA]; exact getD_set _ _ _ _ hj
    have ar : RightB a = true := by
      refine RightB_of (by omega) (by omega) fun q hq => ?_
      rw [aget q]
      split
      · simp [okC, hv]
      · exact okC_get fr q (by omega)
    have ag : getB a (j : Int) = (v0, 0) := by
      have : there a (j : Int) = true := by
        unfold there
        rw [decide_eq_true (by omega), show ((j : Int)).toNat = j from rfl, aget j, if_pos rfl]; rfl
      unfold getB
      rw [if_pos ar, if_pos this, show ((j : Int)).toNat = j from rfl, aget j, if_pos rfl]
    refine ⟨302, ?_⟩
    generalize hK : (302 : Nat) = K
    obtain ⟨K, rfl⟩ : ∃ q, K = q + 1 := ⟨K - 1, by omega⟩
    unfold handshakerlaw02_HeapAgain.f
    rw [if_neg h1, Free_f, ef]
    simp only [Option.bind_some]
    rw [if_pos trivial, Get_f, fg, hw, Alloc_f, ea]
    simp only [Option.bind_some]
    rw [if_pos trivial, if_pos trivial, if_neg (by omega)]
    simp only [handshakerlaw02_HeapAgain.j0]
    rw [if_neg (by rw [al]; simp)]
    refine again_l h a c v0 v0 hw j (by omega) al ag (fun m hm => ?_) (fun m hm hm2 => ?_) h.length K 0 (by omega) (by omega) (by omega)
    · have := hjb m hm
      rw [fget m, if_neg (by omega)] at this
      exact this
    · rw [aget m, if_neg (by omega), fget m, if_neg (by omega)]
  · refine ⟨302, ?_⟩
    have ef : freeB h c = (h, (getB h c).2) := by unfold freeB; rw [if_neg he]
    unfold handshakerlaw02_HeapAgain.f
    rw [if_neg h1, Free_f, ef]
    simp only [Option.bind_some]
    rw [if_neg he, Same_f _ _ (by omega) (by omega), awake_ok _ (by omega)]
    rfl
end Go.Proofs.Ytlfeohglfjnnhaa.Hp
namespace Go.Proofs.Ytlfeohglfjnnhaa.Pure
theorem HeapAgain : Go.Proofs.Ytlfeohglfjnnhaa.Hp.handshakerlaw02_HeapAgain.Pure := Go.Proofs.Ytlfeohglfjnnhaa.Hp.HeapAgain
end Go.Proofs.Ytlfeohglfjnnhaa.Pure
