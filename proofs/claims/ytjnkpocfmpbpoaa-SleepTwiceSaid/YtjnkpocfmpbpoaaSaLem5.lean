/-
 PROVED: Plain lemmas on numbers and lists, of what the printed functions answer. No condition beside those of each lemma.
-/
import Derived.Test.YtjnkpocfmpbpoaaSaLem4
import Derived.Test.YtjnkpocfmpbpoaaSax8
namespace Go.Proofs.Ytjnkpocfmpbpoaa.Sa
open Go.RowKit Go.Proofs.YtjnkpocfmpbpoaaW.PrintWords Go.Proofs.YtjnkpocfmpbpoaaW.PrintLast Go.Proofs.YtjnkpocfmpbpoaaW.PrintMore Go.Proofs.Ytjnkpocfmpbpoaa.Ho
set_option linter.unusedVariables false
set_option linter.unusedSimpArgs false
/-! ### found, and dropped -/
theorem Find_f (k : Nat) (l : List Sp) (hl : FewS l) (hR : RS l) (i : Nat) (hi : i < l.length) (hk : 1400 < k) :
 sleep_Find.f k l (l.getD i z26).f0 = some ((l.getD i z26).f0, (l.getD i z26).f1, (l.getD i z26).f2, (l.getD i z26).f3, (l.getD i z26).f4, 0) := by
 have hlen := hl.1
 unfold sleep_Find.f
 rw [RightF_f _ l hl (by omega), Option.bind_some, if_pos ((rightS_iff l).2 hR), place_yes k (by omega) hR.2 (by omega) hi, Option.bind_some, if_pos rfl, if_pos (by omega), if_pos (by omega)]
 rfl
def dropL (l : List Sp) : List Sp → List Int → List Sp × Int
 | x, [] => (x, 0)
 | x, w :: ws => if (x.any fun s => s.f0 == w) = true then dropL l (x.filter fun s => s.f0 != w) ws else (l, 3)
theorem erase_filter : ∀ (x : List Sp), x.Pairwise Lt → ∀ i, i < x.length → x.eraseIdx i = x.filter fun s => s.f0 != (x.getD i z26).f0
 | [], _, i, hi => absurd hi (by simp)
 | a :: t, h, 0, _ => by
  rw [List.pairwise_cons] at h
  show t = _
  rw [List.filter_cons, if_neg (by simp)]
  symm
  rw [List.filter_eq_self]
  intro y hy
  have := h.1 y hy
  have h2 : y.f0 ≠ a.f0 := fun e => by have : a.f0 < y.f0 := this; omega
  simpa using h2
 | a :: t, h, i + 1, hi => by
  rw [List.pairwise_cons] at h
  have hi' : i < t.length := by simpa using hi
  have e : (a :: t).getD (i + 1) z26 = t.getD i z26 := rfl
  rw [e, List.filter_cons, if_pos]
  · show a :: t.eraseIdx i = _
    rw [erase_filter t h.2 i hi']
  · have := h.1 _ (getD_in t z26 i hi')
    have h2 : a.f0 ≠ (t.getD i z26).f0 := fun e => by have : a.f0 < (t.getD i z26).f0 := this; omega
    simpa using h2
theorem few_subS {l l' : List Sp} (h : FewS l) (hs : l'.Sublist l) : FewS l' := ⟨Nat.le_trans hs.length_le h.1, fun x hx => h.2 x (hs.subset hx)⟩
theorem Drop_l (l : List Sp) (ws : List Int) (hm : ws.length < 1073741824) (d : Nat) : ∀ (k i : Nat) (x : List Sp), i ≤ ws.length → ws.length - i = d → d + 100 < k → FewS x → x.Pairwise Lt →
 sleep_Drop.l0 k l x ws (ws.length : Int) (i : Int) = some (dropL l x (ws.drop i)) := by
 induction d with
 | zero =>
  intro k i x hi hd hk hx hp
  obtain ⟨k, rfl⟩ : ∃ m, k = m + 1 := ⟨k - 1, by omega⟩
  simp only [sleep_Drop.l0]
  rw [if_neg (by omega), List.drop_of_length_le (by omega)]; rfl
 | succ d ih =>
  intro k i x hi hd hk hx hp
  obtain ⟨k, rfl⟩ : ∃ m, k = m + 1 := ⟨k - 1, by omega⟩
  have hlen := hx.1
  simp only [sleep_Drop.l0]
  rw [if_pos (by omega), if_pos (by omega), if_pos (by omega), drop_cons ws 0 i (by omega), show rd ws (i : Int) = ws.getD i 0 from rfl, wrN (by omega)]
  generalize ws.getD i 0 = w
  simp only [dropL]
  by_cases ha : (x.any fun s => s.f0 == w) = true
  · rw [if_pos ha]
    rw [List.any_eq_true] at ha
    obtain ⟨s, hs, es⟩ := ha
    obtain ⟨j, hj, rfl⟩ := mem_idx hs
    have es' : (x.getD j z26).f0 = w := by simpa using es
    rw [← es', place_yes k (by omega) hp (by omega) hj, Option.bind_some, if_pos rfl, if_pos (by omega), if_pos (by omega), show ((j : Int)).toNat = j from rfl, erase_filter x hp j hj]
    exact ih k (i + 1) _ (by omega) (by omega) (by omega) (few_subS hx List.filter_sublist) (hp.sublist List.filter_sublist)
  · rw [if_neg ha]
    have hno : ∀ s ∈ x, s.f0 ≠ w := fun s hs e => ha (List.any_eq_true.2 ⟨s, hs, by simpa using e⟩)
    obtain ⟨c, _, e⟩ := place_no k (by omega) hp (by omega) hno
    rw [e, Option.bind_some, if_neg (show ¬ false = true by decide)]
theorem Drop_f (k : Nat) (l : List Sp) (hl : FewS l) (hR : RS l) (ws : List Int) (hm : ws.length ≤ 100) (hk : 1400 < k) : sleep_Drop.f k l ws = some (dropL l l ws) := by
 have hlen := hl.1
 unfold sleep_Drop.f
 rw [CloneS_f l (by omega), Option.bind_some, RightF_f _ l hl (by omega), Option.bind_some, if_pos ((rightS_iff l).2 hR)]
 have := Drop_l l ws (by omega) ws.length k 0 l (by omega) (by omega) (by omega) hl hR.2
 exact this
end Go.Proofs.Ytjnkpocfmpbpoaa.Sa
