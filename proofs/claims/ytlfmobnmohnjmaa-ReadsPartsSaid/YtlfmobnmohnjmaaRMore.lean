/-
  PROVED: Plain lemmas on numbers and lists, of what the printed functions answer. No condition beside those of each lemma.
-/
import Derived.Test.YtlfmobnmohnjmaaRLem
import Derived.Test.YtlfmobnmohnjmaaRRef
namespace Go.Proofs.Ytlfmobnmohnjmaa.R
open Go.RowKit Go.Proofs.YtlfmobnmohnjmaaW.PrintWords Go.Proofs.YtlfmobnmohnjmaaW.PrintLast Go.Proofs.YtlfmobnmohnjmaaW.PrintMore Go.Proofs.Ytlfmobnmohnjmaa.Ho
set_option linter.unusedVariables false
set_option linter.unusedSimpArgs false
/-- Rows that rise and have the same elements are the same. -/
theorem rise_ext : ∀ (a b : List Int), a.Pairwise (· < ·) → b.Pairwise (· < ·) → (∀ x, x ∈ a ↔ x ∈ b) → a = b
  | [], [], _, _, _ => rfl
  | [], y :: b, _, _, h => by have := (h y).2 (by simp); simp at this
  | x :: a, [], _, _, h => by have := (h x).1 (by simp); simp at this
  | x :: a, y :: b, ha, hb, h => by
    obtain ⟨a1, a2⟩ := List.pairwise_cons.1 ha
    obtain ⟨b1, b2⟩ := List.pairwise_cons.1 hb
    have exy : x = y := by
      rcases List.mem_cons.1 ((h x).1 (by simp)) with e | e
      · exact e
      · rcases List.mem_cons.1 ((h y).2 (by simp)) with e2 | e2
        · exact e2.symm
        · have := a1 y e2
          have := b1 x e
          omega
    subst exy
    rw [rise_ext a b a2 b2 fun z => ?_]
    constructor
    · intro hz
      rcases List.mem_cons.1 ((h z).1 (by simp [hz])) with e | e
      · have := a1 z hz; omega
      · exact e
    · intro hz
      rcases List.mem_cons.1 ((h z).2 (by simp [hz])) with e | e
      · have := b1 z hz; omega
      · exact e
theorem mem_comp (l : List Int) (x : Int) : x ∈ Go.Lib.compact l ↔ x ∈ l := by
  constructor
  · intro h
    unfold Go.Lib.compact Go.Lib.compactUpTo at h
    obtain ⟨i, hi, rfl⟩ := List.mem_map.1 h
    have hi' : i < l.length := List.mem_range.1 (List.mem_filter.1 hi).1
    simp [getElem!_pos, hi']
  intro h
  have key : ∀ i : Nat, i < l.length → ∃ j, j ≤ i ∧ Go.Lib.keeps l.toArray j = true ∧ l.toArray[j]! = l.toArray[i]! := by
    intro i
    induction i with
    | zero => intro _; exact ⟨0, by omega, by simp [Go.Lib.keeps], rfl⟩
    | succ i ih =>
      intro hi
      by_cases e : l.toArray[i + 1]! = l.toArray[i]!
      · obtain ⟨j, h1, h2, h3⟩ := ih (by omega)
        exact ⟨j, by omega, h2, h3.trans e.symm⟩
      · exact ⟨i + 1, by omega, by unfold Go.Lib.keeps; exact decide_eq_true (.inr (by simpa using e)), rfl⟩
  obtain ⟨i, hi, rfl⟩ := List.mem_iff_getElem.1 h
  obtain ⟨j, h1, h2, h3⟩ := key i hi
  unfold Go.Lib.compact Go.Lib.compactUpTo
  refine List.mem_map.2 ⟨j, List.mem_filter.2 ⟨List.mem_range.2 (by omega), h2⟩, ?_⟩
  rw [h3]
  simp [getElem!_pos, hi]
theorem comp_rise (l : List Int) (hs : l.Pairwise (· ≤ ·)) : (Go.Lib.compact l).Pairwise (· < ·) := by
  unfold Go.Lib.compact Go.Lib.compactUpTo
  rw [List.pairwise_map]
  have hp : (List.range l.length).Pairwise (· < ·) := List.pairwise_lt_range
  have hp2 := List.Pairwise.filter (Go.Lib.keeps l.toArray) hp
  refine List.Pairwise.imp_of_mem ?_ hp2
  intro i j hi hj hij
  have hi1 : i < l.length := List.mem_range.1 (List.mem_filter.1 hi).1
  have hj1 : j < l.length := List.mem_range.1 (List.mem_filter.1 hj).1
  have hk := (List.mem_filter.1 hj).2
  unfold Go.Lib.keeps at hk
  have hk := of_decide_eq_true hk
  have hne : l.toArray[j]! ≠ l.toArray[j - 1]! := by
    rcases hk with h | h
    · omega
    · exact h
  have hget := List.pairwise_iff_getElem.1 hs
  have e1 : ∀ q, (hq : q < l.length) → l.toArray[q]! = l[q] := fun q hq => by simp [getElem!_pos, hq]
  rw [e1 j hj1, e1 (j - 1) (by omega)] at hne
  rw [e1 i hi1, e1 j hj1]
  have h1 : l[j - 1] ≤ l[j] := hget (j - 1) j (by omega) hj1 (by omega)
  have h2 : l[i] ≤ l[j - 1] := by
    by_cases e : i = j - 1
    · subst e; exact Int.le_refl _
    · exact hget i (j - 1) hi1 (by omega) (by omega)
  omega
theorem plc_at {l : List S24} (h : l.Pairwise (fun a b => a.f0 ≠ b.f0)) (i : Nat) (hi : i < l.length) (c : Int) (e : (l.getD i z24).f0 = c) : plc l c = (i : Int) := by
  rcases plc_cases l c with ⟨_, h'⟩ | ⟨j, hj, e1, e2, _⟩
  · exact absurd e (h' _ (getD_in l z24 i hi))
  · rw [e1, pair_same h j i hj hi (e2.trans e.symm)]
theorem plc_none {l : List S24} {c : Int} (h : plc l c = -1) : ∀ x ∈ l, x.f0 ≠ c := by
  rcases plc_cases l c with ⟨_, h'⟩ | ⟨j, hj, e1, _, _⟩
  · exact h'
  · omega
theorem right_app {l : List S24} {r : S24} (h0 : rightR l = true) (h1 : okR r = true) (h2 : plc l r.f0 = -1) (h3 : l.length < 24) : rightR (l ++ [r]) = true := by
  rw [rightR_iff] at h0 ⊢
  refine ⟨by simp; omega, fun x hx => ?_, ?_⟩
  · rcases List.mem_append.1 hx with h | h
    · exact h0.2.1 x h
    · rw [List.mem_singleton.1 h]; exact h1
  · rw [List.pairwise_append]
    exact ⟨h0.2.2, List.pairwise_singleton _ _, fun a ha b hb => by rw [List.mem_singleton.1 hb]; exact plc_none h2 a ha⟩
theorem addR_cases (l : List S24) (r : S24) : (addR l r).2 = 0 ∧ rightR l = true ∧ okR r = true ∧ ((∃ i : Nat, i < l.length ∧ plc l r.f0 = (i : Int) ∧ l.getD i z24 = r ∧ (addR l r).1 = l) ∨ (plc l r.f0 = -1 ∧ l.length < 24 ∧ (addR l r).1 = l ++ [r])) ∨ ((addR l r).2 ≠ 0 ∧ (addR l r).1 = l) := by
  by_cases h0 : rightR l = true ∧ okR r = true
  · rw [addR_in h0.1 h0.2]
    rcases plc_cases l r.f0 with ⟨e, e'⟩ | ⟨j, hj, e, e', e''⟩
    · rw [e, if_neg (show ¬ (0 : Int) ≤ -1 by omega)]
      by_cases h24 : l.length = 24
      · rw [if_pos h24]; exact .inr ⟨by simp, rfl⟩
      · rw [if_neg h24]
        have := ((rightR_iff l).1 h0.1).1
        exact .inl ⟨rfl, h0.1, h0.2, .inr ⟨rfl, by omega, rfl⟩⟩
    · rw [e, if_pos (show (0 : Int) ≤ (j : Int) by omega), show ((j : Int)).toNat = j from by omega]
      by_cases h2 : eqR (l.getD j z24) r = true
      · rw [if_pos h2]
        exact .inl ⟨rfl, h0.1, h0.2, .inl ⟨j, hj, rfl, (eqR_iff _ _).1 h2, rfl⟩⟩
      · rw [if_neg h2]; exact .inr ⟨by simp, rfl⟩
  · unfold addR
    rw [if_neg h0]; exact .inr ⟨by simp, rfl⟩
theorem addR_has {l : List S24} {r : S24} (h0 : rightR l = true) (h1 : okR r = true) (i : Nat) (hi : i < l.length) (e : l.getD i z24 = r) : addR l r = (l, 0) := by
  rw [addR_in h0 h1, plc_at ((rightR_iff l).1 h0).2.2 i hi r.f0 (by rw [e]), if_pos (by omega), show ((i : Int)).toNat = i from by omega, if_pos ((eqR_iff _ _).2 e)]
theorem findR_has {l : List S24} (h0 : rightR l = true) (i : Nat) (hi : i < l.length) (c : Int) (e : (l.getD i z24).f0 = c) : findR l c = ((l.getD i z24).f0, (l.getD i z24).f1, (l.getD i z24).f2, true) := by
  unfold findR
  rw [plc_at ((rightR_iff l).1 h0).2.2 i hi c e, if_pos ⟨by omega, h0⟩, show ((i : Int)).toNat = i from by omega]
theorem findR_none {l : List S24} {c : Int} (h : plc l c = -1) : findR l c = (0, 0, 0, false) := by
  unfold findR
  rw [h, if_neg (by omega)]
theorem findR_app {l : List S24} {r : S24} (h0 : rightR l = true) (h1 : rightR (l ++ [r]) = true) (c : Int) : ((findR l c).2.2.2 = true → findR (l ++ [r]) c = findR l c) ∧ ((findR l c).2.2.2 = false → c ≠ r.f0 → (findR (l ++ [r]) c).2.2.2 = false) := by
  rcases plc_cases l c with ⟨e, e'⟩ | ⟨j, hj, e, e', e''⟩
  · refine ⟨fun h => by rw [findR_none e] at h; exact absurd h (by decide), fun _ hc => ?_⟩
    rcases plc_cases (l ++ [r]) c with ⟨g, g'⟩ | ⟨m, hm, g, g', g''⟩
    · rw [findR_none g]
    · have hx := getD_in (l ++ [r]) z24 m hm
      rcases List.mem_append.1 hx with h | h
      · exact absurd g' (e' _ h)
      · rw [List.mem_singleton.1 h] at g'; exact absurd g'.symm hc
  · have ea : (l ++ [r]).getD j z24 = l.getD j z24 := by
      rw [List.getD_eq_getElem?_getD, List.getD_eq_getElem?_getD, List.getElem?_append_left hj]
    have hf := findR_has h0 j hj c e'
    refine ⟨fun _ => ?_, fun h => by rw [hf] at h; simp at h⟩
    rw [hf, findR_has h1 j (by simp; omega) c (by rw [ea]; exact e'), ea]
end Go.Proofs.Ytlfmobnmohnjmaa.R
