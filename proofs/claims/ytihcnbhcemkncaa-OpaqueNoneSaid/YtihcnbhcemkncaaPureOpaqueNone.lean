/-
  PROVED: of no reads all versions of a past hold, and of a read that no heap has none does, for every past and number. Condition: each argument is of its kind; nothing else.
-/
import Derived.Test.YtihcnbhcemkncaaOLem
import Derived.Test.YtihcnbhcemkncaaOx2
import Derived.Test.YtihcnbhcemkncaaOx7
namespace Go.Proofs.Ytihcnbhcemkncaa.O
open Go.RowKit Go.Proofs.YtihcnbhcemkncaaW.PrintWords Go.Proofs.YtihcnbhcemkncaaW.PrintLast Go.Proofs.YtihcnbhcemkncaaW.PrintMore Go.Proofs.Ytihcnbhcemkncaa.Ho
set_option linter.unusedVariables false
set_option linter.unusedSimpArgs false
theorem Small13 (p : List S80) (hm : p.length < 140737488351233) (d : Nat) : ∀ (k i : Nat), i ≤ p.length → p.length - i = d → d < k →
    ∃ b, handshakerlaw13_small.l0 k p p (p.length : Int) (i : Int) = some b ∧ (b = true → p.length ≤ 30) := by
  induction d with
  | zero =>
    intro k i hi hd hk
    obtain ⟨k, rfl⟩ : ∃ m, k = m + 1 := ⟨k - 1, by omega⟩
    simp only [handshakerlaw13_small.l0]
    rw [if_neg (by omega)]
    exact ⟨_, rfl, fun h => by have := of_decide_eq_true h; omega⟩
  | succ d ih =>
    intro k i hi hd hk
    obtain ⟨k, rfl⟩ : ∃ m, k = m + 1 := ⟨k - 1, by omega⟩
    simp only [handshakerlaw13_small.l0]
    rw [if_pos (by omega), if_pos (by omega), if_pos (by omega), wrN (by omega)]
    split
    · exact ⟨false, rfl, fun h => by cases h⟩
    · exact ih k (i + 1) (by omega) (by omega) (by omega)
theorem small13_f (k : Nat) (p : List S80) (hm : p.length < 140737488351233) (hk : p.length < k) : ∃ b, handshakerlaw13_small.f k p = some b ∧ (b = true → p.length ≤ 30) := by
  unfold handshakerlaw13_small.f
  exact Small13 p hm p.length k 0 (by omega) (by omega) (by omega)
def has5 (c : Int) (s : S80) : Bool := there s.f1 c && ((s.f1.getD c.toNat z66).f1 == 5)
theorem None_l (p : List S80) (c : Int) (hm : p.length ≤ 30) (hr : rightO p = true) (d : Nat) : ∀ (k i : Nat), i ≤ p.length → p.length - i = d → d + 3000 < k →
    handshakerlaw13_OpaqueNone.l0 k p c ((p.take i).map fun s => s.f0) (((p.take i).filter (has5 c)).map fun s => s.f0) p (p.length : Int) (i : Int) = some true := by
  have hp := ((rightO_iff p).1 hr).2
  induction d with
  | zero =>
    intro k i hi hd hk
    obtain ⟨k, rfl⟩ : ∃ m, k = m + 1 := ⟨k - 1, by omega⟩
    rw [List.take_of_length_le (by omega)]
    have hR : ∀ s ∈ p, RightB s.f1 = true := fun s hs => by
      obtain ⟨i, hi, rfl⟩ := List.mem_iff_getElem.1 hs
      have := (hp i hi).2.1
      rw [List.getD_eq_getElem?_getD, List.getElem?_eq_getElem hi] at this
      exact this
    have e1 : spanO p [] = p.map fun s => s.f0 := by
      unfold spanO
      rw [List.filter_eq_self.2 fun s hs => by
        unfold sameR
        rw [hR s hs]; rfl]
    have e2 : spanO p [⟨c, 0, 5⟩] = (p.filter (has5 c)).map fun s => s.f0 := by
      unfold spanO
      congr 1
      refine List.filter_congr fun s hs => ?_
      unfold sameR
      rw [hR s hs, rightR_one, List.all_cons, List.all_nil, Bool.and_true, Bool.and_true]
      unfold okS getB has5
      rw [if_pos (hR s hs)]
      cases ht : there s.f1 c with
      | true =>
        have := (there_rng ht).1
        rw [show okR ⟨c, 0, 5⟩ = true from (okR_eq _).2 ⟨this, rfl, rfl⟩]
        simp
      | false => simp
    have hl1 : (p.map fun s => s.f0).length ≤ 30 := by rw [List.length_map]; exact hm
    have hl2 : ((p.filter (has5 c)).map fun s => s.f0).length ≤ 30 := by
      rw [List.length_map]; have := List.length_filter_le (has5 c) p; omega
    simp only [handshakerlaw13_OpaqueNone.l0]
    rw [if_neg (by omega), Span_f k p [] (by simp) (by omega) hr (by omega), Span_f k p [⟨c, 0, 5⟩] (by simp) (by omega) hr (by omega), e1, e2]
    simp only [Option.bind_some]
    rw [Numbers_f k (p.map fun s => s.f0) (by omega) (by omega), Numbers_f k ((p.filter (has5 c)).map fun s => s.f0) (by omega) (by omega)]
    simp only [Option.bind_some, if_true]
    rw [awake13 k (by omega)]; rfl
  | succ d ih =>
    intro k i hi hd hk
    obtain ⟨k, rfl⟩ : ∃ m, k = m + 1 := ⟨k - 1, by omega⟩
    have next := ih k (i + 1) (by omega) (by omega) (by omega)
    rw [take_snG p z80 i (by omega), List.filter_append, List.map_append, List.map_append] at next
    have hl1 : ((p.take i).map fun s => s.f0).length ≤ 30 := by rw [List.length_map, List.length_take]; omega
    have hl2 : (((p.take i).filter (has5 c)).map fun s => s.f0).length ≤ 30 := by
      rw [List.length_map]; have := List.length_filter_le (has5 c) (p.take i); rw [List.length_take] at this; omega
    simp only [handshakerlaw13_OpaqueNone.l0]
    rw [if_pos (by omega), if_pos (by omega), if_pos (by omega), if_pos (by omega), wrN (by omega), show rd_T80 p (i : Int) = p.getD i z80 from rfl]
    simp only [Option.bind_some]
    generalize p.getD i z80 = s at *
    simp only [List.map_cons, List.map_nil, List.filter_cons, List.filter_nil] at next
    have yes : has5 c s = true → handshakerlaw13_OpaqueNone.l0 k p c (((p.take i).map fun s => s.f0) ++ [s.f0]) ((((p.take i).filter (has5 c)).map fun s => s.f0) ++ [s.f0]) p (p.length : Int) ((i + 1 : Nat) : Int) = some true := fun h => by
      rw [if_pos h] at next; exact next
    have no : ¬ has5 c s = true → handshakerlaw13_OpaqueNone.l0 k p c (((p.take i).map fun s => s.f0) ++ [s.f0]) (((p.take i).filter (has5 c)).map fun s => s.f0) p (p.length : Int) ((i + 1 : Nat) : Int) = some true := fun h => by
      rw [if_neg h] at next; simpa using next
    clear next
    unfold has5 there at yes no
    by_cases h0 : c ≥ 0
    · rw [if_pos h0]
      by_cases h1 : c < (s.f1.length : Int)
      · rw [if_pos h1, if_pos h0]
        rw [decide_eq_true (show 0 ≤ c ∧ c < (s.f1.length : Int) from ⟨h0, h1⟩)] at yes no
        by_cases h2 : (rd_T66 s.f1 c).f0 = true
        · rw [if_pos h2]
          by_cases h3 : (rd_T66 s.f1 c).f1 = 5
          · rw [if_pos h3, if_pos (by omega)]
            exact yes (by rw [show (s.f1.getD c.toNat z66).f0 = true from h2, show (s.f1.getD c.toNat z66).f1 = 5 from h3]; rfl)
          · rw [if_neg h3]
            exact no (by rw [show (s.f1.getD c.toNat z66).f0 = true from h2]; intro e; simp only [Bool.true_and, beq_iff_eq] at e; exact h3 e)
        · rw [if_neg h2]
          exact no (by intro e; simp only [Bool.true_and, Bool.and_eq_true] at e; exact h2 e.1)
      · rw [if_neg h1]
        rw [decide_eq_false (show ¬ (0 ≤ c ∧ c < (s.f1.length : Int)) from fun e => h1 e.2)] at no
        exact no (by simp)
    · rw [if_neg h0]
      rw [decide_eq_false (show ¬ (0 ≤ c ∧ c < (s.f1.length : Int)) from fun e => h0 e.1)] at no
      exact no (by simp)
theorem OpaqueNone : handshakerlaw13_OpaqueNone.Pure := by
  intro p c _ _ _ _
  obtain ⟨K, hK⟩ : ∃ K, p.length + 9000 = K := ⟨_, rfl⟩
  refine ⟨K + 1, ?_⟩
  have hj : handshakerlaw13_OpaqueNone.j0 (K + 1) p c true = some true := by
    simp only [handshakerlaw13_OpaqueNone.j0, if_true]; rw [awake13 K (by omega)]; rfl
  obtain ⟨b, e, hb⟩ := small13_f (K + 1) p (by omega) (by omega)
  unfold handshakerlaw13_OpaqueNone.f
  rw [e]
  simp only [Option.bind_some]
  cases b with
  | false => rw [if_neg (by decide)]; exact hj
  | true =>
    have hm := hb rfl
    rw [if_pos rfl, RightO_f (K + 1) p (by omega) (by omega)]
    simp only [Option.bind_some]
    cases hr : rightO p with
    | false => exact hj
    | true =>
      simp only [handshakerlaw13_OpaqueNone.j0]
      rw [if_neg (by decide)]
      have := None_l p c hm hr p.length K 0 (by omega) (by omega) (by omega)
      simpa using this
end Go.Proofs.Ytihcnbhcemkncaa.O
namespace Go.Proofs.Ytihcnbhcemkncaa.Pure
theorem OpaqueNone : Go.Proofs.Ytihcnbhcemkncaa.O.handshakerlaw13_OpaqueNone.Pure := Go.Proofs.Ytihcnbhcemkncaa.O.OpaqueNone
end Go.Proofs.Ytihcnbhcemkncaa.Pure
