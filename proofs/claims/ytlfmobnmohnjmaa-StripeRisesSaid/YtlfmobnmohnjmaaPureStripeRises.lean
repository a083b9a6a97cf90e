/-
 PROVED: versions never fall, whatever is locked, let and stamped, for every table, two numbers and list of cells. Condition: each argument is of its kind; nothing else.
-/
import Derived.Test.YtlfmobnmohnjmaaTLem
import Derived.Test.YtlfmobnmohnjmaaTx4
import Derived.Test.YtlfmobnmohnjmaaTx11
namespace Go.Proofs.Ytlfmobnmohnjmaa.T
open Go.RowKit Go.Proofs.YtlfmobnmohnjmaaW.PrintWords Go.Proofs.YtlfmobnmohnjmaaW.PrintLast Go.Proofs.YtlfmobnmohnjmaaW.PrintMore Go.Proofs.Ytlfmobnmohnjmaa.Ho
set_option linter.unusedVariables false
set_option linter.unusedSimpArgs false
theorem Rises_l (t a s l : List S67) (who v e : Int) (ht : t.length ≤ 16) (la : a.length = t.length) (ls : s.length = t.length) (ll : l.length = t.length) (ha : ∀ i, i < t.length → (a.getD i z67).f0 = (t.getD i z67).f0) (hl : ∀ i, i < t.length → (l.getD i z67).f0 = (t.getD i z67).f0) (hs : ∀ i, i < t.length → (s.getD i z67).f0 = (t.getD i z67).f0 ∨ ((t.getD i z67).f0 < (s.getD i z67).f0 ∧ (a.getD i z67).f1 = who ∧ (s.getD i z67).f0 = v)) (he : e ≠ 0 → s = a) (d : Nat) : ∀ (k i : Nat), i ≤ t.length → t.length - i = d → d + 200 < k →
 handshakerlaw03_StripeRises.l0 k who v a s e l t (t.length : Int) (i : Int) = some true := by
 induction d with
 | zero =>
  intro k i hi hd hk
  obtain ⟨k, rfl⟩ : ∃ m, k = m + 1 := ⟨k - 1, by omega⟩
  have aw : (handshakerlaw03_awake.f k).bind (fun t => some t) = some true := by rw [awake3 k (by omega)]; rfl
  simp only [handshakerlaw03_StripeRises.l0]
  rw [if_neg (by omega)]
  by_cases h : e = 0
  · rw [if_pos h]; exact aw
  · rw [if_neg h, he h, SameT_f k a (by omega) (by omega)]
    simp only [Option.bind_some, if_true]; exact aw
 | succ d ih =>
  intro k i hi hd hk
  obtain ⟨k, rfl⟩ : ∃ m, k = m + 1 := ⟨k - 1, by omega⟩
  have next := ih k (i + 1) (by omega) (by omega) (by omega)
  have h1 := ha i (by omega)
  have h2 := hl i (by omega)
  have h3 := hs i (by omega)
  simp only [handshakerlaw03_StripeRises.l0]
  rw [if_pos (by omega), if_pos (by omega), if_pos (by omega), if_pos (by omega), if_pos (show (rd_T67 a (i : Int)).f0 = (rd_T67 t (i : Int)).f0 from h1), if_pos (by omega), if_pos (show (rd_T67 l (i : Int)).f0 = (rd_T67 t (i : Int)).f0 from h2), if_pos (by omega), wrN (by omega)]
  rcases h3 with h3 | ⟨h3, h4, h5⟩
  · rw [if_neg (show ¬ (rd_T67 s (i : Int)).f0 < (rd_T67 t (i : Int)).f0 from by show ¬ (s.getD i z67).f0 < (t.getD i z67).f0; omega), if_pos (show (rd_T67 s (i : Int)).f0 = (rd_T67 t (i : Int)).f0 from h3)]
    exact next
  · rw [if_neg (show ¬ (rd_T67 s (i : Int)).f0 < (rd_T67 t (i : Int)).f0 from by show ¬ (s.getD i z67).f0 < (t.getD i z67).f0; omega), if_neg (show ¬ (rd_T67 s (i : Int)).f0 = (rd_T67 t (i : Int)).f0 from by show ¬ (s.getD i z67).f0 = (t.getD i z67).f0; omega), if_pos (show (rd_T67 a (i : Int)).f1 = who from h4), if_pos (show (rd_T67 s (i : Int)).f0 = v from h5)]
    exact next
theorem StripeRises : handshakerlaw03_StripeRises.Pure := by
 intro t who v cells _ _ _ _ _ _ _ _
 obtain ⟨K, hK⟩ : ∃ K, t.length + cells.length + 900 = K := ⟨_, rfl⟩
 refine ⟨K + 2, ?_⟩
 have hj : handshakerlaw03_StripeRises.j0 (K + 2) t who v cells true = some true := by
  simp only [handshakerlaw03_StripeRises.j0, if_true]; rw [awake3 (K + 1) (by omega)]; rfl
 unfold handshakerlaw03_StripeRises.f
 by_cases h1 : (t.length : Int) > 16
 · rw [if_pos h1]; exact hj
 rw [if_neg h1]
 by_cases h2 : (cells.length : Int) > 60
 · rw [if_pos h2]; exact hj
 rw [if_neg h2, RightT_f]
 simp only [Option.bind_some]
 by_cases ht : ¬ rightT t = true
 · rw [show rightT t = false from by simpa using ht]; exact hj
 replace ht := Decidable.not_not.mp ht
 rw [ht]
 have la := lockT_len t who cells
 have ra := lockT_right ht who cells
 have ha : ∀ i, i < t.length → ((lockT t who cells).1.getD i z67).f0 = (t.getD i z67).f0 := fun i hi => by
  rcases lockT_cases t who cells with ⟨_, _, _, _, _, ex⟩ | ⟨_, ex⟩
  · rw [ex, upd_at _ _ t i hi]
    split <;> rfl
  · rw [ex]
 simp only [handshakerlaw03_StripeRises.j0]
 rw [if_neg (by decide), Lock_f (K + 1) t who cells (by omega) (by omega)]
 simp only [Option.bind_some]
 generalize (lockT t who cells).1 = a at *
 rw [Stamp_f (K + 1) a who v (by omega) (by omega), Let_f (K + 1) a who (by omega) (by omega)]
 simp only [Option.bind_some]
 have ll := letT_len a who
 have hl : ∀ i, i < t.length → ((letT a who).getD i z67).f0 = (t.getD i z67).f0 := fun i hi => by
  rw [← ha i hi]
  by_cases hw : whoT who = true
  · rw [letT_at ra hw i (by omega)]
    split <;> rfl
  · rw [letT_no (by unfold heldT; rw [show whoT who = false from by simpa using hw, Bool.and_false]; rfl)]
 have hs : (stampT a who v).1.length = t.length ∧ (∀ i, i < t.length → ((stampT a who v).1.getD i z67).f0 = (t.getD i z67).f0 ∨ ((t.getD i z67).f0 < ((stampT a who v).1.getD i z67).f0 ∧ (a.getD i z67).f1 = who ∧ ((stampT a who v).1.getD i z67).f0 = v)) ∧ ((stampT a who v).2 ≠ 0 → (stampT a who v).1 = a) := by
  unfold stampT
  split
  · split
    · rename_i g
      refine ⟨by simp only [upd_len]; exact la, fun i hi => ?_, fun h => absurd rfl h⟩
      simp only
      rw [upd_at _ _ a i (by omega)]
      by_cases hp : (a.getD i z67).f1 = who
      · rw [if_pos (beq_iff_eq.2 hp)]
        have := List.all_eq_true.1 g.2.2 _ ((heldL_mem a who i).2 ⟨by omega, hp⟩)
        rw [Int.toNat_natCast, decide_eq_true_eq, ha i hi] at this
        exact .inr ⟨this, hp, rfl⟩
      · rw [if_neg (fun h => hp (beq_iff_eq.1 h))]
        exact .inl (ha i hi)
    · exact ⟨la, fun i hi => .inl (ha i hi), fun _ => rfl⟩
  · exact ⟨la, fun i hi => .inl (ha i hi), fun _ => rfl⟩
 obtain ⟨ls, hs1, hs2⟩ := hs
 rw [if_pos (by omega), if_pos (by omega), show (((letT a who).length : Int) != (t.length : Int)) = false from by simp; omega]
 simp only [handshakerlaw03_StripeRises.j1]
 rw [if_neg (by decide)]
 exact Rises_l t a _ _ who v _ (by omega) la ls (by omega) ha hl hs1 hs2 t.length K 0 (by omega) (by omega) (by omega)
end Go.Proofs.Ytlfmobnmohnjmaa.T
namespace Go.Proofs.Ytlfmobnmohnjmaa.Pure
theorem StripeRises : Go.Proofs.Ytlfmobnmohnjmaa.T.handshakerlaw03_StripeRises.Pure := Go.Proofs.Ytlfmobnmohnjmaa.T.StripeRises
end Go.Proofs.Ytlfmobnmohnjmaa.Pure
