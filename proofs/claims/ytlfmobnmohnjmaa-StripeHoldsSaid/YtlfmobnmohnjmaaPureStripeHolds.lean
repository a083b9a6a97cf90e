/-
 PROVED: what is locked is held, and by nobody else, let nothing is, and what others hold stays, for every table, two numbers and list of cells. Condition: each argument is of its kind; nothing else.
-/
import Derived.Test.YtlfmobnmohnjmaaTLem
import Derived.Test.YtlfmobnmohnjmaaTx4
import Derived.Test.YtlfmobnmohnjmaaTx9
namespace Go.Proofs.Ytlfmobnmohnjmaa.T
open Go.RowKit Go.Proofs.YtlfmobnmohnjmaaW.PrintWords Go.Proofs.YtlfmobnmohnjmaaW.PrintLast Go.Proofs.YtlfmobnmohnjmaaW.PrintMore Go.Proofs.Ytlfmobnmohnjmaa.Ho
set_option linter.unusedVariables false
set_option linter.unusedSimpArgs false
theorem Holds_l1 (t : List S67) (who other : Int) (a : List S67) (held : List Int) (y : Int) (is : List Int) (i : Int) (hl : held.length < 4398046511) (K : Nat) (r : Option Bool) (hr : ∀ k, K < k → handshakerlaw03_StripeHolds.l0 k t who other a held is (is.length : Int) (wrap64 (i + 1)) = r) (d : Nat) : ∀ (k j : Nat) (q : Bool), j ≤ held.length → held.length - j = d → d + K < k → (q = true ∨ y ∈ held.drop j) →
 handshakerlaw03_StripeHolds.l1 (k + 1) t who other a held y q is (is.length : Int) i held (held.length : Int) (j : Int) = r := by
 induction d with
 | zero =>
  intro k j q hj hd hk hq
  rw [List.drop_of_length_le (by omega)] at hq
  simp only [handshakerlaw03_StripeHolds.l1]
  rw [if_neg (by omega), if_pos (by simpa using hq)]
  exact hr k (by omega)
 | succ d ih =>
  intro k j q hj hd hk hq
  obtain ⟨k, rfl⟩ : ∃ m, k = m + 1 := ⟨k - 1, by omega⟩
  rw [drop_cons held 0 j (by omega)] at hq
  simp only [handshakerlaw03_StripeHolds.l1]
  rw [if_pos (by omega), if_pos (by omega), if_pos (by omega), wrN (by omega), show rd held (j : Int) = held.getD j 0 from rfl]
  have next := fun q hq => ih k (j + 1) q (by omega) (by omega) (by omega) hq
  simp only [handshakerlaw03_StripeHolds.l1] at next
  by_cases h1 : q = true
  · rw [if_pos h1]
    exact next true (.inl rfl)
  · rw [if_neg h1]
    refine next _ ?_
    rcases hq with h | h
    · exact absurd h h1
    · rcases List.mem_cons.1 h with h | h
      · exact .inl (by rw [h]; simp)
      · exact .inr h
theorem Holds_l0 (t : List S67) (who other : Int) (a : List S67) (held is : List Int) (hl : held.length ≤ 16) (hi : is.length ≤ 60) (hsub : ∀ y ∈ is, y ∈ held) (r : Option Bool) (hr : ∀ k, 200 ≤ k → handshakerlaw03_StripeHolds.l0 (k + 1) t who other a held is (is.length : Int) (is.length : Int) = r) (d : Nat) : ∀ (k i : Nat), i ≤ is.length → is.length - i = d → 30 * d + 300 < k →
 handshakerlaw03_StripeHolds.l0 k t who other a held is (is.length : Int) (i : Int) = r := by
 induction d with
 | zero =>
  intro k i hi' hd hk
  obtain ⟨k, rfl⟩ : ∃ m, k = m + 1 := ⟨k - 1, by omega⟩
  have : i = is.length := by omega
  subst this
  exact hr k (by omega)
 | succ d ih =>
  intro k i hi' hd hk
  obtain ⟨k, rfl⟩ : ∃ m, k = m + 2 := ⟨k - 2, by omega⟩
  obtain ⟨M, hM⟩ : ∃ M, 30 * d + 310 = M := ⟨_, rfl⟩
  have hk2 : held.length + M < k := by omega
  simp only [handshakerlaw03_StripeHolds.l0]
  rw [if_pos (by omega), if_pos (by omega), if_pos (by omega), show rd is (i : Int) = is.getD i 0 from rfl]
  refine Holds_l1 t who other a held _ is _ (by omega) M r (fun k hk => ?_) held.length k 0 false (Nat.zero_le _) (Nat.sub_zero _) hk2 (.inr ?_)
  · have hk3 : 30 * d + 300 < k := by omega
    rw [wrN (by omega)]
    exact ih k (i + 1) (by omega) (by omega) hk3
  · rw [List.drop_zero]
    exact hsub _ (getD_in is 0 i (by omega))
theorem StripeHolds : handshakerlaw03_StripeHolds.Pure := by
 intro t who other cells _ _ _ _ _ _ _ _
 obtain ⟨K, hK⟩ : ∃ K, t.length + cells.length + 9000 = K := ⟨_, rfl⟩
 refine ⟨K + 1, ?_⟩
 have aw : ∀ k, 60 ≤ k → (handshakerlaw03_awake.f k).bind (fun t => some t) = some true := fun k hk => by rw [awake3 k hk]; rfl
 have hj : handshakerlaw03_StripeHolds.j0 (K + 1) t who other cells true = some true := by
  simp only [handshakerlaw03_StripeHolds.j0, if_true]; exact aw K (by omega)
 unfold handshakerlaw03_StripeHolds.f
 by_cases h1 : (t.length : Int) > 16
 · rw [if_pos h1]; exact hj
 rw [if_neg h1]
 by_cases h2 : (cells.length : Int) > 60
 · rw [if_pos h2]; exact hj
 rw [if_neg h2, RightT_f]
 simp only [Option.bind_some]
 by_cases ht : ¬ rightT t = true
 · rw [if_neg ht]; exact hj
 replace ht := Decidable.not_not.mp ht
 rw [if_pos ht]
 by_cases hne : who = other
 · rw [show (who == other) = true from by simp [hne]]; exact hj
 rw [show (who == other) = false from by simp [hne]]
 simp only [handshakerlaw03_StripeHolds.j0]
 rw [if_neg (by decide), Lock_f K t who cells (by omega) (by omega)]
 simp only [Option.bind_some]
 have hn : 1 ≤ t.length := (rightT_ok ht).1
 rcases (lockT_cases t who cells).symm with ⟨e0, ex⟩ | ⟨e0, _, hw, hc, hf, ex⟩
 · rw [if_neg e0, ex, SameT_f K t (by omega) (by omega)]
   simp only [Option.bind_some, if_true]; exact aw K (by omega)
 · rw [if_pos e0]
   have hal := lockT_len t who cells
   have har := lockT_right ht who cells
   have hwr := whoT_rng hw
   have hrng := ofL_rng (n := t.length) (by omega) (negB_no hc)
   have hol := ofL_len t.length cells
   have a_at : ∀ i, i < t.length → (((lockT t who cells).1.getD i z67).f1 = if inL (ofL t.length cells) i = true then who else (t.getD i z67).f1) := fun i hi => by
    rw [ex, upd_at _ _ t i hi]
    split <;> rfl
   have eh : heldT (lockT t who cells).1 who = heldL (lockT t who cells).1 who := by unfold heldT; rw [har, hw]; rfl
   have eht : heldT t who = heldL t who := by unfold heldT; rw [ht, hw]; rfl
   have eo : ofT t cells = ofL t.length cells := by unfold ofT; rw [ht, hc]; rfl
   -- what others hold stays
   have ho : heldT (lockT t who cells).1 other = heldT t other := held_ext har ht other hal fun hwo i hi => by
    rw [hal] at hi
    rw [a_at i hi]
    have hor := whoT_rng hwo
    by_cases hp : inL (ofL t.length cells) i = true
    · rw [if_pos hp]
      have := hf _ ((inL_iff _ _).1 hp)
      unfold freeT at this
      rw [Int.toNat_natCast] at this
      simp only [Bool.or_eq_true, beq_iff_eq] at this
      omega
    · rw [if_neg hp]
   have hge : (heldL t who).length ≤ (heldL (lockT t who cells).1 who).length := by
    unfold heldL
    rw [List.length_map, List.length_map, ← List.countP_eq_length_filter, ← List.countP_eq_length_filter, hal]
    refine List.countP_mono_left fun i hi h => ?_
    rw [beq_iff_eq] at h ⊢
    rw [a_at i (List.mem_range.1 hi)]
    split
    · rfl
    · exact h
   have hsub : ∀ y ∈ ofL t.length cells, y ∈ heldL (lockT t who cells).1 who := fun y hy => by
    have hy2 := hrng y hy
    obtain ⟨i, rfl⟩ : ∃ i : Nat, y = (i : Int) := ⟨y.toNat, by omega⟩
    rw [heldL_mem, hal]
    refine ⟨by omega, ?_⟩
    rw [a_at i (by omega), if_pos ((inL_iff _ _).2 hy)]
   rw [Held_f K _ who (by omega) (by omega), Of_f K t cells (by omega) (by omega), eh, eo]
   simp only [Option.bind_some]
   generalize (lockT t who cells).1 = a at *
   have hhl := heldL_len a who
   have hll := letT_len a who
   have hlr := letT_right har who
   have hlo : heldT (letT a who) other = heldT a other := held_ext hlr har other hll fun hwo i hi => by
    rw [hll] at hi
    rw [letT_at har hw i hi]
    have hor := whoT_rng hwo
    split
    · rename_i g
      unfold free; simp only; omega
    · rfl
   refine Holds_l0 t who other a _ _ (by omega) (by omega) hsub (some true) (fun k hk => ?_) (ofL t.length cells).length K 0 (by omega) (by omega) (by omega)
   simp only [handshakerlaw03_StripeHolds.l0]
   rw [if_neg (by omega), Let_f k a who (by omega) (by omega)]
   simp only [Option.bind_some]
   have hon := heldT_len t other
   rw [Held_f k (letT a who) who (by omega) (by omega), Held_f k t who (by omega) (by omega), Held_f k a other (by omega) (by omega), Held_f k t other (by omega) (by omega), Held_f k (letT a who) other (by omega) (by omega), held_let har, hlo, ho, eht, RightT_f, RightT_f, har, hlr]
   simp only [Option.bind_some, List.length_nil, if_true]
   rw [if_pos (by omega), if_pos (by omega), Numbers_f k _ (by omega) (by omega)]
   simp only [Option.bind_some, if_true]; exact aw k (by omega)
end Go.Proofs.Ytlfmobnmohnjmaa.T
namespace Go.Proofs.Ytlfmobnmohnjmaa.Pure
theorem StripeHolds : Go.Proofs.Ytlfmobnmohnjmaa.T.handshakerlaw03_StripeHolds.Pure := Go.Proofs.Ytlfmobnmohnjmaa.T.StripeHolds
end Go.Proofs.Ytlfmobnmohnjmaa.Pure
