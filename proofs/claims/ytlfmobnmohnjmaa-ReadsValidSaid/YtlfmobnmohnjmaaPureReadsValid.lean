/-
  PROVED: whether any reads are valid by any table to anybody, and whether any heap has just these values, is what the document says, for every list of reads, table, number and heap. Condition: each argument is of its kind; nothing else.
-/
import Derived.Test.YtlfmobnmohnjmaaRLem
import Derived.Test.YtlfmobnmohnjmaaRRef
import Derived.Test.YtlfmobnmohnjmaaRx5
import Derived.Test.YtlfmobnmohnjmaaRx10
import Derived.Test.YtlfmobnmohnjmaaRx11
import Derived.Test.YtlfmobnmohnjmaaRx12
namespace Go.Proofs.Ytlfmobnmohnjmaa.R
open Go.RowKit Go.Proofs.YtlfmobnmohnjmaaW.PrintWords Go.Proofs.YtlfmobnmohnjmaaW.PrintLast Go.Proofs.YtlfmobnmohnjmaaW.PrintMore Go.Proofs.Ytlfmobnmohnjmaa.Ho
set_option linter.unusedVariables false
set_option linter.unusedSimpArgs false
theorem rWho_f (a : Int) : handshakerref03_Who.f a = some (whoB a) := by
  unfold handshakerref03_Who.f whoB
  by_cases h : a > 0
  · rw [if_pos h]; congr 1; rw [decide_eq_decide]; omega
  · rw [if_neg h]; congr 1; symm; rw [decide_eq_false_iff_not]; omega
theorem rRightT_l (t : List S67) (hm : t.length < 4398046511) (d : Nat) : ∀ (k i : Nat), i ≤ t.length → t.length - i = d → d < k →
    handshakerref03_Right.l0 k t (i : Int) = some (decide (1 ≤ t.length ∧ t.length ≤ 16) && (t.drop i).all okT) := by
  induction d with
  | zero =>
    intro k i hi hd hk
    obtain ⟨k, rfl⟩ : ∃ m, k = m + 1 := ⟨k - 1, by omega⟩
    rw [List.drop_of_length_le (by omega)]
    simp only [handshakerref03_Right.l0]
    rw [if_neg (by omega), List.all_nil, Bool.and_true]
    by_cases h : (t.length : Int) > 0
    · rw [if_pos h]; congr 1; rw [decide_eq_decide]; omega
    · rw [if_neg h]; congr 1; symm; rw [decide_eq_false_iff_not]; omega
  | succ d ih =>
    intro k i hi hd hk
    obtain ⟨k, rfl⟩ : ∃ m, k = m + 1 := ⟨k - 1, by omega⟩
    rw [drop_cons t z67 i (by omega), List.all_cons]
    simp only [handshakerref03_Right.l0]
    rw [if_pos (by omega), if_pos (by omega), wrN (by omega), show rd_T67 t (i : Int) = t.getD i z67 from rfl, ih k (i + 1) (by omega) (by omega) (by omega)]
    generalize t.getD i z67 = x
    unfold okT tickB
    by_cases h0 : x.f0 < 0
    · rw [if_pos h0, decide_eq_false (show ¬ (0 ≤ x.f0 ∧ x.f0 ≤ 2147483647) by omega)]; simp
    · rw [if_neg h0]
      by_cases h1 : x.f0 > 2147483647
      · rw [if_pos h1, decide_eq_false (show ¬ (0 ≤ x.f0 ∧ x.f0 ≤ 2147483647) by omega)]; simp
      · rw [if_neg h1, decide_eq_true (show 0 ≤ x.f0 ∧ x.f0 ≤ 2147483647 by omega)]
        by_cases h2 : x.f1 < 0
        · rw [if_pos h2, decide_eq_false (show ¬ (0 ≤ x.f1 ∧ x.f1 ≤ 8) by omega)]; simp
        · rw [if_neg h2]
          by_cases h3 : x.f1 > 8
          · rw [if_pos h3, decide_eq_false (show ¬ (0 ≤ x.f1 ∧ x.f1 ≤ 8) by omega)]; simp
          · rw [if_neg h3, decide_eq_true (show 0 ≤ x.f1 ∧ x.f1 ≤ 8 by omega)]; simp
theorem rRightT_f (k : Nat) (t : List S67) (hm : t.length < 4398046511) (hk : t.length < k) : handshakerref03_Right.f k t = some (rightT t) := by
  unfold handshakerref03_Right.f rightT
  have := rRightT_l t hm t.length k 0 (by omega) (by omega) (by omega)
  simpa using this
theorem rValidR_l (l : List S24) (t : List S67) (who : Int) (hm : l.length < 4398046511) (hr : rightR l = true) (ht : rightT t = true) (d : Nat) : ∀ (k i : Nat), i ≤ l.length → l.length - i = d → d < k →
    handshakerref05_Valid.l0 k l t who (i : Int) = some (if (l.drop i).all (okV t who) = true then 0 else 8) := by
  have hp := ((rightR_iff l).1 hr).2.1
  have hn := (rightT_ok ht).1
  have ho := (rightT_ok ht).2.2
  induction d with
  | zero =>
    intro k i hi hd hk
    obtain ⟨k, rfl⟩ : ∃ m, k = m + 1 := ⟨k - 1, by omega⟩
    rw [List.drop_of_length_le (by omega)]
    simp only [handshakerref05_Valid.l0]
    rw [if_neg (by omega)]; rfl
  | succ d ih =>
    intro k i hi hd hk
    obtain ⟨k, rfl⟩ : ∃ m, k = m + 1 := ⟨k - 1, by omega⟩
    have hx := ((okR_eq _).1 (hp _ (getD_in l z24 i (by omega)))).1
    have next := ih k (i + 1) (by omega) (by omega) (by omega)
    rw [drop_cons l z24 i (by omega), List.all_cons]
    simp only [handshakerref05_Valid.l0]
    rw [show rd_T24 l (i : Int) = l.getD i z24 from rfl]
    unfold okV
    generalize l.getD i z24 = x at *
    obtain ⟨m, e1, e2, e3⟩ := tmodN x.f0 t.length hx (by omega)
    have hy := ho _ (getD_in t z67 m e2)
    rw [e1, if_pos (by omega), if_pos (by omega), if_neg (by omega), if_pos (by omega), if_pos (by omega), wrN (by omega), show rd_T67 t (m : Int) = t.getD m z67 from rfl, next, ← e3]
    generalize t.getD m z67 = y at *
    unfold okV
    generalize (l.drop (i + 1)).all _ = q
    unfold okT at hy
    rw [Bool.and_eq_true, decide_eq_true_eq] at hy
    by_cases h1 : y.f0 = x.f1
    · rw [if_pos h1, beq_iff_eq.2 h1, Bool.true_and]
      by_cases h2 : y.f1 = 0
      · rw [if_neg (by omega), beq_iff_eq.2 h2]; rfl
      · rw [if_pos (by omega), beq_eq_false_iff_ne.2 h2]
        by_cases h3 : y.f1 = who
        · rw [if_pos h3, beq_iff_eq.2 h3]; rfl
        · rw [if_neg h3, beq_eq_false_iff_ne.2 h3]; rfl
    · rw [if_neg h1, beq_eq_false_iff_ne.2 h1]; rfl
theorem rValidR_f (k : Nat) (l : List S24) (t : List S67) (who : Int) (hm : l.length ≤ 64) (ht : t.length ≤ 64) (hk : 5001 < k) : handshakerref05_Valid.f k l t who = some (validR l t who) := by
  obtain ⟨k, rfl⟩ : ∃ m, k = m + 1 := ⟨k - 1, by omega⟩
  unfold handshakerref05_Valid.f validR
  rw [rRightR_f (k + 1) l hm (by omega), rRightT_f (k + 1) t (by omega) (by omega), rWho_f]
  simp only [Option.bind_some]
  by_cases h1 : rightR l = true
  · rw [if_pos h1, h1]
    by_cases h2 : rightT t = true
    · rw [if_pos h2, h2]
      simp only [handshakerref05_Valid.j0]
      cases hw : whoB who with
      | true =>
        rw [if_neg (by decide), if_pos (show (true && true && true) = true from rfl)]
        have := rValidR_l l t who (by omega) h1 h2 l.length k 0 (by omega) (by omega) (by omega)
        simpa using this
      | false => rw [if_pos (by decide), if_neg (by decide)]
    · rw [if_neg h2, show rightT t = false from by simpa using h2]
      simp only [handshakerref05_Valid.j0]
      rw [if_pos trivial]; rfl
  · rw [if_neg h1, show rightR l = false from by simpa using h1]
    simp only [handshakerref05_Valid.j0]
    rw [if_pos trivial]; rfl
theorem okS_in {h : List S73} (hh : RightB h = true) (x : S24) : okS h x = (there h x.f0 && ((h.getD x.f0.toNat z73).f1 == x.f2)) := by
  unfold okS getB
  rw [if_pos hh]
  cases there h x.f0 <;> simp
theorem rStill_l (l : List S24) (h : List S73) (hm : l.length < 4398046511) (hr : rightR l = true) (hh : RightB h = true) (d : Nat) : ∀ (k i : Nat), i ≤ l.length → l.length - i = d → d + 100 < k →
    handshakerref05_Still.l0 k l h (i : Int) = some ((l.drop i).all (okS h)) := by
  have hp := ((rightR_iff l).1 hr).2.1
  have hl := (Right_len hh).2.1
  induction d with
  | zero =>
    intro k i hi hd hk
    obtain ⟨k, rfl⟩ : ∃ m, k = m + 1 := ⟨k - 1, by omega⟩
    rw [List.drop_of_length_le (by omega)]
    simp only [handshakerref05_Still.l0]
    rw [if_neg (by omega)]; rfl
  | succ d ih =>
    intro k i hi hd hk
    obtain ⟨k, rfl⟩ : ∃ m, k = m + 1 := ⟨k - 1, by omega⟩
    have hx := ((okR_eq _).1 (hp _ (getD_in l z24 i (by omega)))).1
    have next := ih k (i + 1) (by omega) (by omega) (by omega)
    rw [drop_cons l z24 i (by omega), List.all_cons]
    simp only [handshakerref05_Still.l0]
    rw [show rd_T24 l (i : Int) = l.getD i z24 from rfl]
    generalize l.getD i z24 = x at *
    rw [if_pos (by omega), if_pos (by omega), wrN (by omega), rLive_f k h (by omega) (by omega), next, okS_in hh]
    simp only [Option.bind_some]
    cases ht : there h x.f0 with
    | true =>
      obtain ⟨t0, t1, _⟩ := there_rng ht
      rw [if_pos rfl, if_pos (by omega), if_pos t1]
      by_cases e : (h.getD x.f0.toNat z73).f1 = x.f2
      · rw [if_pos (show (rd_T73 h x.f0).f1 = x.f2 from e), beq_iff_eq.2 e]; rfl
      · rw [if_neg (show ¬ (rd_T73 h x.f0).f1 = x.f2 from e), beq_eq_false_iff_ne.2 e]; rfl
    | false => rw [if_neg (by decide)]; rfl
theorem rStill_f (k : Nat) (l : List S24) (h : List S73) (hm : l.length ≤ 64) (hh : h.length ≤ 200) (hk : 5001 < k) : handshakerref05_Still.f k l h = some (sameR l h) := by
  obtain ⟨k, rfl⟩ : ∃ m, k = m + 1 := ⟨k - 1, by omega⟩
  unfold handshakerref05_Still.f sameR
  rw [rRightR_f (k + 1) l hm (by omega), rRight_f (k + 1) h (by omega) (by omega)]
  simp only [Option.bind_some]
  by_cases h1 : rightR l = true
  · rw [if_pos h1, h1]
    cases h2 : RightB h with
    | true =>
      simp only [handshakerref05_Still.j0]
      rw [if_neg (by decide)]
      have := rStill_l l h (by omega) h1 h2 l.length k 0 (by omega) (by omega) (by omega)
      simpa using this
    | false =>
      simp only [handshakerref05_Still.j0]
      rw [if_pos (by decide)]; rfl
  · rw [if_neg h1, show rightR l = false from by simpa using h1]
    simp only [handshakerref05_Still.j0]
    rw [if_pos trivial]; rfl
theorem ReadsValid : handshakerlaw05_ReadsValid.Pure := by
  intro l t who h _ _ _ _ _ _ _ _ _ _
  obtain ⟨K, hK⟩ : ∃ K, l.length + 6000 = K := ⟨_, rfl⟩
  refine ⟨K + 1, ?_⟩
  have aw : (handshakerlaw05_awake.f K).bind (fun t => some t) = some true := by rw [awake5 K (by omega)]; rfl
  have hj : handshakerlaw05_ReadsValid.j0 (K + 1) l t who h true = some true := by
    simp only [handshakerlaw05_ReadsValid.j0, if_true]; exact aw
  unfold handshakerlaw05_ReadsValid.f
  by_cases h1 : (l.length : Int) > 40
  · rw [if_pos h1]; exact hj
  rw [if_neg h1]
  by_cases h2 : (t.length : Int) > 30
  · rw [if_pos h2]; exact hj
  rw [if_neg h2]
  by_cases h3 : (h.length : Int) > 100
  · rw [decide_eq_true h3]; exact hj
  rw [decide_eq_false h3]
  simp only [handshakerlaw05_ReadsValid.j0]
  rw [if_neg (by decide), ValidR_f K l t who (by omega) (by omega), rValidR_f K l t who (by omega) (by omega) (by omega), SameH_f K l h (by omega) (by omega), rStill_f K l h (by omega) (by omega) (by omega)]
  simp only [Option.bind_some, if_true]
  cases sameR l h <;> simp only [if_true, if_false, Bool.false_eq_true] <;> exact aw
end Go.Proofs.Ytlfmobnmohnjmaa.R
namespace Go.Proofs.Ytlfmobnmohnjmaa.Pure
theorem ReadsValid : Go.Proofs.Ytlfmobnmohnjmaa.R.handshakerlaw05_ReadsValid.Pure := Go.Proofs.Ytlfmobnmohnjmaa.R.ReadsValid
end Go.Proofs.Ytlfmobnmohnjmaa.Pure
