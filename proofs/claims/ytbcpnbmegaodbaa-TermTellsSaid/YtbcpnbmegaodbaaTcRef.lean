/-
  PROVED: Plain lemmas on numbers and lists, of what the printed functions answer. No condition beside those of each lemma.
-/
import Derived.Test.YtbcpnbmegaodbaaTcLem
import Derived.Test.YtbcpnbmegaodbaaTcLem2
import Derived.Test.YtbcpnbmegaodbaaTcLem3
import Derived.Test.YtbcpnbmegaodbaaTcx3
import Derived.Test.YtbcpnbmegaodbaaTcx4
import Derived.Test.YtbcpnbmegaodbaaTcx5
namespace Go.Proofs.Ytbcpnbmegaodbaa.Tc
open Go.RowKit Go.Proofs.YtbcpnbmegaodbaaW.PrintWords Go.Proofs.YtbcpnbmegaodbaaW.PrintLast Go.Proofs.YtbcpnbmegaodbaaW.PrintMore Go.Proofs.Ytbcpnbmegaodbaa.Ho
set_option linter.unusedVariables false
set_option linter.unusedSimpArgs false
/-! ### the document's term -/
abbrev cv (o : S41) : S82 := ⟨o.f0, o.f1⟩
def refT (t : List S41) : List S82 := t.map cv
theorem Ref_l (t : List S41) (hm : t.length < 4398046511104) (d : Nat) : ∀ (k i : Nat) (out : List S82), i ≤ t.length → t.length - i = d → d < k → out.length ≤ i →
    handshakerlaw07_Ref.l0 k out t (t.length : Int) (i : Int) = some (out ++ refT (t.drop i)) := by
  induction d with
  | zero =>
    intro k i out hi hd hk ho
    obtain ⟨k, rfl⟩ : ∃ m, k = m + 1 := ⟨k - 1, by omega⟩
    rw [List.drop_of_length_le (by omega)]
    simp only [handshakerlaw07_Ref.l0]
    rw [if_neg (by omega)]
    simp [refT]
  | succ d ih =>
    intro k i out hi hd hk ho
    obtain ⟨k, rfl⟩ : ∃ m, k = m + 1 := ⟨k - 1, by omega⟩
    rw [drop_cons t z41 i (by omega)]
    simp only [handshakerlaw07_Ref.l0]
    rw [if_pos (by omega), if_pos (by omega), if_pos (by omega), if_pos (by omega), wrN (by omega), ih k (i + 1) _ (by omega) (by omega) (by omega) (by simp; omega)]
    simp only [refT, List.map_cons, List.append_assoc, List.singleton_append]
    rfl
theorem Ref_f (k : Nat) (t : List S41) (hm : t.length < 4398046511104) (hk : t.length < k) : handshakerlaw07_Ref.f k t = some (refT t) := by
  unfold handshakerlaw07_Ref.f
  exact Ref_l t hm t.length k 0 [] (by omega) (by omega) (by omega) (by simp)
theorem ref_len (t : List S41) : (refT t).length = t.length := by simp [refT]
theorem ref_at (t : List S41) (i : Nat) (hi : i < t.length) : rd_T82 (refT t) (i : Int) = cv (t.getD i z41) := by
  unfold rd_T82 refT
  rw [List.getD_eq_getElem?_getD, List.getD_eq_getElem?_getD, List.getElem?_map]
  simp [List.getElem?_eq_getElem hi]
theorem one_f (a b : Int) : handshakerref07_one.f a b = some (mayB a b) := by
  unfold handshakerref07_one.f mayB
  rw [show handshakerref01_Right.f b = some (inR b) from by
    unfold handshakerref01_Right.f inR
    by_cases h : b ≥ (-2147483648)
    · rw [if_pos h]; simp [h]
    · rw [if_neg h]; simp [h]]
  simp only [Option.bind_some]
  split
  · rfl
  · split
    · by_cases h : b ≥ 0
      · rw [if_pos h]; congr 1; rw [decide_eq_decide]; omega
      · rw [if_neg h]; congr 1; symm; rw [decide_eq_false_iff_not]; omega
    · split
      · by_cases h : b ≥ 0
        · rw [if_pos h]; congr 1; rw [decide_eq_decide]; omega
        · rw [if_neg h]; congr 1; symm; rw [decide_eq_false_iff_not]; omega
      · by_cases h : takes a = 0
        · have : ¬ (a ≥ 4 ∧ a ≤ 11) := by
            unfold takes at h
            split at h
            · omega
            · split at h <;> omega
          rw [h]
          by_cases h4 : a ≥ 4
          · rw [if_pos h4, if_neg (fun e => this ⟨h4, e⟩)]; simp
          · rw [if_neg h4]; simp
        · have : a ≥ 4 ∧ a ≤ 11 := by
            unfold takes at h
            split at h
            · omega
            · split at h <;> omega
          rw [if_pos this.1, if_pos this.2, decide_eq_true (by omega)]; simp
/-- So many terms off the end (the last operation first): what is left. -/
def need : List S41 → Nat → Option (List S41)
  | r, 0 => some r
  | [], _ + 1 => none
  | o :: r, c + 1 => need r (c + takes o.f0)
theorem need_zero (r : List S41) : need r 0 = some r := by cases r <;> rfl
theorem need_add : ∀ (r : List S41) (a b : Nat), need r (a + b) = (need r a).bind fun s => need s b
  | r, 0, b => by rw [need_zero, Nat.zero_add]; rfl
  | [], a + 1, b => by rw [show a + 1 + b = (a + b) + 1 from by omega]; rfl
  | o :: r, a + 1, b => by
    rw [show a + 1 + b = (a + b) + 1 from by omega]
    simp only [need]
    rw [show a + b + takes o.f0 = (a + takes o.f0) + b from by omega]
    exact need_add r _ b
/-- What is left is a head of the row. -/
theorem need_suf : ∀ (r : List S41) (c : Nat) (s : List S41), need r c = some s → ∃ q, r = q ++ s ∧ c ≤ q.length
  | r, 0, s, h => by rw [need_zero] at h; cases h; exact ⟨[], rfl, by simp⟩
  | [], c + 1, s, h => by cases h
  | o :: r, c + 1, s, h => by
    obtain ⟨q, h1, h2⟩ := need_suf r _ s h
    exact ⟨o :: q, by rw [h1]; rfl, by simp; omega⟩
theorem walk_need (t : List S41) : ∀ m, walkN t 0 = some m ↔ need t.reverse m = some [] := by
  suffices ∀ (r t : List S41), t.reverse = r → ∀ m, walkN t 0 = some m ↔ need r m = some [] from this _ t rfl
  intro r
  induction r with
  | nil =>
    intro t ht m
    have : t = [] := by simpa using ht
    subst this
    cases m with
    | zero => simp [walkN, need]
    | succ m => simp [walkN, need]
  | cons o r ih =>
    intro t ht m
    have e : t = r.reverse ++ [o] := by rw [← List.reverse_reverse t, ht]; simp
    subst e
    have hi := ih r.reverse (by simp)
    rw [walkN_app]
    cases hw : walkN r.reverse 0 with
    | none =>
      simp only [Option.bind_none]
      cases m with
      | zero => simp [need]
      | succ m =>
        simp only [need]
        have := hi (m + takes o.f0)
        rw [hw] at this
        simpa using this
    | some n =>
      simp only [Option.bind_some, walkN]
      cases m with
      | zero =>
        have := takes_le o.f0
        simp only [need]
        split
        · simp
        · simp; omega
      | succ m =>
        simp only [need]
        have := hi (m + takes o.f0)
        rw [hw] at this
        rw [← this]
        split
        · simp; omega
        · simp; omega
/-- Where the term begins that ends ahead of i, or -1. -/
def startI (t : List S41) (i : Nat) : Int := match need (t.take i).reverse 1 with | some s => (s.length : Int) | none => -1
theorem take_rev (t : List S41) (i : Nat) (hi : i < t.length) : (t.take (i + 1)).reverse = t.getD i z41 :: (t.take i).reverse := by
  rw [List.take_add_one, List.getD_eq_getElem?_getD, List.getElem?_eq_getElem hi]
  simp
/-- What is left of the first i is the first so many. -/
theorem need_take {t : List S41} {i c : Nat} {s : List S41} (hi : i ≤ t.length) (h : need (t.take i).reverse c = some s) : s = (t.take s.length).reverse ∧ s.length + c ≤ i := by
  obtain ⟨q, h1, h2⟩ := need_suf _ _ _ h
  have h3 : t.take i = s.reverse ++ q.reverse := by rw [← List.reverse_reverse (t.take i), h1]; simp
  have hl : i = s.length + q.length := by
    have := congrArg List.length h3
    simp at this; omega
  refine ⟨?_, by omega⟩
  have : t.take s.length = s.reverse := by
    have e : (t.take i).take s.length = t.take s.length := by rw [List.take_take]; congr 1; omega
    rw [← e, h3]
    exact List.take_left' (by simp)
  rw [this]; simp
theorem start_f (t : List S41) (hm : t.length ≤ 12) (hmay : ∀ o ∈ t, mayB o.f0 o.f1 = true) : ∀ (n i k : Nat), i ≤ n → i ≤ t.length → i < k → handshakerref07_start.f k (refT t) ((i : Int) - 1) = some (startI t i) := by
  intro n
  induction n with
  | zero =>
    intro i k hi hl hk
    obtain ⟨k, rfl⟩ : ∃ m, k = m + 1 := ⟨k - 1, by omega⟩
    have : i = 0 := by omega
    subst this
    simp only [handshakerref07_start.f]
    rw [if_pos (by omega)]
    simp [startI, need]
  | succ n ih =>
    intro i k hi hl hk
    obtain ⟨k, rfl⟩ : ∃ m, k = m + 1 := ⟨k - 1, by omega⟩
    cases i with
    | zero =>
      simp only [handshakerref07_start.f]
      rw [if_pos (by omega)]
      simp [startI, need]
    | succ i =>
      have ei : (((i + 1 : Nat) : Int) - 1) = (i : Int) := by omega
      rw [ei]
      simp only [handshakerref07_start.f]
      rw [if_neg (by omega), if_pos (by omega), if_pos (by rw [ref_len]; omega), ref_at t i (by omega), wr (by omega) (by omega), ih i k (by omega) (by omega) (by omega)]
      simp only [Option.bind_some]
      have hmo : mayB (t.getD i z41).f0 (t.getD i z41).f1 = true := hmay _ (by
        rw [List.getD_eq_getElem?_getD, List.getElem?_eq_getElem (by omega)]; exact List.getElem_mem _)
      have e1 : startI t (i + 1) = match need (t.take i).reverse (takes (t.getD i z41).f0) with | some s => (s.length : Int) | none => -1 := by
        unfold startI
        rw [take_rev t i (by omega)]
        simp only [need, Nat.zero_add]
      rw [e1]
      have htl : ((t.take i).reverse).length = i := by simp; omega
      generalize t.getD i z41 = o at hmo ⊢
      by_cases h3 : o.f0 ≤ 3
      · have ht : takes o.f0 = 0 := by unfold takes; rw [if_neg (by omega), if_neg (by omega)]
        rw [if_pos h3, ht, need_zero]
        simp only [htl]
      · rw [if_neg h3]
        have h11 : o.f0 ≤ 11 := by
          unfold mayB at hmo
          rw [if_neg (by omega), if_neg (by omega), if_neg (by omega)] at hmo
          have ht : takes o.f0 ≠ 0 := by
            intro e; rw [e] at hmo; simp at hmo
          unfold takes at ht
          split at ht
          · omega
          · split at ht
            · omega
            · simp at ht
        by_cases h : o.f0 = 11
        · have ht : takes o.f0 = 1 := by rw [h]; decide
          rw [ht, if_pos h]
          have : startI t i = match need (t.take i).reverse 1 with | some s => (s.length : Int) | none => -1 := rfl
          rw [← this]
          split <;> rfl
        · have ht : takes o.f0 = 2 := by unfold takes; rw [if_pos (by omega)]
          rw [ht, if_neg h, show (2 : Nat) = 1 + 1 from rfl, need_add]
          unfold startI
          cases hn : need (t.take i).reverse 1 with
          | none => simp
          | some s =>
            obtain ⟨e2, e3⟩ := need_take (by omega) hn
            simp only [Option.bind_some]
            rw [if_neg (by omega), wr (by omega) (by omega), ih s.length k (by omega) (by omega) (by omega)]
            simp only [Option.bind_some]
            have e4 : startI t s.length = match need s 1 with | some s => (s.length : Int) | none => -1 := by
              unfold startI
              rw [← e2]
            rw [e4]
theorem rCheck_l (t : List S41) (hm1 : 1 ≤ t.length) (hm : t.length ≤ 12) (d : Nat) : ∀ (k i : Nat), i ≤ t.length → t.length - i = d → d + 14 < k → (∀ o ∈ t.take i, mayB o.f0 o.f1 = true) →
    handshakerref07_Check.l0 k (refT t) (i : Int) = some (checkB t) := by
  induction d with
  | zero =>
    intro k i hi hd hk hma
    obtain ⟨k, rfl⟩ : ∃ m, k = m + 1 := ⟨k - 1, by omega⟩
    rw [List.take_of_length_le (by omega)] at hma
    simp only [handshakerref07_Check.l0]
    rw [if_neg (by rw [ref_len]; omega), ref_len, wr (by omega) (by omega), start_f t hm hma t.length t.length k (by omega) (by omega) (by omega)]
    simp only [Option.bind_some]
    have hall : mayAll t = true := by unfold mayAll; exact List.all_eq_true.2 hma
    have ec : checkB t = if walkN t 0 = some 1 then 0 else 2 := by
      unfold checkB
      rw [if_pos ⟨hm1, hm, hall⟩]
    rw [ec]
    unfold startI
    rw [List.take_of_length_le (by omega)]
    have hwn := walk_need t 1
    by_cases hw : walkN t 0 = some 1
    · rw [if_pos hw, hwn.1 hw]; rfl
    · rw [if_neg hw]
      have h2 : need t.reverse 1 ≠ some [] := fun e => hw (hwn.2 e)
      cases hn : need t.reverse 1 with
      | none => rw [if_neg (by decide)]
      | some s =>
        rw [hn] at h2
        have : s ≠ [] := fun e => h2 (by rw [e])
        have : 0 < s.length := List.length_pos_iff.2 this
        rw [if_neg (by simp only; omega)]
  | succ d ih =>
    intro k i hi hd hk hma
    obtain ⟨k, rfl⟩ : ∃ m, k = m + 1 := ⟨k - 1, by omega⟩
    simp only [handshakerref07_Check.l0]
    rw [if_pos (by rw [ref_len]; omega), if_pos (by omega), ref_at t i (by omega), one_f, wrN (by omega)]
    simp only [Option.bind_some, cv]
    have hmem : t.getD i z41 ∈ t := by
      rw [List.getD_eq_getElem?_getD, List.getElem?_eq_getElem (by omega)]; exact List.getElem_mem _
    by_cases ho : mayB (t.getD i z41).f0 (t.getD i z41).f1 = true
    · rw [if_pos ho]
      refine ih k (i + 1) (by omega) (by omega) (by omega) fun o h => ?_
      rw [List.take_add_one, List.getElem?_eq_getElem (by omega)] at h
      rcases List.mem_append.1 h with h | h
      · exact hma o h
      · have : o = t.getD i z41 := by
          rw [List.getD_eq_getElem?_getD, List.getElem?_eq_getElem (by omega)]
          simpa using h
        rw [this]; exact ho
    · rw [if_neg ho]
      unfold checkB
      rw [if_neg]
      intro e
      exact ho (List.all_eq_true.1 e.2.2 _ hmem)
theorem rCheck_f (k : Nat) (t : List S41) (hk : 40 ≤ k) : handshakerref07_Check.f k (refT t) = some (checkB t) := by
  obtain ⟨k, rfl⟩ : ∃ q, k = q + 1 := ⟨k - 1, by omega⟩
  unfold handshakerref07_Check.f
  simp only [handshakerref07_Check.j0]
  rw [ref_len]
  by_cases h1 : t.length < 1
  · rw [if_pos (by omega), if_pos trivial]
    unfold checkB
    rw [if_neg (by omega)]
  · rw [if_neg (by omega)]
    by_cases h2 : t.length > 12
    · rw [if_pos (by simp; omega)]
      unfold checkB
      rw [if_neg (by omega)]
    · rw [if_neg (by simp; omega)]
      exact rCheck_l t (by omega) (by omega) t.length k 0 (by omega) (by omega) (by omega) (by simp)
end Go.Proofs.Ytbcpnbmegaodbaa.Tc
