/-
  PROVED: Plain lemmas on numbers and lists, of what the printed functions answer. No condition beside those of each lemma.
-/
import Derived.Test.YtlfmobnmohnjmaaRLem
import Derived.Test.YtlfmobnmohnjmaaRx4
import Derived.Test.YtlfmobnmohnjmaaRx5
import Derived.Test.YtlfmobnmohnjmaaRx6
import Derived.Test.YtlfmobnmohnjmaaRx7
import Derived.Test.YtlfmobnmohnjmaaRx8
import Derived.Test.YtlfmobnmohnjmaaRx10
namespace Go.Proofs.Ytlfmobnmohnjmaa.R
open Go.RowKit Go.Proofs.YtlfmobnmohnjmaaW.PrintWords Go.Proofs.YtlfmobnmohnjmaaW.PrintLast Go.Proofs.YtlfmobnmohnjmaaW.PrintMore Go.Proofs.Ytlfmobnmohnjmaa.Ho
set_option linter.unusedVariables false
set_option linter.unusedSimpArgs false
theorem rright_f (a : Int) : handshakerref01_Right.f a = some (inR a) := by
  unfold handshakerref01_Right.f inR
  by_cases h : a ≥ (-2147483648)
  · rw [if_pos h]; simp [h]
  · rw [if_neg h]; simp [h]
theorem rRight_l (h : List S73) (hm : h.length < 4398046511104) (d : Nat) : ∀ (k i : Nat), i ≤ h.length → h.length - i = d → d < k →
    handshakerref02_Right.l0 k h (i : Int) = some ((h.drop i).all okC && decide (0 < h.length) && decide (h.length < 65)) := by
  induction d with
  | zero =>
    intro k i hi hd hk
    obtain ⟨k, rfl⟩ : ∃ m, k = m + 1 := ⟨k - 1, by omega⟩
    simp only [handshakerref02_Right.l0]
    rw [if_neg (by omega), List.drop_of_length_le (by omega)]
    by_cases h0 : (h.length : Int) > 0
    · rw [if_pos h0, decide_eq_true (show 0 < h.length by omega)]
      simp only [List.all_nil, Bool.true_and, Option.some.injEq]
      rw [decide_eq_decide]; omega
    · rw [if_neg h0, decide_eq_false (show ¬ 0 < h.length by omega)]; simp
  | succ d ih =>
    intro k i hi hd hk
    obtain ⟨k, rfl⟩ : ∃ m, k = m + 1 := ⟨k - 1, by omega⟩
    simp only [handshakerref02_Right.l0]
    rw [if_pos (by omega), if_pos (by omega), rright_f, wrN (by omega), drop_cons h z73 i (by omega), ih k (i + 1) (by omega) (by omega) (by omega)]
    rw [show rd_T73 h (i : Int) = h.getD i z73 from rfl]
    simp only [Option.bind_some, List.all_cons, okC]
    generalize h.getD i z73 = c
    cases inR c.f1 <;> cases c.f0 <;> simp
    by_cases e : c.f1 = 0
    · simp [e]
    · simp [e]
theorem rRight_f (k : Nat) (h : List S73) (hm : h.length < 4398046511104) (hk : h.length < k) : handshakerref02_Right.f k h = some (RightB h) := by
  unfold handshakerref02_Right.f RightB
  have := rRight_l h hm h.length k 0 (by omega) (by omega) (by omega)
  rw [show ((0 : Nat) : Int) = 0 from rfl] at this
  rw [this, List.drop_zero]
  congr 1
  rw [Bool.eq_iff_iff]
  simp only [Bool.and_eq_true, decide_eq_true_eq]
  constructor
  · rintro ⟨⟨a, b⟩, c⟩; exact ⟨⟨by omega, by omega⟩, a⟩
  · rintro ⟨⟨a, b⟩, c⟩; exact ⟨⟨c, by omega⟩, by omega⟩
theorem rLive_l (h : List S73) (hm : h.length < 4398046511104) (c : Int) (d : Nat) : ∀ (k i : Nat), i ≤ h.length → h.length - i = d → d < k → (0 ≤ c → (i : Int) ≤ c) →
    handshakerref02_Live.l0 k h c (i : Int) = some (there h c) := by
  induction d with
  | zero =>
    intro k i hi hd hk hc
    obtain ⟨k, rfl⟩ : ∃ m, k = m + 1 := ⟨k - 1, by omega⟩
    simp only [handshakerref02_Live.l0]
    rw [if_neg (by omega)]
    unfold there
    rw [decide_eq_false (by omega)]; rfl
  | succ d ih =>
    intro k i hi hd hk hc
    obtain ⟨k, rfl⟩ : ∃ m, k = m + 1 := ⟨k - 1, by omega⟩
    simp only [handshakerref02_Live.l0]
    rw [if_pos (by omega), wrN (by omega)]
    by_cases e : (i : Int) = c
    · rw [if_pos e, if_pos (by omega)]
      subst e
      unfold there
      rw [decide_eq_true (by omega)]; rfl
    · rw [if_neg e]
      exact ih k (i + 1) (by omega) (by omega) (by omega) (by omega)
theorem rLive_f (k : Nat) (h : List S73) (hm : h.length < 4398046511104) (hk : h.length < k) (c : Int) : handshakerref02_Live.f k h c = some (there h c) := by
  unfold handshakerref02_Live.f
  exact rLive_l h hm c h.length k 0 (by omega) (by omega) (by omega) (by omega)
/-! ### the document's reads -/
theorem rtick_f (a : Int) : handshakerref04_Right.f a = some (tickB a) := by
  unfold handshakerref04_Right.f tickB
  by_cases h : a ≥ 0
  · rw [if_pos h]; congr 1; rw [decide_eq_decide]; omega
  · rw [if_neg h]; congr 1; symm; rw [decide_eq_false_iff_not]; omega
theorem roneR_f (r : S24) : handshakerref05_one.f r.f0 r.f1 r.f2 = some (okR r) := by
  unfold handshakerref05_one.f okR
  rw [rtick_f, rright_f]
  simp only [Option.bind_some]
  cases tickB r.f1 <;> cases inR r.f2 <;> simp
theorem rRightR_l1 (l : List S24) (hm : l.length < 4398046511104) (i : Nat) (hi : i < l.length) (K : Nat) (r : Option Bool) (h1 : ∀ k, K < k → (∀ m, m < i → (l.getD m z24).f0 ≠ (l.getD i z24).f0) → handshakerref05_Right.l0 k l (wrap64 ((i : Int) + 1)) = r) (h2 : ¬ (∀ m, m < i → (l.getD m z24).f0 ≠ (l.getD i z24).f0) → r = some false) (d : Nat) : ∀ (k j : Nat), j ≤ i → i - j = d → d + K + 1 < k → (∀ m, m < j → (l.getD m z24).f0 ≠ (l.getD i z24).f0) →
    handshakerref05_Right.l1 k l (i : Int) (j : Int) = r := by
  induction d with
  | zero =>
    intro k j hj hd hk h
    obtain ⟨k, rfl⟩ : ∃ m, k = m + 1 := ⟨k - 1, by omega⟩
    simp only [handshakerref05_Right.l1]
    rw [if_neg (by omega)]
    exact h1 k (by omega) (fun m hm => h m (by omega))
  | succ d ih =>
    intro k j hj hd hk h
    obtain ⟨k, rfl⟩ : ∃ m, k = m + 1 := ⟨k - 1, by omega⟩
    simp only [handshakerref05_Right.l1]
    rw [if_pos (by omega), if_pos (by omega), if_pos (by omega), if_pos (by omega), if_pos (by omega), wrN (by omega), show rd_T24 l (j : Int) = l.getD j z24 from rfl, show rd_T24 l (i : Int) = l.getD i z24 from rfl]
    by_cases e : (l.getD j z24).f0 = (l.getD i z24).f0
    · rw [if_pos e, h2 (fun e' => e' j (by omega) e)]
    · rw [if_neg e]
      refine ih k (j + 1) (by omega) (by omega) (by omega) fun m hm => ?_
      by_cases e2 : m = j
      · subst e2; exact e
      · exact h m (by omega)
theorem rRightR_l0 (l : List S24) (hm : l.length < 4398046511104) (d : Nat) : ∀ (k i : Nat), i ≤ l.length → l.length - i = d → (d + 1) * (l.length + 3) < k → (∀ x ∈ l.take i, okR x = true) → (l.take i).Pairwise (fun a b => a.f0 ≠ b.f0) →
    handshakerref05_Right.l0 k l (i : Int) = some (rightR l) := by
  induction d with
  | zero =>
    intro k i hi hd hk h1 h2
    obtain ⟨k, rfl⟩ : ∃ m, k = m + 1 := ⟨k - 1, by omega⟩
    rw [List.take_of_length_le (by omega)] at h1 h2
    simp only [handshakerref05_Right.l0]
    rw [if_neg (by omega)]
    unfold rightR
    congr 1
    rw [decide_eq_decide]
    exact ⟨fun h => ⟨by omega, h1, h2⟩, fun h => by have := h.1; omega⟩
  | succ d ih =>
    intro k i hi hd hk h1 h2
    rw [Nat.succ_mul] at hk
    obtain ⟨k, rfl⟩ : ∃ m, k = m + 1 := ⟨k - 1, by omega⟩
    have hmem := getD_in l z24 i (by omega)
    have no : ¬ okR (l.getD i z24) = true → some false = some (rightR l) := fun h => by rw [rightR_no (fun e => h (e.2.1 _ hmem))]
    simp only [handshakerref05_Right.l0]
    rw [if_pos (by omega), if_pos (by omega), show rd_T24 l (i : Int) = l.getD i z24 from rfl, roneR_f]
    simp only [Option.bind_some]
    by_cases a1 : okR (l.getD i z24) = true
    · rw [if_pos a1]
      refine rRightR_l1 l hm i (by omega) ((d + 1) * (l.length + 3)) _ (fun k hk hne => ?_) (fun hne => ?_) i k 0 (by omega) (by omega) (by omega) (fun m hm => by omega)
      · rw [wrN (by omega)]
        exact ih k (i + 1) (by omega) (by omega) hk (ok_sn i (by omega) h1 a1) (pair_sn i (by omega) h2 hne)
      · rw [rightR_no]
        intro e
        exact hne fun m hm' => pair_at e.2.2 m i hm' (by omega)
    · rw [if_neg a1]; exact no a1
theorem rRightR_f (k : Nat) (l : List S24) (hm : l.length ≤ 64) (hk : 5000 < k) : handshakerref05_Right.f k l = some (rightR l) := by
  unfold handshakerref05_Right.f
  have : (l.length + 1) * (l.length + 3) ≤ 65 * 67 := Nat.mul_le_mul (by omega) (by omega)
  exact rRightR_l0 l (by omega) l.length k 0 (by omega) (by omega) (by omega) (by simp) (by simp)
theorem addR_in {l : List S24} {r : S24} (h0 : rightR l = true) (h1 : okR r = true) : addR l r = if 0 ≤ plc l r.f0 then (if eqR (l.getD (plc l r.f0).toNat z24) r = true then (l, 0) else (l, 8)) else if l.length = 24 then (l, 5) else (l ++ [r], 0) := by
  unfold addR
  rw [if_pos (show rightR l = true ∧ okR r = true from ⟨h0, h1⟩)]
theorem rAddR_l (l : List S24) (r : S24) (hm : l.length < 4398046511) (h0 : rightR l = true) (h1 : okR r = true) (d : Nat) : ∀ (k i : Nat), i ≤ l.length → l.length - i = d → d < k → (∀ m, m < i → (l.getD m z24).f0 ≠ r.f0) →
    handshakerref05_Add.l0 k l (i : Int) r.f0 r.f1 r.f2 = some (addR l r) := by
  have hl := ((rightR_iff l).1 h0).1
  induction d with
  | zero =>
    intro k i hi hd hk h
    obtain ⟨k, rfl⟩ : ∃ m, k = m + 1 := ⟨k - 1, by omega⟩
    simp only [handshakerref05_Add.l0]
    rw [if_neg (by omega)]
    rw [addR_in h0 h1]
    rcases plc_cases l r.f0 with ⟨e, e'⟩ | ⟨j, hj, e, e', e''⟩
    · rw [e, if_neg (show ¬ (0 : Int) ≤ -1 by omega)]
      by_cases e2 : l.length = 24
      · rw [if_pos (by omega), if_pos e2]
      · rw [if_neg (by omega), if_neg e2, if_pos (by simp; omega)]
        simp only [Option.bind_some, List.nil_append]
        rw [if_pos (by omega)]
    · exact absurd e' (h j (by omega))
  | succ d ih =>
    intro k i hi hd hk h
    obtain ⟨k, rfl⟩ : ∃ m, k = m + 1 := ⟨k - 1, by omega⟩
    simp only [handshakerref05_Add.l0]
    rw [if_pos (by omega), if_pos (by omega), wrN (by omega), show rd_T24 l (i : Int) = l.getD i z24 from rfl]
    by_cases e0 : (l.getD i z24).f0 = r.f0
    · rw [if_pos e0]
      rw [addR_in h0 h1]
      rcases plc_cases l r.f0 with ⟨e, e'⟩ | ⟨j, hj, e, e', e''⟩
      · exact absurd e0 (e' _ (getD_in l z24 i (by omega)))
      · have : j = i := by
          rcases Nat.lt_trichotomy i j with h3 | h3 | h3
          · exact absurd e0 (e'' i h3)
          · exact h3.symm
          · exact absurd e' (h j h3)
        subst this
        rw [e, if_pos (show (0 : Int) ≤ (j : Int) by omega), show ((j : Int)).toNat = j from by omega]
        unfold eqR
        by_cases e1 : (l.getD j z24).f1 = r.f1
        · rw [if_pos e1]
          by_cases e2 : (l.getD j z24).f2 = r.f2
          · rw [if_pos e2, if_pos (by simp only [e0, e1, e2, BEq.rfl, Bool.and_self])]
          · rw [if_neg e2, if_neg (by simp only [Bool.and_eq_true, beq_iff_eq]; exact fun z => e2 z.2.2)]
        · rw [if_neg e1, if_neg (by simp only [Bool.and_eq_true, beq_iff_eq]; exact fun z => e1 z.2.1)]
    · rw [if_neg e0]
      refine ih k (i + 1) (by omega) (by omega) (by omega) fun m hm => ?_
      by_cases e2 : m = i
      · subst e2; exact e0
      · exact h m (by omega)
theorem rAddR_f (k : Nat) (l : List S24) (r : S24) (hm : l.length ≤ 64) (hk : 5000 < k) : handshakerref05_Add.f k l r.f0 r.f1 r.f2 = some (addR l r) := by
  obtain ⟨k, rfl⟩ : ∃ m, k = m + 1 := ⟨k - 1, by omega⟩
  unfold handshakerref05_Add.f
  rw [rRightR_f (k + 1) l hm hk, roneR_f]
  simp only [Option.bind_some]
  by_cases h0 : rightR l = true
  · rw [if_pos h0]
    by_cases h1 : okR r = true
    · rw [h1]
      simp only [handshakerref05_Add.j0]
      rw [if_neg (by decide)]
      exact rAddR_l l r (by omega) h0 h1 l.length k 0 (by omega) (by omega) (by omega) (fun m hm => by omega)
    · rw [show okR r = false from by simpa using h1]
      simp only [handshakerref05_Add.j0]
      rw [if_pos (by decide)]
      unfold addR
      rw [if_neg (fun e => h1 e.2)]
  · rw [if_neg h0]
    simp only [handshakerref05_Add.j0]
    rw [if_pos trivial]
    unfold addR
    rw [if_neg (fun e => h0 e.1)]
theorem rFindR_l (l : List S24) (c : Int) (hm : l.length < 4398046511104) (d : Nat) : ∀ (k i : Nat), i ≤ l.length → l.length - i = d → d < k → (∀ m, m < i → (l.getD m z24).f0 ≠ c) →
    handshakerref05_Find.l0 k l c (i : Int) = some (plc l c) := by
  induction d with
  | zero =>
    intro k i hi hd hk h
    obtain ⟨k, rfl⟩ : ∃ m, k = m + 1 := ⟨k - 1, by omega⟩
    simp only [handshakerref05_Find.l0]
    rw [if_neg (by omega)]
    rcases plc_cases l c with ⟨e, e'⟩ | ⟨j, hj, e, e', e''⟩
    · rw [e]
    · exact absurd e' (h j (by omega))
  | succ d ih =>
    intro k i hi hd hk h
    obtain ⟨k, rfl⟩ : ∃ m, k = m + 1 := ⟨k - 1, by omega⟩
    simp only [handshakerref05_Find.l0]
    rw [if_pos (by omega), if_pos (by omega), wrN (by omega), show rd_T24 l (i : Int) = l.getD i z24 from rfl]
    by_cases e0 : (l.getD i z24).f0 = c
    · rw [if_pos e0]
      rcases plc_cases l c with ⟨e, e'⟩ | ⟨j, hj, e, e', e''⟩
      · exact absurd e0 (e' _ (getD_in l z24 i (by omega)))
      · have : j = i := by
          rcases Nat.lt_trichotomy i j with h3 | h3 | h3
          · exact absurd e0 (e'' i h3)
          · exact h3.symm
          · exact absurd e' (h j h3)
        rw [e, this]
    · rw [if_neg e0]
      refine ih k (i + 1) (by omega) (by omega) (by omega) fun m hm => ?_
      by_cases e2 : m = i
      · subst e2; exact e0
      · exact h m (by omega)
theorem rFindR_f (k : Nat) (l : List S24) (c : Int) (hm : l.length < 4398046511104) (hk : l.length < k) : handshakerref05_Find.f k l c = some (plc l c) := by
  unfold handshakerref05_Find.f
  exact rFindR_l l c hm l.length k 0 (by omega) (by omega) (by omega) (fun m hm => by omega)
theorem SameR_l (l : List S24) (hm : l.length < 4398046511104) (d : Nat) : ∀ (k i : Nat), i ≤ l.length → l.length - i = d → d < k → handshakerref05_Same.l0 k l l (i : Int) = some true := by
  induction d with
  | zero =>
    intro k i hi hd hk
    obtain ⟨k, rfl⟩ : ∃ m, k = m + 1 := ⟨k - 1, by omega⟩
    simp only [handshakerref05_Same.l0]
    rw [if_neg (by omega)]
  | succ d ih =>
    intro k i hi hd hk
    obtain ⟨k, rfl⟩ : ∃ m, k = m + 1 := ⟨k - 1, by omega⟩
    simp only [handshakerref05_Same.l0]
    rw [if_pos (by omega), if_pos (by omega), if_pos (by omega), wrN (by omega), if_neg (by simp)]
    exact ih k (i + 1) (by omega) (by omega) (by omega)
theorem SameR_f (k : Nat) (l : List S24) (hm : l.length < 4398046511104) (hk : l.length < k) : handshakerref05_Same.f k l l = some true := by
  unfold handshakerref05_Same.f
  rw [if_pos rfl]
  exact SameR_l l hm l.length k 0 (by omega) (by omega) (by omega)
theorem awake5 (k : Nat) (hk : 60 ≤ k) : handshakerlaw05_awake.f k = some true :=
  at_rounds (g := handshakerlaw05_awake.f) handshakerlaw05_awake.mono hk (by decide +kernel)
/-! the cells, least by least -/
def IsBest (last : Int) (pre : List Int) (b : Int) : Prop := (b = -1 ∧ ∀ c ∈ pre, ¬ last < c) ∨ (0 ≤ b ∧ b ∈ pre ∧ last < b ∧ ∀ c ∈ pre, last < c → b ≤ c)
theorem rCellsR_l1 (l : List S24) (hm : l.length < 4398046511) (hr : rightR l = true) (last : Int) (hlast : -1 ≤ last) (out : List Int) (ho : out.length < 4398046511) (K : Nat) (r : Option (List Int)) (h1 : IsBest last (l.map fun x => x.f0) (-1) → some out = r) (h2 : ∀ k b, K < k → 0 ≤ b → IsBest last (l.map fun x => x.f0) b → handshakerref05_Cells.l0 k l (out ++ [b]) b = r) (d : Nat) : ∀ (k i : Nat) (b : Int), i ≤ l.length → l.length - i = d → d + K + 1 < k → IsBest last ((l.take i).map fun x => x.f0) b →
    handshakerref05_Cells.l1 k l out last b (i : Int) = r := by
  have hpos : ∀ x ∈ l, 0 ≤ x.f0 := fun x hx => ((okR_eq x).1 (((rightR_iff l).1 hr).2.1 x hx)).1
  induction d with
  | zero =>
    intro k i b hi hd hk hb
    obtain ⟨k, rfl⟩ : ∃ m, k = m + 1 := ⟨k - 1, by omega⟩
    rw [List.take_of_length_le (by omega)] at hb
    simp only [handshakerref05_Cells.l1]
    rw [if_neg (by omega)]
    rcases hb with ⟨rfl, h⟩ | ⟨h0, h, h', h''⟩
    · rw [if_pos (by omega)]; exact h1 (.inl ⟨rfl, h⟩)
    · rw [if_neg (by omega), if_pos (by omega)]
      exact h2 k b (by omega) h0 (.inr ⟨h0, h, h', h''⟩)
  | succ d ih =>
    intro k i b hi hd hk hb
    obtain ⟨k, rfl⟩ : ∃ m, k = m + 1 := ⟨k - 1, by omega⟩
    have hx := hpos _ (getD_in l z24 i (by omega))
    have next := fun b' hb' => ih k (i + 1) b' (by omega) (by omega) (by omega) hb'
    rw [take_snG l z24 i (by omega), List.map_append] at next
    simp only [handshakerref05_Cells.l1]
    rw [if_pos (by omega), if_pos (by omega), wrN (by omega), show rd_T24 l (i : Int) = l.getD i z24 from rfl]
    generalize (l.getD i z24) = x at *
    generalize (l.take i).map (fun x => x.f0) = pre at *
    simp only [List.map_cons, List.map_nil] at next
    by_cases e : x.f0 > last
    · rw [if_pos e]
      by_cases e2 : b < 0
      · rw [if_pos e2]
        refine next _ (.inr ⟨hx, by simp, e, fun c hc hl => ?_⟩)
        rcases hb with ⟨_, h⟩ | ⟨h0, _⟩
        · rcases List.mem_append.1 hc with h' | h'
          · exact absurd hl (h c h')
          · rw [List.mem_singleton.1 h']; omega
        · omega
      · rw [if_neg e2]
        rcases hb with ⟨rfl, h⟩ | ⟨h0, h, h', h''⟩
        · omega
        · by_cases e3 : x.f0 < b
          · rw [if_pos e3]
            refine next _ (.inr ⟨hx, by simp, e, fun c hc hl => ?_⟩)
            rcases List.mem_append.1 hc with h3 | h3
            · have := h'' c h3 hl; omega
            · rw [List.mem_singleton.1 h3]; omega
          · rw [if_neg e3]
            refine next _ (.inr ⟨h0, List.mem_append_left _ h, h', fun c hc hl => ?_⟩)
            rcases List.mem_append.1 hc with h3 | h3
            · exact h'' c h3 hl
            · rw [List.mem_singleton.1 h3]; omega
    · rw [if_neg e]
      refine next _ ?_
      rcases hb with ⟨rfl, h⟩ | ⟨h0, h, h', h''⟩
      · refine .inl ⟨rfl, fun c hc => ?_⟩
        rcases List.mem_append.1 hc with h3 | h3
        · exact h c h3
        · rw [List.mem_singleton.1 h3]; omega
      · refine .inr ⟨h0, List.mem_append_left _ h, h', fun c hc hl => ?_⟩
        rcases List.mem_append.1 hc with h3 | h3
        · exact h'' c h3 hl
        · rw [List.mem_singleton.1 h3] at hl; omega
theorem cellsR_up {l : List S24} (hr : rightR l = true) : (cellsR l).Pairwise (· < ·) := by
  have h := ((rightR_iff l).1 hr).2.2
  unfold cellsR
  rw [if_pos hr]
  have h1 := List.pairwise_mergeSort (le := fun x y : Int => decide (x ≤ y)) (by intro a b c; simp; omega) (by intro a b; simp; omega) (l.map fun x => x.f0)
  have h2 : ((l.map fun x => x.f0).mergeSort fun x y => decide (x ≤ y)).Pairwise (· ≠ ·) := by
    rw [(List.mergeSort_perm _ _).pairwise_iff (fun h => Ne.symm h), List.pairwise_map]
    exact h
  exact (h1.and h2).imp fun h => by have := of_decide_eq_true h.1; have := h.2; omega
theorem cellsR_mem {l : List S24} (hr : rightR l = true) (c : Int) : c ∈ cellsR l ↔ ∃ x ∈ l, x.f0 = c := by
  unfold cellsR
  rw [if_pos hr, List.mem_mergeSort, List.mem_map]
theorem cellsR_len {l : List S24} (hr : rightR l = true) : (cellsR l).length = l.length := by
  unfold cellsR
  rw [if_pos hr, List.length_mergeSort, List.length_map]
theorem rCellsR_l0 (l : List S24) (hm : l.length ≤ 64) (hr : rightR l = true) (d : Nat) : ∀ (k j : Nat) (last : Int), j ≤ l.length → l.length - j = d → (d + 1) * (l.length + 3) < k → (last = -1 ∧ j = 0 ∨ 0 < j ∧ last = (cellsR l).getD (j - 1) 0) →
    handshakerref05_Cells.l0 k l ((cellsR l).take j) last = some (cellsR l) := by
  have hlen := cellsR_len hr
  have hup := cellsR_up hr
  have hpos : ∀ c ∈ cellsR l, 0 ≤ c := fun c hc => by
    obtain ⟨x, hx, rfl⟩ := (cellsR_mem hr c).1 hc
    exact ((okR_eq x).1 (((rightR_iff l).1 hr).2.1 x hx)).1
  have hget := List.pairwise_iff_getElem.1 hup
  have hg : ∀ i, (hi : i < (cellsR l).length) → (cellsR l).getD i 0 = (cellsR l)[i] := fun i hi => by
    rw [List.getD_eq_getElem?_getD, List.getElem?_eq_getElem hi]; rfl
  have hmem : ∀ c, c ∈ (l.map fun x => x.f0) ↔ c ∈ cellsR l := fun c => by rw [cellsR_mem hr, List.mem_map]
  induction d with
  | zero =>
    intro k j last hj hd hk hlast
    obtain ⟨k, rfl⟩ : ∃ m, k = m + 1 := ⟨k - 1, by omega⟩
    simp only [handshakerref05_Cells.l0]
    rw [List.take_of_length_le (by omega)]
    have none_ : ∀ c ∈ cellsR l, ¬ last < c := by
      intro c hc hl
      obtain ⟨i, hi, rfl⟩ := List.mem_iff_getElem.1 hc
      rcases hlast with ⟨_, h⟩ | ⟨h0, h⟩
      · omega
      · rw [hg (j - 1) (by omega)] at h
        by_cases e : i = j - 1
        · subst e; omega
        · have := hget i (j - 1) hi (by omega) (by omega); omega
    refine rCellsR_l1 l (by omega) hr last (by rcases hlast with ⟨h, _⟩ | ⟨h0, h⟩; omega; rw [h, hg (j - 1) (by omega)]; have := hpos _ (List.getElem_mem (show j - 1 < (cellsR l).length by omega)); omega) (cellsR l) (by omega) 0 _ (fun _ => rfl) (fun k b hk hb hB => ?_) l.length k 0 (-1) (by omega) (by omega) (by omega) (.inl ⟨rfl, by simp⟩)
    rcases hB with ⟨h, _⟩ | ⟨_, h, h', _⟩
    · omega
    · exact absurd h' (none_ b ((hmem b).1 h))
  | succ d ih =>
    intro k j last hj hd hk hlast
    rw [Nat.succ_mul] at hk
    obtain ⟨k, rfl⟩ : ∃ m, k = m + 1 := ⟨k - 1, by omega⟩
    simp only [handshakerref05_Cells.l0]
    have hj' : j < (cellsR l).length := by omega
    have hlt : last < (cellsR l)[j] := by
      rcases hlast with ⟨h, _⟩ | ⟨h0, h⟩
      · have := hpos _ (List.getElem_mem hj'); omega
      · rw [h, hg (j - 1) (by omega)]; exact hget (j - 1) j (by omega) hj' (by omega)
    refine rCellsR_l1 l (by omega) hr last (by rcases hlast with ⟨h, _⟩ | ⟨h0, h⟩; omega; rw [h, hg (j - 1) (by omega)]; have := hpos _ (List.getElem_mem (show j - 1 < (cellsR l).length by omega)); omega) _ (by rw [List.length_take]; omega) ((d + 1) * (l.length + 3)) _ (fun hB => ?_) (fun k b hk hb hB => ?_) l.length k 0 (-1) (by omega) (by omega) (by omega) (.inl ⟨rfl, by simp⟩)
    · rcases hB with ⟨_, h⟩ | ⟨h, _⟩
      · exact absurd hlt (h _ ((hmem _).2 (List.getElem_mem hj')))
      · omega
    · have eb : b = (cellsR l).getD j 0 := by
        rw [hg j hj']
        rcases hB with ⟨h, _⟩ | ⟨_, h, h', h''⟩
        · omega
        · have h1 := h'' _ ((hmem _).2 (List.getElem_mem hj')) hlt
          obtain ⟨i, hi, rfl⟩ := List.mem_iff_getElem.1 ((hmem b).1 h)
          by_cases e : i = j
          · subst e; rfl
          · by_cases e2 : i < j
            · rcases hlast with ⟨_, h0⟩ | ⟨h0, h0'⟩
              · omega
              · rw [h0', hg (j - 1) (by omega)] at h'
                by_cases e3 : i = j - 1
                · subst e3; omega
                · have := hget i (j - 1) hi (by omega) (by omega); omega
            · have := hget j i hj' hi (by omega); omega
      have := ih k (j + 1) b (by omega) (by omega) hk (.inr ⟨by omega, eb⟩)
      rw [take_snG (cellsR l) 0 j hj', ← eb] at this
      exact this
theorem rCellsR_f (k : Nat) (l : List S24) (hm : l.length ≤ 64) (hr : rightR l = true) (hk : 5000 < k) : handshakerref05_Cells.f k l = some (cellsR l) := by
  unfold handshakerref05_Cells.f
  have : (l.length + 1) * (l.length + 3) ≤ 65 * 67 := Nat.mul_le_mul (by omega) (by omega)
  have := rCellsR_l0 l hm hr l.length k 0 (-1) (by omega) (by omega) (by omega) (.inl ⟨rfl, rfl⟩)
  simpa using this
theorem Numbers_l (l : List Int) (hm : l.length < 4398046511104) (d : Nat) : ∀ (k i : Nat), i ≤ l.length → l.length - i = d → d < k → handshakerref03_Numbers.l0 k l l (i : Int) = some true := by
  induction d with
  | zero =>
    intro k i hi hd hk
    obtain ⟨k, rfl⟩ : ∃ m, k = m + 1 := ⟨k - 1, by omega⟩
    simp only [handshakerref03_Numbers.l0]
    rw [if_neg (by omega)]
  | succ d ih =>
    intro k i hi hd hk
    obtain ⟨k, rfl⟩ : ∃ m, k = m + 1 := ⟨k - 1, by omega⟩
    simp only [handshakerref03_Numbers.l0]
    rw [if_pos (by omega), if_pos (by omega), if_pos (by omega), if_pos trivial, wrN (by omega)]
    exact ih k (i + 1) (by omega) (by omega) (by omega)
theorem Numbers_f (k : Nat) (l : List Int) (hm : l.length < 4398046511104) (hk : l.length < k) : handshakerref03_Numbers.f k l l = some true := by
  unfold handshakerref03_Numbers.f
  rw [if_pos rfl]
  exact Numbers_l l hm l.length k 0 (by omega) (by omega) (by omega)
end Go.Proofs.Ytlfmobnmohnjmaa.R
