/-
 PROVED: Plain lemmas on numbers and lists, of what the printed functions answer. No condition beside those of each lemma.
-/
import Derived.Test.YtjnkpocfmpbpoaaSeLem4
import Derived.Test.YtjnkpocfmpbpoaaSex3
import Derived.Test.YtjnkpocfmpbpoaaSex8
import Derived.Test.YtjnkpocfmpbpoaaSex9
import Derived.Test.YtjnkpocfmpbpoaaSex10
namespace Go.Proofs.Ytjnkpocfmpbpoaa.Se
open Go.RowKit Go.Proofs.YtjnkpocfmpbpoaaW.PrintWords Go.Proofs.YtjnkpocfmpbpoaaW.PrintLast Go.Proofs.YtjnkpocfmpbpoaaW.PrintMore Go.Proofs.Ytjnkpocfmpbpoaa.Ho
set_option linter.unusedVariables false
set_option linter.unusedSimpArgs false
/-! ### reads -/
def okR (r : S57) : Bool := decide (0 ≤ r.f0) && tickB r.f1 && inR r.f2
theorem okR_eq (r : S57) : okR r = true ↔ 0 ≤ r.f0 ∧ tickB r.f1 = true ∧ inR r.f2 = true := by
 unfold okR
 rw [Bool.and_eq_true, Bool.and_eq_true, decide_eq_true_eq, and_assoc]
def plc (l : List S57) (c : Int) : Int := idxT (fun x => x.f0 == c) l 0
theorem rplace_f (l : List S57) (c : Int) : reads_place.f l c = some (plc l c) := by
 unfold reads_place.f idx_at_reads_place_1.f plc
 rw [idxF_T (f := fun x : S57 => reads_place_1.f x.f0 x.f1 x.f2 c) (p := fun x => x.f0 == c) l 0 (fun x _ => rfl)]; rfl
theorem plc_cases (l : List S57) (c : Int) : (plc l c = -1 ∧ ∀ x ∈ l, x.f0 ≠ c) ∨ ∃ j : Nat, j < l.length ∧ plc l c = (j : Int) ∧ (l.getD j z57).f0 = c ∧ ∀ m, m < j → (l.getD m z57).f0 ≠ c := by
 rcases idxT_cases (fun x : S57 => x.f0 == c) z57 l 0 with ⟨h1, h2⟩ | ⟨j, h1, h2, h3, h4⟩
 · exact .inl ⟨h1, fun x hx => by simpa using h2 x hx⟩
 · exact .inr ⟨j, h1, by unfold plc; rw [h2]; omega, by simpa using h3, fun m hm => by simpa using h4 m hm⟩
abbrev RightP (l : List S57) : Prop := l.length ≤ 24 ∧ (∀ x ∈ l, okR x = true) ∧ l.Pairwise (fun a b => a.f0 ≠ b.f0)
def rightR (l : List S57) : Bool := decide (RightP l)
theorem rightR_iff (l : List S57) : rightR l = true ↔ RightP l := by unfold rightR; rw [decide_eq_true_eq]
theorem rightR_no {l : List S57} (h : ¬ RightP l) : rightR l = false := by unfold rightR; rw [decide_eq_false_iff_not]; exact h
theorem pair_at {l : List S57} (h : l.Pairwise (fun a b => a.f0 ≠ b.f0)) (i j : Nat) (hij : i < j) (hj : j < l.length) : (l.getD i z57).f0 ≠ (l.getD j z57).f0 := by
 have := List.pairwise_iff_getElem.1 h i j (by omega) hj hij
 rw [List.getD_eq_getElem?_getD, List.getElem?_eq_getElem (by omega), List.getD_eq_getElem?_getD, List.getElem?_eq_getElem hj]
 exact this
theorem pair_same {l : List S57} (h : l.Pairwise (fun a b => a.f0 ≠ b.f0)) (i j : Nat) (hi : i < l.length) (hj : j < l.length) (e : (l.getD i z57).f0 = (l.getD j z57).f0) : i = j := by
 rcases Nat.lt_trichotomy i j with h1 | h1 | h1
 · exact absurd e (pair_at h i j h1 hj)
 · exact h1
 · exact absurd e.symm (pair_at h j i h1 hi)
theorem pair_sn {l : List S57} (i : Nat) (hi : i < l.length) (h : (l.take i).Pairwise (fun a b => a.f0 ≠ b.f0)) (hx : ∀ m, m < i → (l.getD m z57).f0 ≠ (l.getD i z57).f0) : (l.take (i + 1)).Pairwise (fun a b => a.f0 ≠ b.f0) := by
 rw [take_snG l z57 i hi, List.pairwise_append]
 refine ⟨h, List.pairwise_singleton _ _, fun a ha b hb => ?_⟩
 obtain ⟨m, hm, rfl⟩ := mem_takeG l z57 i a (by omega) ha
 rw [List.mem_singleton.1 hb]
 exact hx m hm
theorem ok_sn {l : List S57} (i : Nat) (hi : i < l.length) (h : ∀ x ∈ l.take i, okR x = true) (hx : okR (l.getD i z57) = true) : ∀ x ∈ l.take (i + 1), okR x = true := by
 intro x hx'
 rw [take_snG l z57 i hi] at hx'
 rcases List.mem_append.1 hx' with h' | h'
 · exact h x h'
 · rw [List.mem_singleton.1 h']; exact hx
theorem RightR_l (l : List S57) (hm : l.length < 4398046511104) (d : Nat) : ∀ (k i : Nat), i ≤ l.length → l.length - i = d → d < k → (∀ x ∈ l.take i, okR x = true) → (l.take i).Pairwise (fun a b => a.f0 ≠ b.f0) →
 reads_Right.l0 k l l (l.length : Int) (i : Int) = some (rightR l) := by
 induction d with
 | zero =>
  intro k i hi hd hk h1 h2
  obtain ⟨k, rfl⟩ : ∃ m, k = m + 1 := ⟨k - 1, by omega⟩
  rw [List.take_of_length_le (by omega)] at h1 h2
  simp only [reads_Right.l0]
  rw [if_neg (by omega)]
  unfold rightR
  congr 1
  rw [decide_eq_decide]
  exact ⟨fun h => ⟨by omega, h1, h2⟩, fun h => by have := h.1; omega⟩
 | succ d ih =>
  intro k i hi hd hk h1 h2
  obtain ⟨k, rfl⟩ : ∃ m, k = m + 1 := ⟨k - 1, by omega⟩
  have hmem := getD_in l z57 i (by omega)
  have no : ¬ okR (l.getD i z57) = true → some false = some (rightR l) := fun h => by rw [rightR_no (fun e => h (e.2.1 _ hmem))]
  simp only [reads_Right.l0]
  rw [if_pos (by omega), if_pos (by omega), if_pos (by omega), show rd_T57 l (i : Int) = l.getD i z57 from rfl, tick_f, right_f, rplace_f, wrN (by omega)]
  simp only [Option.bind_some]
  by_cases a0 : (l.getD i z57).f0 < 0
  · rw [if_pos a0]; exact no (fun e => by have := ((okR_eq _).1 e).1; omega)
  rw [if_neg a0]
  by_cases a1 : tickB (l.getD i z57).f1 = true
  · rw [if_pos a1]
    by_cases a2 : inR (l.getD i z57).f2 = true
    · rw [if_pos a2]
      have hok : okR (l.getD i z57) = true := (okR_eq _).2 ⟨by omega, a1, a2⟩
      rcases plc_cases l (l.getD i z57).f0 with ⟨h, h'⟩ | ⟨j, hj, h, h', h''⟩
      · exact absurd rfl (h' _ hmem)
      · rw [h]
        by_cases e : j = i
        · subst e
          rw [if_pos rfl]
          exact ih k (j + 1) (by omega) (by omega) (by omega) (ok_sn j (by omega) h1 hok) (pair_sn j (by omega) h2 h'')
        · rw [if_neg (by omega), rightR_no]
          intro e'
          exact e (pair_same e'.2.2 j i hj (by omega) h')
    · rw [if_neg a2]; exact no (fun e => a2 ((okR_eq _).1 e).2.2)
  · rw [if_neg a1]; exact no (fun e => a1 ((okR_eq _).1 e).2.1)
theorem RightR_f (k : Nat) (l : List S57) (hm : l.length < 4398046511104) (hk : l.length < k) : reads_Right.f k l = some (rightR l) := by
 unfold reads_Right.f
 exact RightR_l l hm l.length k 0 (by omega) (by omega) (by omega) (by simp) (by simp)
def findR (l : List S57) (c : Int) : Int × Int × Int × Bool :=
 if 0 ≤ plc l c ∧ rightR l = true then ((l.getD (plc l c).toNat z57).f0, (l.getD (plc l c).toNat z57).f1, (l.getD (plc l c).toNat z57).f2, true) else (0, 0, 0, false)
theorem FindR_f (k : Nat) (l : List S57) (c : Int) (hm : l.length < 4398046511104) (hk : l.length < k) : reads_Find.f k l c = some (findR l c) := by
 unfold reads_Find.f findR
 rw [rplace_f, RightR_f k l hm hk]
 simp only [Option.bind_some]
 rcases plc_cases l c with ⟨h, h'⟩ | ⟨j, hj, h, h', h''⟩
 · rw [h, if_pos (by omega), if_neg (by omega)]
 · rw [h, if_neg (by omega)]
   by_cases h1 : rightR l = true
   · rw [if_pos h1, if_pos (by omega), if_pos (by omega), if_pos ⟨by omega, h1⟩]; rfl
   · rw [if_neg h1, if_neg (fun e => h1 e.2)]
def cellsR (l : List S57) : List Int := if rightR l = true then (l.map fun x => x.f0).mergeSort fun x y => decide (x ≤ y) else []
theorem CellsR_l (l : List S57) (hm : l.length < 4398046511) (d : Nat) : ∀ (k i : Nat), i ≤ l.length → l.length - i = d → d + l.length + 1 < k →
 reads_Cells.l0 k l ((l.take i).map fun x => x.f0) l (l.length : Int) (i : Int) = some (cellsR l) := by
 induction d with
 | zero =>
  intro k i hi hd hk
  obtain ⟨k, rfl⟩ : ∃ m, k = m + 1 := ⟨k - 1, by omega⟩
  rw [List.take_of_length_le (by omega)]
  simp only [reads_Cells.l0]
  rw [if_neg (by omega), RightR_f k l (by omega) (by omega)]
  unfold cellsR slices_Sort.f
  simp only [Option.bind_some]
  by_cases h : rightR l = true
  · rw [if_pos h, if_pos h, if_pos (by rw [List.length_map]; omega)]; rfl
  · rw [if_neg h, if_neg h]
 | succ d ih =>
  intro k i hi hd hk
  obtain ⟨k, rfl⟩ : ∃ m, k = m + 1 := ⟨k - 1, by omega⟩
  simp only [reads_Cells.l0]
  rw [if_pos (by omega), if_pos (by omega), if_pos (by omega), if_pos (by rw [List.length_map, List.length_take]; omega), wrN (by omega)]
  have := ih k (i + 1) (by omega) (by omega) (by omega)
  rw [take_snG l z57 i (by omega), List.map_append] at this
  exact this
theorem CellsR_f (k : Nat) (l : List S57) (hm : l.length < 4398046511) (hk : 2 * l.length + 1 < k) : reads_Cells.f k l = some (cellsR l) := by
 unfold reads_Cells.f
 have := CellsR_l l hm l.length k 0 (by omega) (by omega) (by omega)
 simpa using this
theorem cellsR_up {l : List S57} (hr : rightR l = true) : (cellsR l).Pairwise (· < ·) := by
 have h := ((rightR_iff l).1 hr).2.2
 unfold cellsR
 rw [if_pos hr]
 have h1 := List.pairwise_mergeSort (le := fun x y : Int => decide (x ≤ y)) (by intro a b c; simp; omega) (by intro a b; simp; omega) (l.map fun x => x.f0)
 have h2 : ((l.map fun x => x.f0).mergeSort fun x y => decide (x ≤ y)).Pairwise (· ≠ ·) := by
  rw [(List.mergeSort_perm _ _).pairwise_iff (fun h => Ne.symm h), List.pairwise_map]
  exact h
 exact (h1.and h2).imp fun h => by have := of_decide_eq_true h.1; have := h.2; omega
theorem cellsR_mem {l : List S57} (hr : rightR l = true) (c : Int) : c ∈ cellsR l ↔ ∃ x ∈ l, x.f0 = c := by
 unfold cellsR
 rw [if_pos hr, List.mem_mergeSort, List.mem_map]
theorem cellsR_len {l : List S57} (hr : rightR l = true) : (cellsR l).length = l.length := by
 unfold cellsR
 rw [if_pos hr, List.length_mergeSort, List.length_map]
theorem rright_f (a : Int) : handshakerref01_Right.f a = some (inR a) := by
 unfold handshakerref01_Right.f inR
 by_cases h : a ≥ (-2147483648)
 · rw [if_pos h]; simp [h]
 · rw [if_neg h]; simp [h]
theorem rtick_f (a : Int) : handshakerref04_Right.f a = some (tickB a) := by
 unfold handshakerref04_Right.f tickB
 by_cases h : a ≥ 0
 · rw [if_pos h]; congr 1; rw [decide_eq_decide]; omega
 · rw [if_neg h]; congr 1; symm; rw [decide_eq_false_iff_not]; omega
theorem roneR_f (r : S57) : handshakerref05_one.f r.f0 r.f1 r.f2 = some (okR r) := by
 unfold handshakerref05_one.f okR
 rw [rtick_f, rright_f]
 simp only [Option.bind_some]
 cases tickB r.f1 <;> cases inR r.f2 <;> simp
theorem rRightR_l1 (l : List S57) (hm : l.length < 4398046511104) (i : Nat) (hi : i < l.length) (K : Nat) (r : Option Bool) (h1 : ∀ k, K < k → (∀ m, m < i → (l.getD m z57).f0 ≠ (l.getD i z57).f0) → handshakerref05_Right.l0 k l (wrap64 ((i : Int) + 1)) = r) (h2 : ¬ (∀ m, m < i → (l.getD m z57).f0 ≠ (l.getD i z57).f0) → r = some false) (d : Nat) : ∀ (k j : Nat), j ≤ i → i - j = d → d + K + 1 < k → (∀ m, m < j → (l.getD m z57).f0 ≠ (l.getD i z57).f0) →
 handshakerref05_Right.l1 k l (i : Int) (j : Int) = r := by
 induction d with
 | zero =>
  intro k j hj hd hk h
  obtain ⟨k, rfl⟩ : ∃ m, k = m + 1 := ⟨k - 1, by omega⟩
  simp only [handshakerref05_Right.l1]
  rw [if_neg (by omega)]
  exact h1 k (by omega) (fun m hm => h m (by omega))
 | succ d ih =>
  intro k j hj hd hk h
  obtain ⟨k, rfl⟩ : ∃ m, k = m + 1 := ⟨k - 1, by omega⟩
  simp only [handshakerref05_Right.l1]
  rw [if_pos (by omega), if_pos (by omega), if_pos (by omega), if_pos (by omega), if_pos (by omega), wrN (by omega), show rd_T57 l (j : Int) = l.getD j z57 from rfl, show rd_T57 l (i : Int) = l.getD i z57 from rfl]
  by_cases e : (l.getD j z57).f0 = (l.getD i z57).f0
  · rw [if_pos e, h2 (fun e' => e' j (by omega) e)]
  · rw [if_neg e]
    refine ih k (j + 1) (by omega) (by omega) (by omega) fun m hm => ?_
    by_cases e2 : m = j
    · subst e2; exact e
    · exact h m (by omega)
theorem rRightR_l0 (l : List S57) (hm : l.length < 4398046511104) (d : Nat) : ∀ (k i : Nat), i ≤ l.length → l.length - i = d → (d + 1) * (l.length + 3) < k → (∀ x ∈ l.take i, okR x = true) → (l.take i).Pairwise (fun a b => a.f0 ≠ b.f0) →
 handshakerref05_Right.l0 k l (i : Int) = some (rightR l) := by
 induction d with
 | zero =>
  intro k i hi hd hk h1 h2
  obtain ⟨k, rfl⟩ : ∃ m, k = m + 1 := ⟨k - 1, by omega⟩
  rw [List.take_of_length_le (by omega)] at h1 h2
  simp only [handshakerref05_Right.l0]
  rw [if_neg (by omega)]
  unfold rightR
  congr 1
  rw [decide_eq_decide]
  exact ⟨fun h => ⟨by omega, h1, h2⟩, fun h => by have := h.1; omega⟩
 | succ d ih =>
  intro k i hi hd hk h1 h2
  rw [Nat.succ_mul] at hk
  obtain ⟨k, rfl⟩ : ∃ m, k = m + 1 := ⟨k - 1, by omega⟩
  have hmem := getD_in l z57 i (by omega)
  have no : ¬ okR (l.getD i z57) = true → some false = some (rightR l) := fun h => by rw [rightR_no (fun e => h (e.2.1 _ hmem))]
  simp only [handshakerref05_Right.l0]
  rw [if_pos (by omega), if_pos (by omega), show rd_T57 l (i : Int) = l.getD i z57 from rfl, roneR_f]
  simp only [Option.bind_some]
  by_cases a1 : okR (l.getD i z57) = true
  · rw [if_pos a1]
    refine rRightR_l1 l hm i (by omega) ((d + 1) * (l.length + 3)) _ (fun k hk hne => ?_) (fun hne => ?_) i k 0 (by omega) (by omega) (by omega) (fun m hm => by omega)
    · rw [wrN (by omega)]
      exact ih k (i + 1) (by omega) (by omega) hk (ok_sn i (by omega) h1 a1) (pair_sn i (by omega) h2 hne)
    · rw [rightR_no]
      intro e
      exact hne fun m hm' => pair_at e.2.2 m i hm' (by omega)
  · rw [if_neg a1]; exact no a1
theorem rRightR_f (k : Nat) (l : List S57) (hm : l.length ≤ 64) (hk : 5000 < k) : handshakerref05_Right.f k l = some (rightR l) := by
 unfold handshakerref05_Right.f
 have : (l.length + 1) * (l.length + 3) ≤ 65 * 67 := Nat.mul_le_mul (by omega) (by omega)
 exact rRightR_l0 l (by omega) l.length k 0 (by omega) (by omega) (by omega) (by simp) (by simp)
theorem rFindR_l (l : List S57) (c : Int) (hm : l.length < 4398046511104) (d : Nat) : ∀ (k i : Nat), i ≤ l.length → l.length - i = d → d < k → (∀ m, m < i → (l.getD m z57).f0 ≠ c) →
 handshakerref05_Find.l0 k l c (i : Int) = some (plc l c) := by
 induction d with
 | zero =>
  intro k i hi hd hk h
  obtain ⟨k, rfl⟩ : ∃ m, k = m + 1 := ⟨k - 1, by omega⟩
  simp only [handshakerref05_Find.l0]
  rw [if_neg (by omega)]
  rcases plc_cases l c with ⟨e, e'⟩ | ⟨j, hj, e, e', e''⟩
  · rw [e]
  · exact absurd e' (h j (by omega))
 | succ d ih =>
  intro k i hi hd hk h
  obtain ⟨k, rfl⟩ : ∃ m, k = m + 1 := ⟨k - 1, by omega⟩
  simp only [handshakerref05_Find.l0]
  rw [if_pos (by omega), if_pos (by omega), wrN (by omega), show rd_T57 l (i : Int) = l.getD i z57 from rfl]
  by_cases e0 : (l.getD i z57).f0 = c
  · rw [if_pos e0]
    rcases plc_cases l c with ⟨e, e'⟩ | ⟨j, hj, e, e', e''⟩
    · exact absurd e0 (e' _ (getD_in l z57 i (by omega)))
    · have : j = i := by
       rcases Nat.lt_trichotomy i j with h3 | h3 | h3
       · exact absurd e0 (e'' i h3)
       · exact h3.symm
       · exact absurd e' (h j h3)
      rw [e, this]
  · rw [if_neg e0]
    refine ih k (i + 1) (by omega) (by omega) (by omega) fun m hm => ?_
    by_cases e2 : m = i
    · subst e2; exact e0
    · exact h m (by omega)
theorem rFindR_f (k : Nat) (l : List S57) (c : Int) (hm : l.length < 4398046511104) (hk : l.length < k) : handshakerref05_Find.f k l c = some (plc l c) := by
 unfold handshakerref05_Find.f
 exact rFindR_l l c hm l.length k 0 (by omega) (by omega) (by omega) (fun m hm => by omega)
def IsBest (last : Int) (pre : List Int) (b : Int) : Prop := (b = -1 ∧ ∀ c ∈ pre, ¬ last < c) ∨ (0 ≤ b ∧ b ∈ pre ∧ last < b ∧ ∀ c ∈ pre, last < c → b ≤ c)
theorem rCellsR_l1 (l : List S57) (hm : l.length < 4398046511) (hr : rightR l = true) (last : Int) (hlast : -1 ≤ last) (out : List Int) (ho : out.length < 4398046511) (K : Nat) (r : Option (List Int)) (h1 : IsBest last (l.map fun x => x.f0) (-1) → some out = r) (h2 : ∀ k b, K < k → 0 ≤ b → IsBest last (l.map fun x => x.f0) b → handshakerref05_Cells.l0 k l (out ++ [b]) b = r) (d : Nat) : ∀ (k i : Nat) (b : Int), i ≤ l.length → l.length - i = d → d + K + 1 < k → IsBest last ((l.take i).map fun x => x.f0) b →
 handshakerref05_Cells.l1 k l out last b (i : Int) = r := by
 have hpos : ∀ x ∈ l, 0 ≤ x.f0 := fun x hx => ((okR_eq x).1 (((rightR_iff l).1 hr).2.1 x hx)).1
 induction d with
 | zero =>
  intro k i b hi hd hk hb
  obtain ⟨k, rfl⟩ : ∃ m, k = m + 1 := ⟨k - 1, by omega⟩
  rw [List.take_of_length_le (by omega)] at hb
  simp only [handshakerref05_Cells.l1]
  rw [if_neg (by omega)]
  rcases hb with ⟨rfl, h⟩ | ⟨h0, h, h', h''⟩
  · rw [if_pos (by omega)]; exact h1 (.inl ⟨rfl, h⟩)
  · rw [if_neg (by omega), if_pos (by omega)]
    exact h2 k b (by omega) h0 (.inr ⟨h0, h, h', h''⟩)
 | succ d ih =>
  intro k i b hi hd hk hb
  obtain ⟨k, rfl⟩ : ∃ m, k = m + 1 := ⟨k - 1, by omega⟩
  have hx := hpos _ (getD_in l z57 i (by omega))
  have next := fun b' hb' => ih k (i + 1) b' (by omega) (by omega) (by omega) hb'
  rw [take_snG l z57 i (by omega), List.map_append] at next
  simp only [handshakerref05_Cells.l1]
  rw [if_pos (by omega), if_pos (by omega), wrN (by omega), show rd_T57 l (i : Int) = l.getD i z57 from rfl]
  generalize (l.getD i z57) = x at *
  generalize (l.take i).map (fun x => x.f0) = pre at *
  simp only [List.map_cons, List.map_nil] at next
  by_cases e : x.f0 > last
  · rw [if_pos e]
    by_cases e2 : b < 0
    · rw [if_pos e2]
      refine next _ (.inr ⟨hx, by simp, e, fun c hc hl => ?_⟩)
      rcases hb with ⟨_, h⟩ | ⟨h0, _⟩
      · rcases List.mem_append.1 hc with h' | h'
        · exact absurd hl (h c h')
        · rw [List.mem_singleton.1 h']; omega
      · omega
    · rw [if_neg e2]
      rcases hb with ⟨rfl, h⟩ | ⟨h0, h, h', h''⟩
      · omega
      · by_cases e3 : x.f0 < b
        · rw [if_pos e3]
          refine next _ (.inr ⟨hx, by simp, e, fun c hc hl => ?_⟩)
          rcases List.mem_append.1 hc with h3 | h3
          · have := h'' c h3 hl; omega
          · rw [List.mem_singleton.1 h3]; omega
        · rw [if_neg e3]
          refine next _ (.inr ⟨h0, List.mem_append_left _ h, h', fun c hc hl => ?_⟩)
          rcases List.mem_append.1 hc with h3 | h3
          · exact h'' c h3 hl
          · rw [List.mem_singleton.1 h3]; omega
  · rw [if_neg e]
    refine next _ ?_
    rcases hb with ⟨rfl, h⟩ | ⟨h0, h, h', h''⟩
    · refine .inl ⟨rfl, fun c hc => ?_⟩
      rcases List.mem_append.1 hc with h3 | h3
      · exact h c h3
      · rw [List.mem_singleton.1 h3]; omega
    · refine .inr ⟨h0, List.mem_append_left _ h, h', fun c hc hl => ?_⟩
      rcases List.mem_append.1 hc with h3 | h3
      · exact h'' c h3 hl
      · rw [List.mem_singleton.1 h3] at hl; omega
theorem rCellsR_l0 (l : List S57) (hm : l.length ≤ 64) (hr : rightR l = true) (d : Nat) : ∀ (k j : Nat) (last : Int), j ≤ l.length → l.length - j = d → (d + 1) * (l.length + 3) < k → (last = -1 ∧ j = 0 ∨ 0 < j ∧ last = (cellsR l).getD (j - 1) 0) →
 handshakerref05_Cells.l0 k l ((cellsR l).take j) last = some (cellsR l) := by
 have hlen := cellsR_len hr
 have hup := cellsR_up hr
 have hpos : ∀ c ∈ cellsR l, 0 ≤ c := fun c hc => by
  obtain ⟨x, hx, rfl⟩ := (cellsR_mem hr c).1 hc
  exact ((okR_eq x).1 (((rightR_iff l).1 hr).2.1 x hx)).1
 have hget := List.pairwise_iff_getElem.1 hup
 have hg : ∀ i, (hi : i < (cellsR l).length) → (cellsR l).getD i 0 = (cellsR l)[i] := fun i hi => by
  rw [List.getD_eq_getElem?_getD, List.getElem?_eq_getElem hi]; rfl
 have hmem : ∀ c, c ∈ (l.map fun x => x.f0) ↔ c ∈ cellsR l := fun c => by rw [cellsR_mem hr, List.mem_map]
 induction d with
 | zero =>
  intro k j last hj hd hk hlast
  obtain ⟨k, rfl⟩ : ∃ m, k = m + 1 := ⟨k - 1, by omega⟩
  simp only [handshakerref05_Cells.l0]
  rw [List.take_of_length_le (by omega)]
  have none_ : ∀ c ∈ cellsR l, ¬ last < c := by
   intro c hc hl
   obtain ⟨i, hi, rfl⟩ := List.mem_iff_getElem.1 hc
   rcases hlast with ⟨_, h⟩ | ⟨h0, h⟩
   · omega
   · rw [hg (j - 1) (by omega)] at h
     by_cases e : i = j - 1
     · subst e; omega
     · have := hget i (j - 1) hi (by omega) (by omega); omega
  refine rCellsR_l1 l (by omega) hr last (by rcases hlast with ⟨h, _⟩ | ⟨h0, h⟩; omega; rw [h, hg (j - 1) (by omega)]; have := hpos _ (List.getElem_mem (show j - 1 < (cellsR l).length by omega)); omega) (cellsR l) (by omega) 0 _ (fun _ => rfl) (fun k b hk hb hB => ?_) l.length k 0 (-1) (by omega) (by omega) (by omega) (.inl ⟨rfl, by simp⟩)
  rcases hB with ⟨h, _⟩ | ⟨_, h, h', _⟩
  · omega
  · exact absurd h' (none_ b ((hmem b).1 h))
 | succ d ih =>
  intro k j last hj hd hk hlast
  rw [Nat.succ_mul] at hk
  obtain ⟨k, rfl⟩ : ∃ m, k = m + 1 := ⟨k - 1, by omega⟩
  simp only [handshakerref05_Cells.l0]
  have hj' : j < (cellsR l).length := by omega
  have hlt : last < (cellsR l)[j] := by
   rcases hlast with ⟨h, _⟩ | ⟨h0, h⟩
   · have := hpos _ (List.getElem_mem hj'); omega
   · rw [h, hg (j - 1) (by omega)]; exact hget (j - 1) j (by omega) hj' (by omega)
  refine rCellsR_l1 l (by omega) hr last (by rcases hlast with ⟨h, _⟩ | ⟨h0, h⟩; omega; rw [h, hg (j - 1) (by omega)]; have := hpos _ (List.getElem_mem (show j - 1 < (cellsR l).length by omega)); omega) _ (by rw [List.length_take]; omega) ((d + 1) * (l.length + 3)) _ (fun hB => ?_) (fun k b hk hb hB => ?_) l.length k 0 (-1) (by omega) (by omega) (by omega) (.inl ⟨rfl, by simp⟩)
  · rcases hB with ⟨_, h⟩ | ⟨h, _⟩
    · exact absurd hlt (h _ ((hmem _).2 (List.getElem_mem hj')))
    · omega
  · have eb : b = (cellsR l).getD j 0 := by
     rw [hg j hj']
     rcases hB with ⟨h, _⟩ | ⟨_, h, h', h''⟩
     · omega
     · have h1 := h'' _ ((hmem _).2 (List.getElem_mem hj')) hlt
       obtain ⟨i, hi, rfl⟩ := List.mem_iff_getElem.1 ((hmem b).1 h)
       by_cases e : i = j
       · subst e; rfl
       · by_cases e2 : i < j
         · rcases hlast with ⟨_, h0⟩ | ⟨h0, h0'⟩
           · omega
           · rw [h0', hg (j - 1) (by omega)] at h'
             by_cases e3 : i = j - 1
             · subst e3; omega
             · have := hget i (j - 1) hi (by omega) (by omega); omega
         · have := hget j i hj' hi (by omega); omega
    have := ih k (j + 1) b (by omega) (by omega) hk (.inr ⟨by omega, eb⟩)
    rw [take_snG (cellsR l) 0 j hj', ← eb] at this
    exact this
theorem rCellsR_f (k : Nat) (l : List S57) (hm : l.length ≤ 64) (hr : rightR l = true) (hk : 5000 < k) : handshakerref05_Cells.f k l = some (cellsR l) := by
 unfold handshakerref05_Cells.f
 have : (l.length + 1) * (l.length + 3) ≤ 65 * 67 := Nat.mul_le_mul (by omega) (by omega)
 have := rCellsR_l0 l hm hr l.length k 0 (-1) (by omega) (by omega) (by omega) (.inl ⟨rfl, rfl⟩)
 simpa using this
/-! ### what reads have -/
abbrev Rd := S57
def watchedR (l : List Rd) : List Wr := (cellsR l).map fun c => ⟨c, (findR l c).2.2.1⟩
theorem Watched_l (l : List Rd) (cs : List Int) (hl : l.length ≤ 1000) (hm : cs.length ≤ 1000) (d : Nat) : ∀ (k i : Nat), i ≤ cs.length → cs.length - i = d → d + 1100 < k →
 sleep_Watched.l0 k l ((cs.take i).map fun c => (⟨c, (findR l c).2.2.1⟩ : Wr)) cs (cs.length : Int) (i : Int) = some (cs.map fun c => (⟨c, (findR l c).2.2.1⟩ : Wr)) := by
 induction d with
 | zero =>
  intro k i hi hd hk
  obtain ⟨k, rfl⟩ : ∃ m, k = m + 1 := ⟨k - 1, by omega⟩
  simp only [sleep_Watched.l0]
  rw [if_neg (by omega), List.take_of_length_le (by omega)]
 | succ d ih =>
  intro k i hi hd hk
  obtain ⟨k, rfl⟩ : ∃ m, k = m + 1 := ⟨k - 1, by omega⟩
  have next := ih k (i + 1) (by omega) (by omega) (by omega)
  rw [take_snG cs 0 i (by omega), List.map_append] at next
  simp only [sleep_Watched.l0]
  rw [if_pos (by omega), if_pos (by omega), if_pos (by omega), show rd cs (i : Int) = cs.getD i 0 from rfl, FindR_f k l _ (by omega) (by omega), Option.bind_some, if_pos (by rw [List.length_map, List.length_take]; omega), wrN (by omega)]
  exact next
theorem cellsR_le (l : List Rd) : (cellsR l).length ≤ l.length := by
 unfold cellsR
 split
 · rw [List.length_mergeSort, List.length_map]; exact Nat.le_refl _
 · simp
theorem Watched_f (k : Nat) (l : List Rd) (hl : l.length ≤ 500) (hk : 2200 < k) : sleep_Watched.f k l = some (watchedR l) := by
 have hc := cellsR_le l
 unfold sleep_Watched.f watchedR
 rw [CellsR_f k l (by omega) (by omega), Option.bind_some]
 have := Watched_l l (cellsR l) (by omega) (by omega) (cellsR l).length k 0 (by omega) (by omega) (by omega)
 exact this
theorem mem_idxR {l : List Rd} {x : Rd} (hx : x ∈ l) : ∃ i, i < l.length ∧ l.getD i z57 = x := by
 obtain ⟨i, hi, rfl⟩ := List.mem_iff_getElem.1 hx
 exact ⟨i, hi, by rw [List.getD_eq_getElem?_getD, List.getElem?_eq_getElem hi]; rfl⟩
theorem find_val {l : List Rd} (hr : rightR l = true) {x : Rd} (hx : x ∈ l) : (findR l x.f0).2.2.1 = x.f2 := by
 obtain ⟨i, hi, rfl⟩ := mem_idxR hx
 unfold findR
 rcases plc_cases l (l.getD i z57).f0 with ⟨_, h⟩ | ⟨j, hj, e, h, _⟩
 · exact absurd rfl (h _ (getD_in l z57 i hi))
 · have := pair_same ((rightR_iff l).1 hr).2.2 j i hj hi h
   subst this
   rw [e, if_pos ⟨by omega, hr⟩]; rfl
theorem ListW_l (w : List Wr) (hm : w.length < 4398046511104) (d : Nat) : ∀ (k i : Nat), i ≤ w.length → w.length - i = d → d < k → handshakerref06_List.l0 k w w (i : Int) = some true := by
 induction d with
 | zero =>
  intro k i hi hd hk
  obtain ⟨k, rfl⟩ : ∃ m, k = m + 1 := ⟨k - 1, by omega⟩
  simp only [handshakerref06_List.l0]
  rw [if_neg (by omega)]
 | succ d ih =>
  intro k i hi hd hk
  obtain ⟨k, rfl⟩ : ∃ m, k = m + 1 := ⟨k - 1, by omega⟩
  simp only [handshakerref06_List.l0]
  rw [if_pos (by omega), if_pos (by omega), if_pos (by omega), if_neg (by simp), wrN (by omega)]
  exact ih k (i + 1) (by omega) (by omega) (by omega)
theorem ListW_f (k : Nat) (w : List Wr) (hm : w.length < 4398046511104) (hk : w.length < k) : handshakerref06_List.f k w w = some true := by
 unfold handshakerref06_List.f
 rw [if_pos rfl]
 exact ListW_l w hm w.length k 0 (by omega) (by omega) (by omega)
end Go.Proofs.Ytjnkpocfmpbpoaa.Se
