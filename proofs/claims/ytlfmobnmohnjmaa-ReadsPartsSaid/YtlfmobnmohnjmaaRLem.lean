/-
  PROVED: Plain lemmas on numbers and lists, of what the printed functions answer. No condition beside those of each lemma.
-/
import Derived.Test.YtlfmobnmohnjmaaRx2
import Derived.Test.YtlfmobnmohnjmaaRx3
import Derived.Test.YtlfmobnmohnjmaaRx4
import Derived.Test.YtlfmobnmohnjmaaRx5
namespace Go.Proofs.Ytlfmobnmohnjmaa.R
open Go.RowKit Go.Proofs.YtlfmobnmohnjmaaW.PrintWords Go.Proofs.YtlfmobnmohnjmaaW.PrintLast Go.Proofs.YtlfmobnmohnjmaaW.PrintMore Go.Proofs.Ytlfmobnmohnjmaa.Ho
set_option linter.unusedVariables false
set_option linter.unusedSimpArgs false
theorem wr {i : Int} (h0 : -9223372036854775808 ≤ i) (h : i ≤ 9223372036854775807) : wrap64 i = i := by unfold wrap64; omega
theorem wrN {i : Nat} (h : i < 4611686018427387904) : wrap64 ((i : Int) + 1) = ((i + 1 : Nat) : Int) := by unfold wrap64; omega
theorem drop_cons {α : Type} (l : List α) (z : α) (i : Nat) (h : i < l.length) : l.drop i = l.getD i z :: l.drop (i + 1) := by
  rw [List.drop_eq_getElem_cons h]
  simp [List.getElem?_eq_getElem h]
/-- The first place at which p holds, from i on, or -1. -/
def idxT {α : Type} (p : α → Bool) : List α → Int → Int
  | [], _ => -1
  | x :: xs, i => if p x then i else idxT p xs (i + 1)
theorem idxT_yes {α : Type} {p : α → Bool} {x : α} {xs : List α} {i : Int} (h : p x = true) : idxT p (x :: xs) i = i := by simp [idxT, h]
theorem idxT_no {α : Type} {p : α → Bool} {x : α} {xs : List α} {i : Int} (h : p x = false) : idxT p (x :: xs) i = idxT p xs (i + 1) := by simp [idxT, h]
theorem idxF_T {α : Type} {f : α → Option Bool} {p : α → Bool} : ∀ (l : List α) (i : Int), (∀ x ∈ l, f x = some (p x)) → idxF f l i = some (idxT p l i)
  | [], _, _ => rfl
  | x :: xs, i, h => by
    simp only [idxF, idxT]
    rw [h x (by simp), idxF_T xs (i + 1) (fun y hy => h y (by simp [hy]))]
    simp only [Option.bind_some]
    cases p x <;> rfl
theorem anyF_T {α : Type} {f : α → Option Bool} {p : α → Bool} : ∀ (l : List α), (∀ x ∈ l, f x = some (p x)) → anyF f l = some (l.any p)
  | [], _ => rfl
  | x :: xs, h => by
    simp only [anyF, List.any_cons]
    rw [h x (by simp), anyF_T xs (fun y hy => h y (by simp [hy]))]
    simp only [Option.bind_some]
    cases p x <;> rfl
theorem idxT_cases {α : Type} (p : α → Bool) (z : α) : ∀ (l : List α) (i : Int), (idxT p l i = -1 ∧ ∀ x ∈ l, p x = false) ∨ ∃ j : Nat, j < l.length ∧ idxT p l i = i + j ∧ p (l.getD j z) = true ∧ ∀ m, m < j → p (l.getD m z) = false
  | [], i => .inl ⟨rfl, fun x hx => by cases hx⟩
  | x :: xs, i => by
    cases hx : p x with
    | true => exact .inr ⟨0, by simp, by simp [idxT, hx], by simpa using hx, fun m hm => by omega⟩
    | false =>
      rcases idxT_cases p z xs (i + 1) with ⟨h1, h2⟩ | ⟨j, h1, h2, h3, h4⟩
      · exact .inl ⟨by simp [idxT, hx, h1], fun y hy => by rcases List.mem_cons.1 hy with rfl | hy; exact hx; exact h2 y hy⟩
      · refine .inr ⟨j + 1, by simpa using h1, by simp [idxT, hx, h2]; omega, by simpa using h3, fun m hm => ?_⟩
        cases m with
        | zero => simpa using hx
        | succ m => simpa using h4 m (by omega)
def inR (v : Int) : Bool := decide (-2147483648 ≤ v ∧ v ≤ 2147483647)
theorem right_f (a : Int) : span_Right.f a = some (inR a) := by
  unfold span_Right.f inR
  by_cases h : a ≥ (-2147483648)
  · rw [if_pos h]; simp [h]
  · rw [if_neg h]; simp [h]
/-! ### heaps -/
def okC (c : S73) : Bool := inR c.f1 && (c.f0 || c.f1 == 0)
def RightB (h : List S73) : Bool := decide (1 ≤ h.length) && decide (h.length ≤ 64) && h.all okC
def there (h : List S73) (c : Int) : Bool := decide (0 ≤ c ∧ c < h.length) && (h.getD c.toNat z73).f0
def getB (h : List S73) (c : Int) : Int × Int := if RightB h = true then if there h c = true then ((h.getD c.toNat z73).f1, 0) else (0, 3) else (0, 1)
theorem wrong_f (a : Bool) (v : Int) : heap_wrong.f a v = some (!(okC ⟨a, v⟩)) := by
  unfold heap_wrong.f
  rw [right_f]
  simp only [Option.bind_some, okC]
  cases inR v <;> cases a <;> first | rfl | (by_cases h : v = 0 <;> simp [h])
theorem all_okC (h : List S73) : (!(h.any fun x => !(okC x))) = h.all okC := by
  induction h with
  | nil => rfl
  | cons x xs ih => simp only [List.any_cons, List.all_cons, ← ih]; cases okC x <;> simp
theorem Right_f (h : List S73) : heap_Right.f h = some (RightB h) := by
  unfold heap_Right.f any_at_heap_wrong.f RightB
  rw [anyF_T (p := fun x => !(okC x)) h (fun x _ => wrong_f x.f0 x.f1)]
  simp only [Option.bind_some, all_okC]
  by_cases h1 : (h.length : Int) ≥ 1
  · rw [if_pos h1]
    by_cases h2 : (h.length : Int) ≤ 64
    · rw [if_pos h2]
      have e1 : decide (1 ≤ h.length) = true := by simp; omega
      have e2 : decide (h.length ≤ 64) = true := by simp; omega
      rw [e1, e2]; simp
    · rw [if_neg h2]
      have e2 : decide (h.length ≤ 64) = false := by simp; omega
      rw [e2]; simp
  · rw [if_neg h1]
    have e1 : decide (1 ≤ h.length) = false := decide_eq_false (by omega)
    rw [e1]; simp
theorem Right_len {h : List S73} (hr : RightB h = true) : 1 ≤ h.length ∧ h.length ≤ 64 ∧ ∀ x ∈ h, okC x = true := by
  simp only [RightB, Bool.and_eq_true, decide_eq_true_eq, List.all_eq_true] at hr
  exact ⟨hr.1.1, hr.1.2, hr.2⟩
theorem there_f (h : List S73) (c : Int) : heap_there.f h c = some (there h c) := by
  unfold heap_there.f there
  by_cases h0 : c ≥ 0
  · rw [if_pos h0]
    by_cases h1 : c < (h.length : Int)
    · rw [if_pos h1, if_pos h0]
      have : decide (0 ≤ c ∧ c < (h.length : Int)) = true := decide_eq_true ⟨h0, h1⟩
      rw [this]; rfl
    · rw [if_neg h1]
      have : decide (0 ≤ c ∧ c < (h.length : Int)) = false := decide_eq_false (fun e => h1 e.2)
      rw [this]; rfl
  · rw [if_neg h0]
    have : decide (0 ≤ c ∧ c < (h.length : Int)) = false := decide_eq_false (fun e => h0 e.1)
    rw [this]; rfl
theorem there_rng {h : List S73} {c : Int} (ht : there h c = true) : 0 ≤ c ∧ c < h.length ∧ (h.getD c.toNat z73).f0 = true := by
  simp only [there, Bool.and_eq_true, decide_eq_true_eq] at ht
  exact ⟨ht.1.1, ht.1.2, ht.2⟩
theorem Get_f (h : List S73) (c : Int) : heap_Get.f h c = some (getB h c) := by
  unfold heap_Get.f getB
  rw [Right_f, there_f]
  simp only [Option.bind_some]
  by_cases hr : RightB h = true
  · rw [if_pos hr, if_pos hr]
    by_cases ht : there h c = true
    · obtain ⟨h0, h1, _⟩ := there_rng ht
      rw [if_pos ht, if_pos ht, if_pos h0, if_pos h1]; rfl
    · rw [if_neg ht, if_neg ht]
  · rw [if_neg hr, if_neg hr]
theorem getB_ok {h : List S73} {c : Int} (he : (getB h c).2 = 0) : RightB h = true ∧ there h c = true := by
  unfold getB at he
  split at he
  · split at he
    · exact ⟨by assumption, by assumption⟩
    · simp at he
  · simp at he
/-! ### reads -/
theorem getD_in {α : Type} (l : List α) (z : α) (i : Nat) (h : i < l.length) : l.getD i z ∈ l := by
  rw [List.getD_eq_getElem?_getD, List.getElem?_eq_getElem h]; exact List.getElem_mem _
theorem take_snG {α : Type} (l : List α) (z : α) (i : Nat) (hi : i < l.length) : l.take (i + 1) = l.take i ++ [l.getD i z] := by
  rw [List.take_add_one, List.getD_eq_getElem?_getD, List.getElem?_eq_getElem hi]; rfl
theorem mem_takeG {α : Type} (l : List α) (z : α) (i : Nat) (x : α) (hi : i ≤ l.length) (h : x ∈ l.take i) : ∃ m, m < i ∧ l.getD m z = x := by
  obtain ⟨m, hm, rfl⟩ := List.mem_iff_getElem.1 h
  rw [List.length_take] at hm
  refine ⟨m, by omega, ?_⟩
  rw [List.getD_eq_getElem?_getD, List.getElem?_eq_getElem (by omega), List.getElem_take]; rfl
def tickB (a : Int) : Bool := decide (0 ≤ a ∧ a ≤ 2147483647)
theorem tick_f (a : Int) : tick_Right.f a = some (tickB a) := by
  unfold tick_Right.f tickB
  by_cases h : a ≥ 0
  · rw [if_pos h]; congr 1; rw [decide_eq_decide]; omega
  · rw [if_neg h]; congr 1; symm; rw [decide_eq_false_iff_not]; omega
def okR (r : S24) : Bool := decide (0 ≤ r.f0) && tickB r.f1 && inR r.f2
theorem okR_eq (r : S24) : okR r = true ↔ 0 ≤ r.f0 ∧ tickB r.f1 = true ∧ inR r.f2 = true := by
  unfold okR
  rw [Bool.and_eq_true, Bool.and_eq_true, decide_eq_true_eq, and_assoc]
def plc (l : List S24) (c : Int) : Int := idxT (fun x => x.f0 == c) l 0
theorem place_f (l : List S24) (c : Int) : reads_place.f l c = some (plc l c) := by
  unfold reads_place.f idx_at_reads_place_1.f plc
  rw [idxF_T (f := fun x : S24 => reads_place_1.f x.f0 x.f1 x.f2 c) (p := fun x => x.f0 == c) l 0 (fun x _ => rfl)]; rfl
theorem plc_cases (l : List S24) (c : Int) : (plc l c = -1 ∧ ∀ x ∈ l, x.f0 ≠ c) ∨ ∃ j : Nat, j < l.length ∧ plc l c = (j : Int) ∧ (l.getD j z24).f0 = c ∧ ∀ m, m < j → (l.getD m z24).f0 ≠ c := by
  rcases idxT_cases (fun x : S24 => x.f0 == c) z24 l 0 with ⟨h1, h2⟩ | ⟨j, h1, h2, h3, h4⟩
  · exact .inl ⟨h1, fun x hx => by simpa using h2 x hx⟩
  · exact .inr ⟨j, h1, by unfold plc; rw [h2]; omega, by simpa using h3, fun m hm => by simpa using h4 m hm⟩
abbrev RightP (l : List S24) : Prop := l.length ≤ 24 ∧ (∀ x ∈ l, okR x = true) ∧ l.Pairwise (fun a b => a.f0 ≠ b.f0)
def rightR (l : List S24) : Bool := decide (RightP l)
theorem rightR_iff (l : List S24) : rightR l = true ↔ RightP l := by unfold rightR; rw [decide_eq_true_eq]
theorem rightR_no {l : List S24} (h : ¬ RightP l) : rightR l = false := by unfold rightR; rw [decide_eq_false_iff_not]; exact h
theorem pair_at {l : List S24} (h : l.Pairwise (fun a b => a.f0 ≠ b.f0)) (i j : Nat) (hij : i < j) (hj : j < l.length) : (l.getD i z24).f0 ≠ (l.getD j z24).f0 := by
  have := List.pairwise_iff_getElem.1 h i j (by omega) hj hij
  rw [List.getD_eq_getElem?_getD, List.getElem?_eq_getElem (by omega), List.getD_eq_getElem?_getD, List.getElem?_eq_getElem hj]
  exact this
theorem pair_same {l : List S24} (h : l.Pairwise (fun a b => a.f0 ≠ b.f0)) (i j : Nat) (hi : i < l.length) (hj : j < l.length) (e : (l.getD i z24).f0 = (l.getD j z24).f0) : i = j := by
  rcases Nat.lt_trichotomy i j with h1 | h1 | h1
  · exact absurd e (pair_at h i j h1 hj)
  · exact h1
  · exact absurd e.symm (pair_at h j i h1 hi)
theorem pair_sn {l : List S24} (i : Nat) (hi : i < l.length) (h : (l.take i).Pairwise (fun a b => a.f0 ≠ b.f0)) (hx : ∀ m, m < i → (l.getD m z24).f0 ≠ (l.getD i z24).f0) : (l.take (i + 1)).Pairwise (fun a b => a.f0 ≠ b.f0) := by
  rw [take_snG l z24 i hi, List.pairwise_append]
  refine ⟨h, List.pairwise_singleton _ _, fun a ha b hb => ?_⟩
  obtain ⟨m, hm, rfl⟩ := mem_takeG l z24 i a (by omega) ha
  rw [List.mem_singleton.1 hb]
  exact hx m hm
theorem ok_sn {l : List S24} (i : Nat) (hi : i < l.length) (h : ∀ x ∈ l.take i, okR x = true) (hx : okR (l.getD i z24) = true) : ∀ x ∈ l.take (i + 1), okR x = true := by
  intro x hx'
  rw [take_snG l z24 i hi] at hx'
  rcases List.mem_append.1 hx' with h' | h'
  · exact h x h'
  · rw [List.mem_singleton.1 h']; exact hx
theorem RightR_l (l : List S24) (hm : l.length < 4398046511104) (d : Nat) : ∀ (k i : Nat), i ≤ l.length → l.length - i = d → d < k → (∀ x ∈ l.take i, okR x = true) → (l.take i).Pairwise (fun a b => a.f0 ≠ b.f0) →
    reads_Right.l0 k l l (l.length : Int) (i : Int) = some (rightR l) := by
  induction d with
  | zero =>
    intro k i hi hd hk h1 h2
    obtain ⟨k, rfl⟩ : ∃ m, k = m + 1 := ⟨k - 1, by omega⟩
    rw [List.take_of_length_le (by omega)] at h1 h2
    simp only [reads_Right.l0]
    rw [if_neg (by omega)]
    unfold rightR
    congr 1
    rw [decide_eq_decide]
    exact ⟨fun h => ⟨by omega, h1, h2⟩, fun h => by have := h.1; omega⟩
  | succ d ih =>
    intro k i hi hd hk h1 h2
    obtain ⟨k, rfl⟩ : ∃ m, k = m + 1 := ⟨k - 1, by omega⟩
    have hmem := getD_in l z24 i (by omega)
    have no : ¬ okR (l.getD i z24) = true → some false = some (rightR l) := fun h => by rw [rightR_no (fun e => h (e.2.1 _ hmem))]
    simp only [reads_Right.l0]
    rw [if_pos (by omega), if_pos (by omega), if_pos (by omega), show rd_T24 l (i : Int) = l.getD i z24 from rfl, tick_f, right_f, place_f, wrN (by omega)]
    simp only [Option.bind_some]
    by_cases a0 : (l.getD i z24).f0 < 0
    · rw [if_pos a0]; exact no (fun e => by have := ((okR_eq _).1 e).1; omega)
    rw [if_neg a0]
    by_cases a1 : tickB (l.getD i z24).f1 = true
    · rw [if_pos a1]
      by_cases a2 : inR (l.getD i z24).f2 = true
      · rw [if_pos a2]
        have hok : okR (l.getD i z24) = true := (okR_eq _).2 ⟨by omega, a1, a2⟩
        rcases plc_cases l (l.getD i z24).f0 with ⟨h, h'⟩ | ⟨j, hj, h, h', h''⟩
        · exact absurd rfl (h' _ hmem)
        · rw [h]
          by_cases e : j = i
          · subst e
            rw [if_pos rfl]
            exact ih k (j + 1) (by omega) (by omega) (by omega) (ok_sn j (by omega) h1 hok) (pair_sn j (by omega) h2 h'')
          · rw [if_neg (by omega), rightR_no]
            intro e'
            exact e (pair_same e'.2.2 j i hj (by omega) h')
      · rw [if_neg a2]; exact no (fun e => a2 ((okR_eq _).1 e).2.2)
    · rw [if_neg a1]; exact no (fun e => a1 ((okR_eq _).1 e).2.1)
theorem RightR_f (k : Nat) (l : List S24) (hm : l.length < 4398046511104) (hk : l.length < k) : reads_Right.f k l = some (rightR l) := by
  unfold reads_Right.f
  exact RightR_l l hm l.length k 0 (by omega) (by omega) (by omega) (by simp) (by simp)
theorem rightR_one (r : S24) : rightR [r] = okR r := by
  rw [Bool.eq_iff_iff, rightR_iff]
  constructor
  · intro h; exact h.2.1 r (by simp)
  · intro h; exact ⟨by simp, fun x hx => by rw [List.mem_singleton.1 hx]; exact h, List.pairwise_singleton _ _⟩
def eqR (a b : S24) : Bool := a.f0 == b.f0 && (a.f1 == b.f1 && (a.f2 == b.f2))
theorem eqR_iff (a b : S24) : eqR a b = true ↔ a = b := by
  obtain ⟨a0, a1, a2⟩ := a
  obtain ⟨b0, b1, b2⟩ := b
  unfold eqR
  simp only [Bool.and_eq_true, beq_iff_eq, S24.mk.injEq]
def addR (l : List S24) (r : S24) : List S24 × Int :=
  if rightR l = true ∧ okR r = true then
    if 0 ≤ plc l r.f0 then (if eqR (l.getD (plc l r.f0).toNat z24) r = true then (l, 0) else (l, 8))
    else if l.length = 24 then (l, 5) else (l ++ [r], 0)
  else (l, 1)
theorem AddR_f (k : Nat) (l : List S24) (r : S24) (hm : l.length < 4398046511104) (hk : l.length + 5 < k) : reads_Add.f k l r.f0 r.f1 r.f2 = some (addR l r) := by
  obtain ⟨k, rfl⟩ : ∃ m, k = m + 2 := ⟨k - 2, by omega⟩
  unfold reads_Add.f addR
  rw [RightR_f (k + 2) l hm (by omega), RightR_f (k + 2) _ (by simp) (by simp), rightR_one]
  simp only [Option.bind_some]
  by_cases h1 : rightR l = true
  · rw [if_pos h1]
    by_cases h2 : okR r = true
    · rw [if_pos ⟨h1, h2⟩, show okR ⟨r.f0, r.f1, r.f2⟩ = true from h2]
      simp only [reads_Add.j0]
      rw [if_neg (by decide), place_f]
      simp only [Option.bind_some]
      have hl := ((rightR_iff l).1 h1).1
      rcases plc_cases l r.f0 with ⟨h, h'⟩ | ⟨j, hj, h, h', h''⟩
      · rw [h, if_neg (by omega), if_neg (by omega)]
        simp only [reads_Add.j1]
        rw [if_neg (by decide), if_neg (by omega)]
        by_cases e : l.length = 24
        · rw [if_pos (by omega), if_pos e]
        · rw [if_neg (by omega), if_neg e]
          unfold slices_Clone_46.f
          simp only [Option.bind_some, List.nil_append, List.length_nil]
          rw [if_pos (by omega)]
          simp only [Option.bind_some]
          rw [if_pos (by simp; omega)]
      · rw [h, if_pos (by omega), if_pos (by omega), if_pos (by omega), if_pos (by omega)]
        simp only [reads_Add.j1]
        rw [show rd_T24 l (j : Int) = l.getD j z24 from rfl, show ((j : Int)).toNat = j from by omega]
        by_cases e : eqR (l.getD j z24) r = true
        · rw [if_pos e, if_pos (show ((l.getD j z24).f0 == r.f0 && ((l.getD j z24).f1 == r.f1 && (l.getD j z24).f2 == r.f2)) = true from e)]
        · rw [if_neg e, if_neg (show ¬ ((l.getD j z24).f0 == r.f0 && ((l.getD j z24).f1 == r.f1 && (l.getD j z24).f2 == r.f2)) = true from e), if_pos (by omega)]
    · rw [if_neg (fun e => h2 e.2), show okR ⟨r.f0, r.f1, r.f2⟩ = false from by simpa using h2]
      simp only [reads_Add.j0]
      rw [if_pos (by decide)]
  · rw [if_neg h1, if_neg (fun e => h1 e.1)]
    simp only [reads_Add.j0]
    rw [if_pos trivial]
def findR (l : List S24) (c : Int) : Int × Int × Int × Bool :=
  if 0 ≤ plc l c ∧ rightR l = true then ((l.getD (plc l c).toNat z24).f0, (l.getD (plc l c).toNat z24).f1, (l.getD (plc l c).toNat z24).f2, true) else (0, 0, 0, false)
theorem FindR_f (k : Nat) (l : List S24) (c : Int) (hm : l.length < 4398046511104) (hk : l.length < k) : reads_Find.f k l c = some (findR l c) := by
  unfold reads_Find.f findR
  rw [place_f, RightR_f k l hm hk]
  simp only [Option.bind_some]
  rcases plc_cases l c with ⟨h, h'⟩ | ⟨j, hj, h, h', h''⟩
  · rw [h, if_pos (by omega), if_neg (by omega)]
  · rw [h, if_neg (by omega)]
    by_cases h1 : rightR l = true
    · rw [if_pos h1, if_pos (by omega), if_pos (by omega), if_pos ⟨by omega, h1⟩]; rfl
    · rw [if_neg h1, if_neg (fun e => h1 e.2)]
def cellsR (l : List S24) : List Int := if rightR l = true then (l.map fun x => x.f0).mergeSort fun x y => decide (x ≤ y) else []
theorem CellsR_l (l : List S24) (hm : l.length < 4398046511) (d : Nat) : ∀ (k i : Nat), i ≤ l.length → l.length - i = d → d + l.length + 1 < k →
    reads_Cells.l0 k l ((l.take i).map fun x => x.f0) l (l.length : Int) (i : Int) = some (cellsR l) := by
  induction d with
  | zero =>
    intro k i hi hd hk
    obtain ⟨k, rfl⟩ : ∃ m, k = m + 1 := ⟨k - 1, by omega⟩
    rw [List.take_of_length_le (by omega)]
    simp only [reads_Cells.l0]
    rw [if_neg (by omega), RightR_f k l (by omega) (by omega)]
    unfold cellsR slices_Sort.f
    simp only [Option.bind_some]
    by_cases h : rightR l = true
    · rw [if_pos h, if_pos h, if_pos (by rw [List.length_map]; omega)]; rfl
    · rw [if_neg h, if_neg h]
  | succ d ih =>
    intro k i hi hd hk
    obtain ⟨k, rfl⟩ : ∃ m, k = m + 1 := ⟨k - 1, by omega⟩
    simp only [reads_Cells.l0]
    rw [if_pos (by omega), if_pos (by omega), if_pos (by omega), if_pos (by rw [List.length_map, List.length_take]; omega), wrN (by omega)]
    have := ih k (i + 1) (by omega) (by omega) (by omega)
    rw [take_snG l z24 i (by omega), List.map_append] at this
    exact this
theorem CellsR_f (k : Nat) (l : List S24) (hm : l.length < 4398046511) (hk : 2 * l.length + 1 < k) : reads_Cells.f k l = some (cellsR l) := by
  unfold reads_Cells.f
  have := CellsR_l l hm l.length k 0 (by omega) (by omega) (by omega)
  simpa using this
/-! tables of records -/
def okT (x : S67) : Bool := tickB x.f0 && decide (0 ≤ x.f1 ∧ x.f1 ≤ 8)
theorem someb_f (a : Int) : stripe_somebody.f a = some (decide (1 ≤ a ∧ a ≤ 8)) := by
  unfold stripe_somebody.f
  by_cases h : a ≥ 1
  · rw [if_pos h]; congr 1; rw [decide_eq_decide]; omega
  · rw [if_neg h]; congr 1; symm; rw [decide_eq_false_iff_not]; omega
theorem wrongT_f (a b : Int) : stripe_wrong.f a b = some (!(okT ⟨a, b⟩)) := by
  unfold stripe_wrong.f okT tickB
  rw [someb_f]
  simp only [Option.bind_some]
  by_cases h0 : a < 0
  · rw [if_pos h0, decide_eq_false (show ¬ (0 ≤ a ∧ a ≤ 2147483647) by omega)]; rfl
  · rw [if_neg h0]
    by_cases h1 : a > 2147483647
    · rw [if_pos h1, decide_eq_false (show ¬ (0 ≤ a ∧ a ≤ 2147483647) by omega)]; rfl
    · rw [if_neg h1, decide_eq_true (show 0 ≤ a ∧ a ≤ 2147483647 by omega)]
      by_cases h2 : b = 0
      · rw [if_pos h2, decide_eq_true (show 0 ≤ b ∧ b ≤ 8 by omega)]; rfl
      · rw [if_neg h2, Bool.true_and]
        congr 2
        rw [decide_eq_decide]; omega
theorem all_okT (t : List S67) : (!(t.any fun x => !(okT x))) = t.all okT := by
  induction t with
  | nil => rfl
  | cons x xs ih => simp only [List.any_cons, List.all_cons, ← ih]; cases okT x <;> simp
def rightT (t : List S67) : Bool := decide (1 ≤ t.length ∧ t.length ≤ 16) && t.all okT
theorem RightT_f (t : List S67) : stripe_Right.f t = some (rightT t) := by
  unfold stripe_Right.f any_at_stripe_wrong.f rightT
  rw [anyF_T (p := fun x => !(okT x)) t (fun x _ => wrongT_f x.f0 x.f1)]
  simp only [Option.bind_some, all_okT]
  by_cases h1 : (t.length : Int) ≥ 1
  · rw [if_pos h1]
    by_cases h2 : (t.length : Int) ≤ 16
    · rw [if_pos h2, decide_eq_true (by omega)]; simp
    · rw [if_neg h2, decide_eq_false (by omega)]; rfl
  · rw [if_neg h1, decide_eq_false (by omega)]; rfl
theorem rightT_ok {t : List S67} (h : rightT t = true) : 1 ≤ t.length ∧ t.length ≤ 16 ∧ ∀ x ∈ t, okT x = true := by
  unfold rightT at h
  rw [Bool.and_eq_true, decide_eq_true_eq, List.all_eq_true] at h
  exact ⟨h.1.1, h.1.2, h.2⟩
theorem tmodN (c : Int) (n : Nat) (hc : 0 ≤ c) (hn : 0 < n) : ∃ m : Nat, Int.tmod c (n : Int) = (m : Int) ∧ m < n ∧ m = c.toNat % n := by
  refine ⟨c.toNat % n, ?_, Nat.mod_lt _ hn, rfl⟩
  obtain ⟨q, rfl⟩ : ∃ q : Nat, c = (q : Int) := ⟨c.toNat, by omega⟩
  rw [Int.toNat_natCast]; rfl
/-! what is valid -/
def okV (t : List S67) (who : Int) (x : S24) : Bool :=
  (t.getD (x.f0.toNat % t.length) z67).f0 == x.f1 && ((t.getD (x.f0.toNat % t.length) z67).f1 == 0 || (t.getD (x.f0.toNat % t.length) z67).f1 == who)
def whoB (who : Int) : Bool := decide (1 ≤ who ∧ who ≤ 8)
def validR (l : List S24) (t : List S67) (who : Int) : Int := if (rightR l && rightT t && whoB who) = true then (if l.all (okV t who) = true then 0 else 8) else 1
theorem ValidR_l (l : List S24) (t : List S67) (who : Int) (hm : l.length < 4398046511) (hr : rightR l = true) (ht : rightT t = true) (d : Nat) : ∀ (k i : Nat), i ≤ l.length → l.length - i = d → d < k →
    reads_Valid.l0 k t who l (l.length : Int) (i : Int) = some (if (l.drop i).all (okV t who) = true then 0 else 8) := by
  have hp := ((rightR_iff l).1 hr).2.1
  have hn := (rightT_ok ht).1
  induction d with
  | zero =>
    intro k i hi hd hk
    obtain ⟨k, rfl⟩ : ∃ m, k = m + 1 := ⟨k - 1, by omega⟩
    rw [List.drop_of_length_le (by omega)]
    simp only [reads_Valid.l0]
    rw [if_neg (by omega)]; rfl
  | succ d ih =>
    intro k i hi hd hk
    obtain ⟨k, rfl⟩ : ∃ m, k = m + 1 := ⟨k - 1, by omega⟩
    have hx := ((okR_eq _).1 (hp _ (getD_in l z24 i (by omega)))).1
    have next := ih k (i + 1) (by omega) (by omega) (by omega)
    rw [drop_cons l z24 i (by omega), List.all_cons]
    simp only [reads_Valid.l0]
    rw [show rd_T24 l (i : Int) = l.getD i z24 from rfl]
    unfold okV
    generalize l.getD i z24 = x at *
    obtain ⟨m, e1, e2, e3⟩ := tmodN x.f0 t.length hx (by omega)
    rw [e1, if_pos (by omega), if_pos (by omega), if_pos (by omega), if_neg (by omega), if_pos (by omega), if_pos (by omega), wrN (by omega), show rd_T67 t (m : Int) = t.getD m z67 from rfl, next, ← e3]
    generalize t.getD m z67 = y
    unfold okV
    generalize (l.drop (i + 1)).all _ = q
    by_cases h1 : y.f0 = x.f1
    · rw [if_pos h1, beq_iff_eq.2 h1, Bool.true_and]
      by_cases h2 : y.f1 = 0
      · rw [if_pos h2, beq_iff_eq.2 h2]; rfl
      · rw [if_neg h2, beq_eq_false_iff_ne.2 h2]
        by_cases h3 : y.f1 = who
        · rw [if_pos h3, beq_iff_eq.2 h3]; rfl
        · rw [if_neg h3, beq_eq_false_iff_ne.2 h3]; rfl
    · rw [if_neg h1, beq_eq_false_iff_ne.2 h1]; rfl
theorem ValidR_f (k : Nat) (l : List S24) (t : List S67) (who : Int) (hm : l.length < 4398046511) (hk : l.length + 2 < k) : reads_Valid.f k l t who = some (validR l t who) := by
  obtain ⟨k, rfl⟩ : ∃ m, k = m + 1 := ⟨k - 1, by omega⟩
  unfold reads_Valid.f validR
  rw [RightR_f (k + 1) l (by omega) (by omega), RightT_f]
  simp only [Option.bind_some]
  by_cases h1 : rightR l = true
  · rw [if_pos h1, h1]
    by_cases h2 : rightT t = true
    · rw [if_pos h2, h2]
      have ew : (if who < 1 then reads_Valid.j0 (k + 1) l t who true else reads_Valid.j0 (k + 1) l t who (decide (who > 8))) = reads_Valid.j0 (k + 1) l t who (!(whoB who)) := by
        unfold whoB
        by_cases h3 : who < 1
        · rw [if_pos h3, decide_eq_false (by omega)]; rfl
        · rw [if_neg h3]
          congr 1
          by_cases h4 : who > 8
          · rw [decide_eq_true h4, decide_eq_false (by omega)]; rfl
          · rw [decide_eq_false h4, decide_eq_true (by omega)]; rfl
      rw [ew]
      simp only [reads_Valid.j0]
      cases hw : whoB who with
      | true =>
        rw [if_neg (by decide), if_pos (show (true && true && true) = true from rfl)]
        have := ValidR_l l t who hm h1 h2 l.length k 0 (by omega) (by omega) (by omega)
        simpa using this
      | false => rw [if_pos (by decide), if_neg (by decide)]
    · rw [if_neg h2, show rightT t = false from by simpa using h2]
      simp only [reads_Valid.j0]
      rw [if_pos trivial]; rfl
  · rw [if_neg h1, show rightR l = false from by simpa using h1]
    simp only [reads_Valid.j0]
    rw [if_pos trivial]; rfl
/-! what stands -/
def okS (h : List S73) (x : S24) : Bool := (getB h x.f0).2 == 0 && (getB h x.f0).1 == x.f2
def sameR (l : List S24) (h : List S73) : Bool := rightR l && RightB h && l.all (okS h)
theorem SameH_f (k : Nat) (l : List S24) (h : List S73) (hm : l.length < 4398046511) (hk : l.length < k) : reads_Same.f k l h = some (sameR l h) := by
  unfold reads_Same.f sameR any_at_reads_Same_1.f
  rw [RightR_f k l (by omega) hk, Right_f]
  simp only [Option.bind_some]
  rw [anyF_T (f := fun x : S24 => reads_Same_1.f x.f0 x.f1 x.f2 h) (p := fun x => !(okS h x)) l (fun x _ => by
    unfold reads_Same_1.f okS
    rw [Get_f]
    simp only [Option.bind_some]
    by_cases h1 : (getB h x.f0).2 = 0
    · rw [if_pos h1, beq_iff_eq.2 h1]; rfl
    · rw [if_neg h1, beq_eq_false_iff_ne.2 h1]; rfl)]
  simp only [Option.bind_some]
  have ea : (!(l.any fun x => !(okS h x))) = l.all (okS h) := by
    clear hm hk
    induction l with
    | nil => rfl
    | cons x xs ih => simp only [List.any_cons, List.all_cons, ← ih]; cases okS h x <;> simp
  rw [ea]
  cases rightR l <;> cases RightB h <;> simp
end Go.Proofs.Ytlfmobnmohnjmaa.R
