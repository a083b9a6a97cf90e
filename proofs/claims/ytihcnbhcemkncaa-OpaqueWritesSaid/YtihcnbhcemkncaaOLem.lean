/-
  PROVED: Plain lemmas on numbers and lists, of what the printed functions answer. No condition beside those of each lemma.
-/
import Derived.Test.YtihcnbhcemkncaaOx2
import Derived.Test.YtihcnbhcemkncaaOx3
import Derived.Test.YtihcnbhcemkncaaOx4
import Derived.Test.YtihcnbhcemkncaaOx5
import Derived.Test.YtihcnbhcemkncaaOx6
namespace Go.Proofs.Ytihcnbhcemkncaa.O
open Go.RowKit Go.Proofs.YtihcnbhcemkncaaW.PrintWords Go.Proofs.YtihcnbhcemkncaaW.PrintLast Go.Proofs.YtihcnbhcemkncaaW.PrintMore Go.Proofs.Ytihcnbhcemkncaa.Ho
set_option linter.unusedVariables false
set_option linter.unusedSimpArgs false
theorem wr {i : Int} (h0 : -9223372036854775808 ≤ i) (h : i ≤ 9223372036854775807) : wrap64 i = i := by unfold wrap64; omega
theorem wrN {i : Nat} (h : i < 4611686018427387904) : wrap64 ((i : Int) + 1) = ((i + 1 : Nat) : Int) := by unfold wrap64; omega
theorem drop_cons {α : Type} (l : List α) (z : α) (i : Nat) (h : i < l.length) : l.drop i = l.getD i z :: l.drop (i + 1) := by
  rw [List.drop_eq_getElem_cons h]
  simp [List.getElem?_eq_getElem h]
/-- The first place at which p holds, from i on, or -1. -/
def idxT {α : Type} (p : α → Bool) : List α → Int → Int
  | [], _ => -1
  | x :: xs, i => if p x then i else idxT p xs (i + 1)
theorem idxT_yes {α : Type} {p : α → Bool} {x : α} {xs : List α} {i : Int} (h : p x = true) : idxT p (x :: xs) i = i := by simp [idxT, h]
theorem idxT_no {α : Type} {p : α → Bool} {x : α} {xs : List α} {i : Int} (h : p x = false) : idxT p (x :: xs) i = idxT p xs (i + 1) := by simp [idxT, h]
theorem idxF_T {α : Type} {f : α → Option Bool} {p : α → Bool} : ∀ (l : List α) (i : Int), (∀ x ∈ l, f x = some (p x)) → idxF f l i = some (idxT p l i)
  | [], _, _ => rfl
  | x :: xs, i, h => by
    simp only [idxF, idxT]
    rw [h x (by simp), idxF_T xs (i + 1) (fun y hy => h y (by simp [hy]))]
    simp only [Option.bind_some]
    cases p x <;> rfl
theorem anyF_T {α : Type} {f : α → Option Bool} {p : α → Bool} : ∀ (l : List α), (∀ x ∈ l, f x = some (p x)) → anyF f l = some (l.any p)
  | [], _ => rfl
  | x :: xs, h => by
    simp only [anyF, List.any_cons]
    rw [h x (by simp), anyF_T xs (fun y hy => h y (by simp [hy]))]
    simp only [Option.bind_some]
    cases p x <;> rfl
theorem idxT_cases {α : Type} (p : α → Bool) (z : α) : ∀ (l : List α) (i : Int), (idxT p l i = -1 ∧ ∀ x ∈ l, p x = false) ∨ ∃ j : Nat, j < l.length ∧ idxT p l i = i + j ∧ p (l.getD j z) = true ∧ ∀ m, m < j → p (l.getD m z) = false
  | [], i => .inl ⟨rfl, fun x hx => by cases hx⟩
  | x :: xs, i => by
    cases hx : p x with
    | true => exact .inr ⟨0, by simp, by simp [idxT, hx], by simpa using hx, fun m hm => by omega⟩
    | false =>
      rcases idxT_cases p z xs (i + 1) with ⟨h1, h2⟩ | ⟨j, h1, h2, h3, h4⟩
      · exact .inl ⟨by simp [idxT, hx, h1], fun y hy => by rcases List.mem_cons.1 hy with rfl | hy; exact hx; exact h2 y hy⟩
      · refine .inr ⟨j + 1, by simpa using h1, by simp [idxT, hx, h2]; omega, by simpa using h3, fun m hm => ?_⟩
        cases m with
        | zero => simpa using hx
        | succ m => simpa using h4 m (by omega)
def inR (v : Int) : Bool := decide (-2147483648 ≤ v ∧ v ≤ 2147483647)
theorem right_f (a : Int) : span_Right.f a = some (inR a) := by
  unfold span_Right.f inR
  by_cases h : a ≥ (-2147483648)
  · rw [if_pos h]; simp [h]
  · rw [if_neg h]; simp [h]
/-! ### heaps -/
def okC (c : S66) : Bool := inR c.f1 && (c.f0 || c.f1 == 0)
def RightB (h : List S66) : Bool := decide (1 ≤ h.length) && decide (h.length ≤ 64) && h.all okC
def there (h : List S66) (c : Int) : Bool := decide (0 ≤ c ∧ c < h.length) && (h.getD c.toNat z66).f0
def getB (h : List S66) (c : Int) : Int × Int := if RightB h = true then if there h c = true then ((h.getD c.toNat z66).f1, 0) else (0, 3) else (0, 1)
theorem wrong_f (a : Bool) (v : Int) : heap_wrong.f a v = some (!(okC ⟨a, v⟩)) := by
  unfold heap_wrong.f
  rw [right_f]
  simp only [Option.bind_some, okC]
  cases inR v <;> cases a <;> first | rfl | (by_cases h : v = 0 <;> simp [h])
theorem all_okC (h : List S66) : (!(h.any fun x => !(okC x))) = h.all okC := by
  induction h with
  | nil => rfl
  | cons x xs ih => simp only [List.any_cons, List.all_cons, ← ih]; cases okC x <;> simp
theorem Right_f (h : List S66) : heap_Right.f h = some (RightB h) := by
  unfold heap_Right.f any_at_heap_wrong.f RightB
  rw [anyF_T (p := fun x => !(okC x)) h (fun x _ => wrong_f x.f0 x.f1)]
  simp only [Option.bind_some, all_okC]
  by_cases h1 : (h.length : Int) ≥ 1
  · rw [if_pos h1]
    by_cases h2 : (h.length : Int) ≤ 64
    · rw [if_pos h2]
      have e1 : decide (1 ≤ h.length) = true := by simp; omega
      have e2 : decide (h.length ≤ 64) = true := by simp; omega
      rw [e1, e2]; simp
    · rw [if_neg h2]
      have e2 : decide (h.length ≤ 64) = false := by simp; omega
      rw [e2]; simp
  · rw [if_neg h1]
    have e1 : decide (1 ≤ h.length) = false := decide_eq_false (by omega)
    rw [e1]; simp
theorem Right_len {h : List S66} (hr : RightB h = true) : 1 ≤ h.length ∧ h.length ≤ 64 ∧ ∀ x ∈ h, okC x = true := by
  simp only [RightB, Bool.and_eq_true, decide_eq_true_eq, List.all_eq_true] at hr
  exact ⟨hr.1.1, hr.1.2, hr.2⟩
theorem there_f (h : List S66) (c : Int) : heap_there.f h c = some (there h c) := by
  unfold heap_there.f there
  by_cases h0 : c ≥ 0
  · rw [if_pos h0]
    by_cases h1 : c < (h.length : Int)
    · rw [if_pos h1, if_pos h0]
      have : decide (0 ≤ c ∧ c < (h.length : Int)) = true := decide_eq_true ⟨h0, h1⟩
      rw [this]; rfl
    · rw [if_neg h1]
      have : decide (0 ≤ c ∧ c < (h.length : Int)) = false := decide_eq_false (fun e => h1 e.2)
      rw [this]; rfl
  · rw [if_neg h0]
    have : decide (0 ≤ c ∧ c < (h.length : Int)) = false := decide_eq_false (fun e => h0 e.1)
    rw [this]; rfl
theorem there_rng {h : List S66} {c : Int} (ht : there h c = true) : 0 ≤ c ∧ c < h.length ∧ (h.getD c.toNat z66).f0 = true := by
  simp only [there, Bool.and_eq_true, decide_eq_true_eq] at ht
  exact ⟨ht.1.1, ht.1.2, ht.2⟩
theorem Get_f (h : List S66) (c : Int) : heap_Get.f h c = some (getB h c) := by
  unfold heap_Get.f getB
  rw [Right_f, there_f]
  simp only [Option.bind_some]
  by_cases hr : RightB h = true
  · rw [if_pos hr, if_pos hr]
    by_cases ht : there h c = true
    · obtain ⟨h0, h1, _⟩ := there_rng ht
      rw [if_pos ht, if_pos ht, if_pos h0, if_pos h1]; rfl
    · rw [if_neg ht, if_neg ht]
  · rw [if_neg hr, if_neg hr]
theorem getB_ok {h : List S66} {c : Int} (he : (getB h c).2 = 0) : RightB h = true ∧ there h c = true := by
  unfold getB at he
  split at he
  · split at he
    · exact ⟨by assumption, by assumption⟩
    · simp at he
  · simp at he
/-! ### reads -/
theorem getD_in {α : Type} (l : List α) (z : α) (i : Nat) (h : i < l.length) : l.getD i z ∈ l := by
  rw [List.getD_eq_getElem?_getD, List.getElem?_eq_getElem h]; exact List.getElem_mem _
theorem take_snG {α : Type} (l : List α) (z : α) (i : Nat) (hi : i < l.length) : l.take (i + 1) = l.take i ++ [l.getD i z] := by
  rw [List.take_add_one, List.getD_eq_getElem?_getD, List.getElem?_eq_getElem hi]; rfl
theorem mem_takeG {α : Type} (l : List α) (z : α) (i : Nat) (x : α) (hi : i ≤ l.length) (h : x ∈ l.take i) : ∃ m, m < i ∧ l.getD m z = x := by
  obtain ⟨m, hm, rfl⟩ := List.mem_iff_getElem.1 h
  rw [List.length_take] at hm
  refine ⟨m, by omega, ?_⟩
  rw [List.getD_eq_getElem?_getD, List.getElem?_eq_getElem (by omega), List.getElem_take]; rfl
def tickB (a : Int) : Bool := decide (0 ≤ a ∧ a ≤ 2147483647)
theorem tick_f (a : Int) : tick_Right.f a = some (tickB a) := by
  unfold tick_Right.f tickB
  by_cases h : a ≥ 0
  · rw [if_pos h]; congr 1; rw [decide_eq_decide]; omega
  · rw [if_neg h]; congr 1; symm; rw [decide_eq_false_iff_not]; omega
def okR (r : S84) : Bool := decide (0 ≤ r.f0) && tickB r.f1 && inR r.f2
theorem okR_eq (r : S84) : okR r = true ↔ 0 ≤ r.f0 ∧ tickB r.f1 = true ∧ inR r.f2 = true := by
  unfold okR
  rw [Bool.and_eq_true, Bool.and_eq_true, decide_eq_true_eq, and_assoc]
def plc (l : List S84) (c : Int) : Int := idxT (fun x => x.f0 == c) l 0
theorem place_f (l : List S84) (c : Int) : reads_place.f l c = some (plc l c) := by
  unfold reads_place.f idx_at_reads_place_1.f plc
  rw [idxF_T (f := fun x : S84 => reads_place_1.f x.f0 x.f1 x.f2 c) (p := fun x => x.f0 == c) l 0 (fun x _ => rfl)]; rfl
theorem plc_cases (l : List S84) (c : Int) : (plc l c = -1 ∧ ∀ x ∈ l, x.f0 ≠ c) ∨ ∃ j : Nat, j < l.length ∧ plc l c = (j : Int) ∧ (l.getD j z84).f0 = c ∧ ∀ m, m < j → (l.getD m z84).f0 ≠ c := by
  rcases idxT_cases (fun x : S84 => x.f0 == c) z84 l 0 with ⟨h1, h2⟩ | ⟨j, h1, h2, h3, h4⟩
  · exact .inl ⟨h1, fun x hx => by simpa using h2 x hx⟩
  · exact .inr ⟨j, h1, by unfold plc; rw [h2]; omega, by simpa using h3, fun m hm => by simpa using h4 m hm⟩
abbrev RightP (l : List S84) : Prop := l.length ≤ 24 ∧ (∀ x ∈ l, okR x = true) ∧ l.Pairwise (fun a b => a.f0 ≠ b.f0)
def rightR (l : List S84) : Bool := decide (RightP l)
theorem rightR_iff (l : List S84) : rightR l = true ↔ RightP l := by unfold rightR; rw [decide_eq_true_eq]
theorem rightR_no {l : List S84} (h : ¬ RightP l) : rightR l = false := by unfold rightR; rw [decide_eq_false_iff_not]; exact h
theorem pair_at {l : List S84} (h : l.Pairwise (fun a b => a.f0 ≠ b.f0)) (i j : Nat) (hij : i < j) (hj : j < l.length) : (l.getD i z84).f0 ≠ (l.getD j z84).f0 := by
  have := List.pairwise_iff_getElem.1 h i j (by omega) hj hij
  rw [List.getD_eq_getElem?_getD, List.getElem?_eq_getElem (by omega), List.getD_eq_getElem?_getD, List.getElem?_eq_getElem hj]
  exact this
theorem pair_same {l : List S84} (h : l.Pairwise (fun a b => a.f0 ≠ b.f0)) (i j : Nat) (hi : i < l.length) (hj : j < l.length) (e : (l.getD i z84).f0 = (l.getD j z84).f0) : i = j := by
  rcases Nat.lt_trichotomy i j with h1 | h1 | h1
  · exact absurd e (pair_at h i j h1 hj)
  · exact h1
  · exact absurd e.symm (pair_at h j i h1 hi)
theorem pair_sn {l : List S84} (i : Nat) (hi : i < l.length) (h : (l.take i).Pairwise (fun a b => a.f0 ≠ b.f0)) (hx : ∀ m, m < i → (l.getD m z84).f0 ≠ (l.getD i z84).f0) : (l.take (i + 1)).Pairwise (fun a b => a.f0 ≠ b.f0) := by
  rw [take_snG l z84 i hi, List.pairwise_append]
  refine ⟨h, List.pairwise_singleton _ _, fun a ha b hb => ?_⟩
  obtain ⟨m, hm, rfl⟩ := mem_takeG l z84 i a (by omega) ha
  rw [List.mem_singleton.1 hb]
  exact hx m hm
theorem ok_sn {l : List S84} (i : Nat) (hi : i < l.length) (h : ∀ x ∈ l.take i, okR x = true) (hx : okR (l.getD i z84) = true) : ∀ x ∈ l.take (i + 1), okR x = true := by
  intro x hx'
  rw [take_snG l z84 i hi] at hx'
  rcases List.mem_append.1 hx' with h' | h'
  · exact h x h'
  · rw [List.mem_singleton.1 h']; exact hx
theorem RightR_l (l : List S84) (hm : l.length < 4398046511104) (d : Nat) : ∀ (k i : Nat), i ≤ l.length → l.length - i = d → d < k → (∀ x ∈ l.take i, okR x = true) → (l.take i).Pairwise (fun a b => a.f0 ≠ b.f0) →
    reads_Right.l0 k l l (l.length : Int) (i : Int) = some (rightR l) := by
  induction d with
  | zero =>
    intro k i hi hd hk h1 h2
    obtain ⟨k, rfl⟩ : ∃ m, k = m + 1 := ⟨k - 1, by omega⟩
    rw [List.take_of_length_le (by omega)] at h1 h2
    simp only [reads_Right.l0]
    rw [if_neg (by omega)]
    unfold rightR
    congr 1
    rw [decide_eq_decide]
    exact ⟨fun h => ⟨by omega, h1, h2⟩, fun h => by have := h.1; omega⟩
  | succ d ih =>
    intro k i hi hd hk h1 h2
    obtain ⟨k, rfl⟩ : ∃ m, k = m + 1 := ⟨k - 1, by omega⟩
    have hmem := getD_in l z84 i (by omega)
    have no : ¬ okR (l.getD i z84) = true → some false = some (rightR l) := fun h => by rw [rightR_no (fun e => h (e.2.1 _ hmem))]
    simp only [reads_Right.l0]
    rw [if_pos (by omega), if_pos (by omega), if_pos (by omega), show rd_T84 l (i : Int) = l.getD i z84 from rfl, tick_f, right_f, place_f, wrN (by omega)]
    simp only [Option.bind_some]
    by_cases a0 : (l.getD i z84).f0 < 0
    · rw [if_pos a0]; exact no (fun e => by have := ((okR_eq _).1 e).1; omega)
    rw [if_neg a0]
    by_cases a1 : tickB (l.getD i z84).f1 = true
    · rw [if_pos a1]
      by_cases a2 : inR (l.getD i z84).f2 = true
      · rw [if_pos a2]
        have hok : okR (l.getD i z84) = true := (okR_eq _).2 ⟨by omega, a1, a2⟩
        rcases plc_cases l (l.getD i z84).f0 with ⟨h, h'⟩ | ⟨j, hj, h, h', h''⟩
        · exact absurd rfl (h' _ hmem)
        · rw [h]
          by_cases e : j = i
          · subst e
            rw [if_pos rfl]
            exact ih k (j + 1) (by omega) (by omega) (by omega) (ok_sn j (by omega) h1 hok) (pair_sn j (by omega) h2 h'')
          · rw [if_neg (by omega), rightR_no]
            intro e'
            exact e (pair_same e'.2.2 j i hj (by omega) h')
      · rw [if_neg a2]; exact no (fun e => a2 ((okR_eq _).1 e).2.2)
    · rw [if_neg a1]; exact no (fun e => a1 ((okR_eq _).1 e).2.1)
theorem RightR_f (k : Nat) (l : List S84) (hm : l.length < 4398046511104) (hk : l.length < k) : reads_Right.f k l = some (rightR l) := by
  unfold reads_Right.f
  exact RightR_l l hm l.length k 0 (by omega) (by omega) (by omega) (by simp) (by simp)
theorem rightR_one (r : S84) : rightR [r] = okR r := by
  rw [Bool.eq_iff_iff, rightR_iff]
  constructor
  · intro h; exact h.2.1 r (by simp)
  · intro h; exact ⟨by simp, fun x hx => by rw [List.mem_singleton.1 hx]; exact h, List.pairwise_singleton _ _⟩
/-! what stands -/
def okS (h : List S66) (x : S84) : Bool := (getB h x.f0).2 == 0 && (getB h x.f0).1 == x.f2
def sameR (l : List S84) (h : List S66) : Bool := rightR l && RightB h && l.all (okS h)
theorem SameH_f (k : Nat) (l : List S84) (h : List S66) (hm : l.length < 4398046511) (hk : l.length < k) : reads_Same.f k l h = some (sameR l h) := by
  unfold reads_Same.f sameR any_at_reads_Same_1.f
  rw [RightR_f k l (by omega) hk, Right_f]
  simp only [Option.bind_some]
  rw [anyF_T (f := fun x : S84 => reads_Same_1.f x.f0 x.f1 x.f2 h) (p := fun x => !(okS h x)) l (fun x _ => by
    unfold reads_Same_1.f okS
    rw [Get_f]
    simp only [Option.bind_some]
    by_cases h1 : (getB h x.f0).2 = 0
    · rw [if_pos h1, beq_iff_eq.2 h1]; rfl
    · rw [if_neg h1, beq_eq_false_iff_ne.2 h1]; rfl)]
  simp only [Option.bind_some]
  have ea : (!(l.any fun x => !(okS h x))) = l.all (okS h) := by
    clear hm hk
    induction l with
    | nil => rfl
    | cons x xs ih => simp only [List.any_cons, List.all_cons, ← ih]; cases okS h x <;> simp
  rw [ea]
  cases rightR l <;> cases RightB h <;> simp
/-! ### pasts -/
theorem mid_f (i j : Nat) (h : i + j < 4611686018427387904) : wrap64 ((IntKind.u64.wrap (wrap64 ((i : Int) + (j : Int)))) / 2) = (((i + j) / 2 : Nat) : Int) := by
  have e1 : wrap64 ((i : Int) + (j : Int)) = ((i + j : Nat) : Int) := by rw [wr (by omega) (by omega)]; omega
  have e2 : IntKind.u64.wrap ((i + j : Nat) : Int) = ((i + j : Nat) : Int) := by
    unfold IntKind.wrap
    simp only [IntKind.bits, IntKind.signed]
    first | omega | (simp; omega)
  rw [e1, e2, wr (by omega) (by omega)]; omega
theorem cmp_f (a b : Int) : cmp_Compare.f a b = some (if a < b then -1 else if a > b then 1 else 0) := by
  unfold cmp_Compare.f cmp_isNaN.f
  simp only [Option.bind_some, bne_self_eq_false, Bool.false_eq_true, if_false]
  split
  · rfl
  · split <;> rfl
/-- The first place whose version is not below v: below it all are below. -/
def Cut (p : List S80) (v : Int) (i : Nat) : Prop := i ≤ p.length ∧ (∀ j, j < i → (p.getD j z80).f0 < v) ∧ (∀ j, i ≤ j → j < p.length → v ≤ (p.getD j z80).f0)
theorem search_l (p : List S80) (v : Int) (hm : p.length < 1073741824) (hs : ∀ i j, i < j → j < p.length → (p.getD i z80).f0 < (p.getD j z80).f0) : ∀ (d k i j : Nat), i ≤ j → j ≤ p.length → j - i ≤ d → d + 1 < k → (∀ m, m < i → (p.getD m z80).f0 < v) → (∀ m, j ≤ m → m < p.length → v ≤ (p.getD m z80).f0) →
    ∃ c, Cut p v c ∧ slices_BinarySearchFunc_at_opaque_At_1.l0 k p v (p.length : Int) (i : Int) (j : Int) = some ((c : Int), decide (c < p.length ∧ (p.getD c z80).f0 = v)) := by
  intro d
  induction d with
  | zero =>
    intro k i j hij hj hd hk h1 h2
    obtain ⟨k, rfl⟩ : ∃ m, k = m + 1 := ⟨k - 1, by omega⟩
    have : i = j := by omega
    subst this
    refine ⟨i, ⟨hj, h1, h2⟩, ?_⟩
    simp only [slices_BinarySearchFunc_at_opaque_At_1.l0]
    rw [if_neg (by omega)]
    by_cases h : i < p.length
    · rw [if_pos (by omega), if_pos (by omega), if_pos (by omega)]
      unfold opaque_At_1.f
      rw [cmp_f, show rd_T80 p (i : Int) = p.getD i z80 from rfl]
      simp only [Option.bind_some]
      have := h2 i (Nat.le_refl _) h
      by_cases e : (p.getD i z80).f0 = v
      · rw [if_neg (by omega), if_neg (by omega), decide_eq_true ⟨h, e⟩]; rfl
      · rw [if_neg (by omega), if_pos (by omega), decide_eq_false (fun g => e g.2)]; rfl
    · rw [if_neg (by omega), decide_eq_false (fun g => h g.1)]
  | succ d ih =>
    intro k i j hij hj hd hk h1 h2
    by_cases e : i = j
    · exact ih k i j hij hj (by omega) (by omega) h1 h2
    obtain ⟨k, rfl⟩ : ∃ m, k = m + 1 := ⟨k - 1, by omega⟩
    have hmid : i ≤ (i + j) / 2 ∧ (i + j) / 2 < j := by omega
    simp only [slices_BinarySearchFunc_at_opaque_At_1.l0]
    rw [if_pos (by omega), mid_f i j (by omega)]
    generalize (i + j) / 2 = m at *
    rw [if_pos (by omega), if_pos (by omega), wrN (by omega)]
    unfold opaque_At_1.f
    rw [cmp_f, show rd_T80 p (m : Int) = p.getD m z80 from rfl]
    simp only [Option.bind_some]
    by_cases hlt : (p.getD m z80).f0 < v
    · rw [if_pos hlt, if_pos (by decide)]
      refine ih k (m + 1) j (by omega) hj (by omega) (by omega) (fun q hq => ?_) h2
      by_cases eq : q = m
      · rw [eq]; exact hlt
      · have := hs q m (by omega) (by omega); omega
    · rw [if_neg hlt, if_neg (by split <;> decide)]
      refine ih k i m (by omega) (by omega) (by omega) (by omega) h1 (fun q hq hq2 => ?_)
      by_cases eq : q = m
      · rw [eq]; omega
      · have := hs m q (by omega) hq2; omega
theorem search_f (k : Nat) (p : List S80) (v : Int) (hm : p.length < 1073741824) (hs : ∀ i j, i < j → j < p.length → (p.getD i z80).f0 < (p.getD j z80).f0) (hk : p.length + 1 < k) :
    ∃ c, Cut p v c ∧ slices_BinarySearchFunc_at_opaque_At_1.f k p v = some ((c : Int), decide (c < p.length ∧ (p.getD c z80).f0 = v)) := by
  unfold slices_BinarySearchFunc_at_opaque_At_1.f
  exact search_l p v hm hs p.length k 0 p.length (by omega) (by omega) (by omega) (by omega) (fun m hm => by omega) (fun m h1 h2 => by omega)
def alikeB (a b : List S66) : Bool := decide (a.length = b.length ∧ ∀ i, i < a.length → (a.getD i z66).f0 = (b.getD i z66).f0)
theorem alike_l (a b : List S66) (hl : a.length = b.length) (hm : a.length < 4398046511) (d : Nat) : ∀ (k i : Nat), i ≤ a.length → a.length - i = d → d < k → (∀ j, j < i → (a.getD j z66).f0 = (b.getD j z66).f0) →
    slices_EqualFunc_at_opaque_alike_1.l0 k b a (a.length : Int) (i : Int) = some (alikeB a b) := by
  induction d with
  | zero =>
    intro k i hi hd hk h
    obtain ⟨k, rfl⟩ : ∃ m, k = m + 1 := ⟨k - 1, by omega⟩
    simp only [slices_EqualFunc_at_opaque_alike_1.l0]
    rw [if_neg (by omega)]
    unfold alikeB
    rw [decide_eq_true ⟨hl, fun j hj => h j (by omega)⟩]
  | succ d ih =>
    intro k i hi hd hk h
    obtain ⟨k, rfl⟩ : ∃ m, k = m + 1 := ⟨k - 1, by omega⟩
    simp only [slices_EqualFunc_at_opaque_alike_1.l0]
    rw [if_pos (by omega), if_pos (by omega), if_pos (by omega), if_pos (by omega), wrN (by omega), show rd_T66 a (i : Int) = a.getD i z66 from rfl, show rd_T66 b (i : Int) = b.getD i z66 from rfl]
    have e1 : opaque_alike_1.f (a.getD i z66).f0 (a.getD i z66).f1 (b.getD i z66).f0 (b.getD i z66).f1 = some ((a.getD i z66).f0 == (b.getD i z66).f0) := by
      unfold opaque_alike_1.f
      cases (a.getD i z66).f0 <;> cases (b.getD i z66).f0 <;> rfl
    rw [e1]
    simp only [Option.bind_some]
    by_cases e : (a.getD i z66).f0 = (b.getD i z66).f0
    · rw [if_pos (beq_iff_eq.2 e)]
      refine ih k (i + 1) (by omega) (by omega) (by omega) fun j hj => ?_
      by_cases ej : j = i
      · rw [ej]; exact e
      · exact h j (by omega)
    · rw [if_neg (fun g => e (beq_iff_eq.1 g))]
      unfold alikeB
      rw [decide_eq_false (fun g => e (g.2 i (by omega)))]
theorem alike_f (k : Nat) (a b : List S66) (hm : a.length < 4398046511) (hk : a.length < k) : opaque_alike.f k a b = some (alikeB a b) := by
  unfold opaque_alike.f slices_EqualFunc_at_opaque_alike_1.f
  by_cases h : a.length = b.length
  · rw [if_pos (by omega)]
    have := alike_l a b h hm a.length k 0 (by omega) (by omega) (by omega) (fun j hj => by omega)
    rw [show ((0 : Nat) : Int) = 0 from rfl] at this
    rw [this]; rfl
  · rw [if_neg (by omega)]
    unfold alikeB
    rw [decide_eq_false (fun g => h g.1)]; rfl
def okO (p : List S80) (i : Nat) : Prop := tickB (p.getD i z80).f0 = true ∧ RightB (p.getD i z80).f1 = true ∧ (0 < i → (p.getD (i - 1) z80).f0 < (p.getD i z80).f0 ∧ alikeB (p.getD (i - 1) z80).f1 (p.getD i z80).f1 = true)
instance (p : List S80) (i : Nat) : Decidable (okO p i) := by unfold okO; infer_instance
def rightO (p : List S80) : Bool := decide (0 < p.length ∧ ∀ i, i < p.length → okO p i)
theorem rightO_iff (p : List S80) : rightO p = true ↔ 0 < p.length ∧ ∀ i, i < p.length → okO p i := by unfold rightO; rw [decide_eq_true_eq]
theorem RightO_l (p : List S80) (hm : p.length < 4398046511) (d : Nat) : ∀ (k i : Nat), i ≤ p.length → p.length - i = d → d + 200 < k → (∀ j, j < i → okO p j) →
    opaque_Right.l0 k p p (p.length : Int) (i : Int) = some (rightO p) := by
  induction d with
  | zero =>
    intro k i hi hd hk h
    obtain ⟨k, rfl⟩ : ∃ m, k = m + 1 := ⟨k - 1, by omega⟩
    simp only [opaque_Right.l0]
    rw [if_neg (by omega)]
    unfold rightO
    congr 1
    rw [decide_eq_decide]
    exact ⟨fun g => ⟨by omega, fun j hj => h j (by omega)⟩, fun g => by omega⟩
  | succ d ih =>
    intro k i hi hd hk h
    obtain ⟨k, rfl⟩ : ∃ m, k = m + 1 := ⟨k - 1, by omega⟩
    have no : ¬ okO p i → some false = some (rightO p) := fun g => by
      unfold rightO
      rw [decide_eq_false (fun e => g (e.2 i (by omega)))]
    have yes : okO p i → opaque_Right.l0 k p p (p.length : Int) ((i + 1 : Nat) : Int) = some (rightO p) := fun g => by
      refine ih k (i + 1) (by omega) (by omega) (by omega) fun j hj => ?_
      by_cases ej : j = i
      · rw [ej]; exact g
      · exact h j (by omega)
    simp only [opaque_Right.l0]
    rw [if_pos (by omega), if_pos (by omega), if_pos (by omega), tick_f, Right_f, wrN (by omega), show rd_T80 p (i : Int) = p.getD i z80 from rfl]
    simp only [Option.bind_some]
    by_cases a1 : tickB (p.getD i z80).f0 = true
    · rw [if_pos a1]
      by_cases a2 : RightB (p.getD i z80).f1 = true
      · rw [if_pos a2]
        by_cases hz : i = 0
        · rw [if_neg (by omega)]
          exact yes ⟨a1, a2, fun g => by omega⟩
        · have ew : wrap64 ((i : Int) - 1) = ((i - 1 : Nat) : Int) := by rw [wr (by omega) (by omega)]; omega
          rw [if_pos (by omega), ew, if_pos (by omega), if_pos (by omega), show rd_T80 p ((i - 1 : Nat) : Int) = p.getD (i - 1) z80 from rfl]
          have a3 := h (i - 1) (by omega)
          have hl := (Right_len a3.2.1).2.1
          by_cases a4 : (p.getD (i - 1) z80).f0 ≥ (p.getD i z80).f0
          · rw [if_pos a4]; exact no fun g => by have := (g.2.2 (by omega)).1; omega
          · rw [if_neg a4, alike_f k _ _ (by omega) (by omega)]
            simp only [Option.bind_some]
            by_cases a5 : alikeB (p.getD (i - 1) z80).f1 (p.getD i z80).f1 = true
            · rw [if_pos a5]; exact yes ⟨a1, a2, fun _ => ⟨by omega, a5⟩⟩
            · rw [if_neg a5]; exact no fun g => a5 (g.2.2 (by omega)).2
      · rw [if_neg a2]; exact no fun g => a2 g.2.1
    · rw [if_neg a1]; exact no fun g => a1 g.1
theorem RightO_f (k : Nat) (p : List S80) (hm : p.length < 4398046511) (hk : p.length + 200 < k) : opaque_Right.f k p = some (rightO p) := by
  unfold opaque_Right.f
  exact RightO_l p hm p.length k 0 (by omega) (by omega) (by omega) (fun j hj => by omega)
theorem rise_O {p : List S80} (h : rightO p = true) : ∀ i j, i < j → j < p.length → (p.getD i z80).f0 < (p.getD j z80).f0 := by
  have hp := ((rightO_iff p).1 h).2
  intro i j hij
  induction j with
  | zero => omega
  | succ j ih =>
    intro hj
    have := ((hp (j + 1) hj).2.2 (by omega)).1
    rw [Nat.add_sub_cancel] at this
    by_cases e : i = j
    · rw [e]; exact this
    · have := ih (by omega) (by omega); omega
theorem At_f (k : Nat) (p : List S80) (v : Int) (hm : p.length < 1073741824) (hr : rightO p = true) (hk : p.length + 200 < k) :
    ∃ c, Cut p v c ∧ opaque_At.f k p v = some (if c < p.length ∧ (p.getD c z80).f0 = v then ((p.getD c z80).f1, 0) else if c = 0 then ([], 3) else ((p.getD (c - 1) z80).f1, 0)) := by
  obtain ⟨c, hc, e⟩ := search_f k p v hm (rise_O hr) (by omega)
  refine ⟨c, hc, ?_⟩
  unfold opaque_At.f
  rw [RightO_f k p (by omega) hk, hr, e]
  simp only [Option.bind_some, if_true, decide_eq_true_eq]
  have hcl := hc.1
  by_cases h : c < p.length ∧ (p.getD c z80).f0 = v
  · rw [if_pos h, if_pos h, if_pos (by omega), if_pos (by omega)]; rfl
  · rw [if_neg h, if_neg h]
    by_cases h0 : c = 0
    · rw [if_pos (by omega), if_pos h0]
    · have ew : wrap64 ((c : Int) - 1) = ((c - 1 : Nat) : Int) := by rw [wr (by omega) (by omega)]; omega
      rw [if_neg (by omega), if_neg h0, ew, if_pos (by omega), if_pos (by omega)]; rfl
theorem At_own (k : Nat) (p : List S80) (i : Nat) (hi : i < p.length) (hm : p.length < 1073741824) (hr : rightO p = true) (hk : p.length + 200 < k) :
    opaque_At.f k p (p.getD i z80).f0 = some ((p.getD i z80).f1, 0) := by
  obtain ⟨c, ⟨h1, h2, h3⟩, e⟩ := At_f k p (p.getD i z80).f0 hm hr hk
  have hs := rise_O hr
  have : c = i := by
    rcases Nat.lt_trichotomy c i with h | h | h
    · have := h3 c (Nat.le_refl _) (by omega)
      have := hs c i h hi
      omega
    · exact h
    · have := h2 i h; omega
  subst this
  rw [e, if_pos ⟨hi, rfl⟩]
def spanO (p : List S80) (l : List S84) : List Int := (p.filter fun s => sameR l s.f1).map fun s => s.f0
theorem Span_l (p : List S80) (l : List S84) (hl : l.length < 1000) (hm : p.length < 1073741824) (hr : rightO p = true) (d : Nat) : ∀ (k i : Nat), i ≤ p.length → p.length - i = d → d + p.length + 2000 < k →
    opaque_Span.l0 k p l (spanO (p.take i) l) p (p.length : Int) (i : Int) = some (spanO p l) := by
  induction d with
  | zero =>
    intro k i hi hd hk
    obtain ⟨k, rfl⟩ : ∃ m, k = m + 1 := ⟨k - 1, by omega⟩
    rw [List.take_of_length_le (by omega)]
    simp only [opaque_Span.l0]
    rw [if_neg (by omega)]
  | succ d ih =>
    intro k i hi hd hk
    obtain ⟨k, rfl⟩ : ∃ m, k = m + 1 := ⟨k - 1, by omega⟩
    have next := ih k (i + 1) (by omega) (by omega) (by omega)
    rw [take_snG p z80 i (by omega)] at next
    unfold spanO at next ⊢
    rw [List.filter_append, List.map_append] at next
    simp only [opaque_Span.l0]
    rw [if_pos (by omega), if_pos (by omega), if_pos (by omega), wrN (by omega), show rd_T80 p (i : Int) = p.getD i z80 from rfl]
    unfold opaque_Holds.f
    rw [At_own k p i (by omega) hm hr (by omega)]
    simp only [Option.bind_some, if_true]
    rw [SameH_f k l _ (by omega) (by omega)]
    simp only [Option.bind_some]
    by_cases h : sameR l (p.getD i z80).f1 = true
    · rw [if_pos h, if_pos (by
        rw [List.length_map]
        refine Nat.lt_of_le_of_lt (List.length_filter_le _ _) ?_
        rw [List.length_take]; omega)]
      simp only [List.filter_cons, h, if_true, List.filter_nil, List.map_cons, List.map_nil] at next
      exact next
    · rw [if_neg h]
      simp only [List.filter_cons, h, Bool.false_eq_true, if_false, List.filter_nil, List.map_nil, List.append_nil] at next
      exact next
theorem Span_f (k : Nat) (p : List S80) (l : List S84) (hl : l.length < 1000) (hm : p.length < 1073741824) (hr : rightO p = true) (hk : 2 * p.length + 2000 < k) : opaque_Span.f k p l = some (spanO p l) := by
  unfold opaque_Span.f
  have := Span_l p l hl hm hr p.length k 0 (by omega) (by omega) (by omega)
  simpa [spanO] using this
theorem awake13 (k : Nat) (hk : 60 ≤ k) : handshakerlaw13_awake.f k = some true :=
  at_rounds (g := handshakerlaw13_awake.f) handshakerlaw13_awake.mono hk (by decide +kernel)
theorem Small13 (p : List S80) (hm : p.length < 140737488351233) (d : Nat) : ∀ (k i : Nat), i ≤ p.length → p.length - i = d → d < k →
    ∃ b, handshakerlaw13_small.l0 k p p (p.length : Int) (i : Int) = some b ∧ (b = true → p.length ≤ 30) := by
  induction d with
  | zero =>
    intro k i hi hd hk
    obtain ⟨k, rfl⟩ : ∃ m, k = m + 1 := ⟨k - 1, by omega⟩
    simp only [handshakerlaw13_small.l0]
    rw [if_neg (by omega)]
    exact ⟨_, rfl, fun h => by have := of_decide_eq_true h; omega⟩
  | succ d ih =>
    intro k i hi hd hk
    obtain ⟨k, rfl⟩ : ∃ m, k = m + 1 := ⟨k - 1, by omega⟩
    simp only [handshakerlaw13_small.l0]
    rw [if_pos (by omega), if_pos (by omega), if_pos (by omega), wrN (by omega)]
    split
    · exact ⟨false, rfl, fun h => by cases h⟩
    · exact ih k (i + 1) (by omega) (by omega) (by omega)
theorem small13_f (k : Nat) (p : List S80) (hm : p.length < 140737488351233) (hk : p.length < k) : ∃ b, handshakerlaw13_small.f k p = some b ∧ (b = true → p.length ≤ 30) := by
  unfold handshakerlaw13_small.f
  exact Small13 p hm p.length k 0 (by omega) (by omega) (by omega)
theorem Numbers_l (l : List Int) (hm : l.length < 4398046511104) (d : Nat) : ∀ (k i : Nat), i ≤ l.length → l.length - i = d → d < k → handshakerref03_Numbers.l0 k l l (i : Int) = some true := by
  induction d with
  | zero =>
    intro k i hi hd hk
    obtain ⟨k, rfl⟩ : ∃ m, k = m + 1 := ⟨k - 1, by omega⟩
    simp only [handshakerref03_Numbers.l0]
    rw [if_neg (by omega)]
  | succ d ih =>
    intro k i hi hd hk
    obtain ⟨k, rfl⟩ : ∃ m, k = m + 1 := ⟨k - 1, by omega⟩
    simp only [handshakerref03_Numbers.l0]
    rw [if_pos (by omega), if_pos (by omega), if_pos (by omega), if_pos trivial, wrN (by omega)]
    exact ih k (i + 1) (by omega) (by omega) (by omega)
theorem Numbers_f (k : Nat) (l : List Int) (hm : l.length < 4398046511104) (hk : l.length < k) : handshakerref03_Numbers.f k l l = some true := by
  unfold handshakerref03_Numbers.f
  rw [if_pos rfl]
  exact Numbers_l l hm l.length k 0 (by omega) (by omega) (by omega)
end Go.Proofs.Ytihcnbhcemkncaa.O
