/-
 PROVED: Plain lemmas on numbers and lists, of what the printed functions answer. No condition beside those of each lemma.
-/
import Derived.Test.YtlfmobnmohnjmaaTx2
import Derived.Test.YtlfmobnmohnjmaaTx3
import Derived.Test.YtlfmobnmohnjmaaTx4
import Derived.Test.YtlfmobnmohnjmaaTx7
namespace Go.Proofs.Ytlfmobnmohnjmaa.T
open Go.RowKit Go.Proofs.YtlfmobnmohnjmaaW.PrintWords Go.Proofs.YtlfmobnmohnjmaaW.PrintLast Go.Proofs.YtlfmobnmohnjmaaW.PrintMore Go.Proofs.Ytlfmobnmohnjmaa.Ho
set_option linter.unusedVariables false
set_option linter.unusedSimpArgs false
theorem wr {i : Int} (h0 : -9223372036854775808 ≤ i) (h : i ≤ 9223372036854775807) : wrap64 i = i := by unfold wrap64; omega
theorem wrN {i : Nat} (h : i < 4611686018427387904) : wrap64 ((i : Int) + 1) = ((i + 1 : Nat) : Int) := by unfold wrap64; omega
theorem drop_cons {α : Type} (l : List α) (z : α) (i : Nat) (h : i < l.length) : l.drop i = l.getD i z :: l.drop (i + 1) := by
 rw [List.drop_eq_getElem_cons h]
 simp [List.getElem?_eq_getElem h]
/-- The first place at which p holds, from i on, or -1. -/
def idxT {α : Type} (p : α → Bool) : List α → Int → Int
 | [], _ => -1
 | x :: xs, i => if p x then i else idxT p xs (i + 1)
theorem idxT_yes {α : Type} {p : α → Bool} {x : α} {xs : List α} {i : Int} (h : p x = true) : idxT p (x :: xs) i = i := by simp [idxT, h]
theorem idxT_no {α : Type} {p : α → Bool} {x : α} {xs : List α} {i : Int} (h : p x = false) : idxT p (x :: xs) i = idxT p xs (i + 1) := by simp [idxT, h]
theorem idxF_T {α : Type} {f : α → Option Bool} {p : α → Bool} : ∀ (l : List α) (i : Int), (∀ x ∈ l, f x = some (p x)) → idxF f l i = some (idxT p l i)
 | [], _, _ => rfl
 | x :: xs, i, h => by
  simp only [idxF, idxT]
  rw [h x (by simp), idxF_T xs (i + 1) (fun y hy => h y (by simp [hy]))]
  simp only [Option.bind_some]
  cases p x <;> rfl
theorem anyF_T {α : Type} {f : α → Option Bool} {p : α → Bool} : ∀ (l : List α), (∀ x ∈ l, f x = some (p x)) → anyF f l = some (l.any p)
 | [], _ => rfl
 | x :: xs, h => by
  simp only [anyF, List.any_cons]
  rw [h x (by simp), anyF_T xs (fun y hy => h y (by simp [hy]))]
  simp only [Option.bind_some]
  cases p x <;> rfl
theorem idxT_cases {α : Type} (p : α → Bool) (z : α) : ∀ (l : List α) (i : Int), (idxT p l i = -1 ∧ ∀ x ∈ l, p x = false) ∨ ∃ j : Nat, j < l.length ∧ idxT p l i = i + j ∧ p (l.getD j z) = true ∧ ∀ m, m < j → p (l.getD m z) = false
 | [], i => .inl ⟨rfl, fun x hx => by cases hx⟩
 | x :: xs, i => by
  cases hx : p x with
  | true => exact .inr ⟨0, by simp, by simp [idxT, hx], by simpa using hx, fun m hm => by omega⟩
  | false =>
   rcases idxT_cases p z xs (i + 1) with ⟨h1, h2⟩ | ⟨j, h1, h2, h3, h4⟩
   · exact .inl ⟨by simp [idxT, hx, h1], fun y hy => by rcases List.mem_cons.1 hy with rfl | hy; exact hx; exact h2 y hy⟩
   · refine .inr ⟨j + 1, by simpa using h1, by simp [idxT, hx, h2]; omega, by simpa using h3, fun m hm => ?_⟩
     cases m with
     | zero => simpa using hx
     | succ m => simpa using h4 m (by omega)
/-! ### tables -/
theorem getD_in {α : Type} (l : List α) (z : α) (i : Nat) (h : i < l.length) : l.getD i z ∈ l := by
 rw [List.getD_eq_getElem?_getD, List.getElem?_eq_getElem h]; exact List.getElem_mem _
theorem take_snG {α : Type} (l : List α) (z : α) (i : Nat) (hi : i < l.length) : l.take (i + 1) = l.take i ++ [l.getD i z] := by
 rw [List.take_add_one, List.getD_eq_getElem?_getD, List.getElem?_eq_getElem hi]; rfl
theorem mem_takeG {α : Type} (l : List α) (z : α) (i : Nat) (x : α) (hi : i ≤ l.length) (h : x ∈ l.take i) : ∃ m, m < i ∧ l.getD m z = x := by
 obtain ⟨m, hm, rfl⟩ := List.mem_iff_getElem.1 h
 rw [List.length_take] at hm
 refine ⟨m, by omega, ?_⟩
 rw [List.getD_eq_getElem?_getD, List.getElem?_eq_getElem (by omega), List.getElem_take]; rfl
def tickB (a : Int) : Bool := decide (0 ≤ a ∧ a ≤ 2147483647)
/-! tables of records -/
def okT (x : S67) : Bool := tickB x.f0 && decide (0 ≤ x.f1 ∧ x.f1 ≤ 8)
theorem someb_f (a : Int) : stripe_somebody.f a = some (decide (1 ≤ a ∧ a ≤ 8)) := by
 unfold stripe_somebody.f
 by_cases h : a ≥ 1
 · rw [if_pos h]; congr 1; rw [decide_eq_decide]; omega
 · rw [if_neg h]; congr 1; symm; rw [decide_eq_false_iff_not]; omega
theorem wrongT_f (a b : Int) : stripe_wrong.f a b = some (!(okT ⟨a, b⟩)) := by
 unfold stripe_wrong.f okT tickB
 rw [someb_f]
 simp only [Option.bind_some]
 by_cases h0 : a < 0
 · rw [if_pos h0, decide_eq_false (show ¬ (0 ≤ a ∧ a ≤ 2147483647) by omega)]; rfl
 · rw [if_neg h0]
   by_cases h1 : a > 2147483647
   · rw [if_pos h1, decide_eq_false (show ¬ (0 ≤ a ∧ a ≤ 2147483647) by omega)]; rfl
   · rw [if_neg h1, decide_eq_true (show 0 ≤ a ∧ a ≤ 2147483647 by omega)]
     by_cases h2 : b = 0
     · rw [if_pos h2, decide_eq_true (show 0 ≤ b ∧ b ≤ 8 by omega)]; rfl
     · rw [if_neg h2, Bool.true_and]
       congr 2
       rw [decide_eq_decide]; omega
theorem all_okT (t : List S67) : (!(t.any fun x => !(okT x))) = t.all okT := by
 induction t with
 | nil => rfl
 | cons x xs ih => simp only [List.any_cons, List.all_cons, ← ih]; cases okT x <;> simp
def rightT (t : List S67) : Bool := decide (1 ≤ t.length ∧ t.length ≤ 16) && t.all okT
theorem RightT_f (t : List S67) : stripe_Right.f t = some (rightT t) := by
 unfold stripe_Right.f any_at_stripe_wrong.f rightT
 rw [anyF_T (p := fun x => !(okT x)) t (fun x _ => wrongT_f x.f0 x.f1)]
 simp only [Option.bind_some, all_okT]
 by_cases h1 : (t.length : Int) ≥ 1
 · rw [if_pos h1]
   by_cases h2 : (t.length : Int) ≤ 16
   · rw [if_pos h2, decide_eq_true (by omega)]; simp
   · rw [if_neg h2, decide_eq_false (by omega)]; rfl
 · rw [if_neg h1, decide_eq_false (by omega)]; rfl
theorem rightT_ok {t : List S67} (h : rightT t = true) : 1 ≤ t.length ∧ t.length ≤ 16 ∧ ∀ x ∈ t, okT x = true := by
 unfold rightT at h
 rw [Bool.and_eq_true, decide_eq_true_eq, List.all_eq_true] at h
 exact ⟨h.1.1, h.1.2, h.2⟩
theorem tmodN (c : Int) (n : Nat) (hc : 0 ≤ c) (hn : 0 < n) : ∃ m : Nat, Int.tmod c (n : Int) = (m : Int) ∧ m < n ∧ m = c.toNat % n := by
 refine ⟨c.toNat % n, ?_, Nat.mod_lt _ hn, rfl⟩
 obtain ⟨q, rfl⟩ : ∃ q : Nat, c = (q : Int) := ⟨c.toNat, by omega⟩
 rw [Int.toNat_natCast]; rfl
/-- Rows that rise and have the same elements are the same. -/
theorem rise_ext : ∀ (a b : List Int), a.Pairwise (· < ·) → b.Pairwise (· < ·) → (∀ x, x ∈ a ↔ x ∈ b) → a = b
 | [], [], _, _, _ => rfl
 | [], y :: b, _, _, h => by have := (h y).2 (by simp); simp at this
 | x :: a, [], _, _, h => by have := (h x).1 (by simp); simp at this
 | x :: a, y :: b, ha, hb, h => by
  obtain ⟨a1, a2⟩ := List.pairwise_cons.1 ha
  obtain ⟨b1, b2⟩ := List.pairwise_cons.1 hb
  have exy : x = y := by
   rcases List.mem_cons.1 ((h x).1 (by simp)) with e | e
   · exact e
   · rcases List.mem_cons.1 ((h y).2 (by simp)) with e2 | e2
     · exact e2.symm
     · have := a1 y e2
       have := b1 x e
       omega
  subst exy
  rw [rise_ext a b a2 b2 fun z => ?_]
  constructor
  · intro hz
    rcases List.mem_cons.1 ((h z).1 (by simp [hz])) with e | e
    · have := a1 z hz; omega
    · exact e
  · intro hz
    rcases List.mem_cons.1 ((h z).2 (by simp [hz])) with e | e
    · have := b1 z hz; omega
    · exact e
theorem mem_comp (l : List Int) (x : Int) : x ∈ Go.Lib.compact l ↔ x ∈ l := by
 constructor
 · intro h
   unfold Go.Lib.compact Go.Lib.compactUpTo at h
   obtain ⟨i, hi, rfl⟩ := List.mem_map.1 h
   have hi' : i < l.length := List.mem_range.1 (List.mem_filter.1 hi).1
   simp [getElem!_pos, hi']
 intro h
 have key : ∀ i : Nat, i < l.length → ∃ j, j ≤ i ∧ Go.Lib.keeps l.toArray j = true ∧ l.toArray[j]! = l.toArray[i]! := by
  intro i
  induction i with
  | zero => intro _; exact ⟨0, by omega, by simp [Go.Lib.keeps], rfl⟩
  | succ i ih =>
   intro hi
   by_cases e : l.toArray[i + 1]! = l.toArray[i]!
   · obtain ⟨j, h1, h2, h3⟩ := ih (by omega)
     exact ⟨j, by omega, h2, h3.trans e.symm⟩
   · exact ⟨i + 1, by omega, by unfold Go.Lib.keeps; exact decide_eq_true (.inr (by simpa using e)), rfl⟩
 obtain ⟨i, hi, rfl⟩ := List.mem_iff_getElem.1 h
 obtain ⟨j, h1, h2, h3⟩ := key i hi
 unfold Go.Lib.compact Go.Lib.compactUpTo
 refine List.mem_map.2 ⟨j, List.mem_filter.2 ⟨List.mem_range.2 (by omega), h2⟩, ?_⟩
 rw [h3]
 simp [getElem!_pos, hi]
theorem comp_rise (l : List Int) (hs : l.Pairwise (· ≤ ·)) : (Go.Lib.compact l).Pairwise (· < ·) := by
 unfold Go.Lib.compact Go.Lib.compactUpTo
 rw [List.pairwise_map]
 have hp : (List.range l.length).Pairwise (· < ·) := List.pairwise_lt_range
 have hp2 := List.Pairwise.filter (Go.Lib.keeps l.toArray) hp
 refine List.Pairwise.imp_of_mem ?_ hp2
 intro i j hi hj hij
 have hi1 : i < l.length := List.mem_range.1 (List.mem_filter.1 hi).1
 have hj1 : j < l.length := List.mem_range.1 (List.mem_filter.1 hj).1
 have hk := (List.mem_filter.1 hj).2
 unfold Go.Lib.keeps at hk
 have hk := of_decide_eq_true hk
 have hne : l.toArray[j]! ≠ l.toArray[j - 1]! := by
  rcases hk with h | h
  · omega
  · exact h
 have hget := List.pairwise_iff_getElem.1 hs
 have e1 : ∀ q, (hq : q < l.length) → l.toArray[q]! = l[q] := fun q hq => by simp [getElem!_pos, hq]
 rw [e1 j hj1, e1 (j - 1) (by omega)] at hne
 rw [e1 i hi1, e1 j hj1]
 have h1 : l[j - 1] ≤ l[j] := hget (j - 1) j (by omega) hj1 (by omega)
 have h2 : l[i] ≤ l[j - 1] := by
  by_cases e : i = j - 1
  · subst e; exact Int.le_refl _
  · exact hget i (j - 1) hi1 (by omega) (by omega)
 omega
/-! ### stripes -/
theorem sort_f (l : List Int) (h : l.length < 4611686018427387904) : slices_Sort.f l = some (l.mergeSort fun x y => decide (x ≤ y)) := by
 unfold slices_Sort.f
 rw [if_pos h]
 all_goals first | rfl | rw [Is.isort_eq]
theorem comp_f (l : List Int) (h : l.length ≤ 9223372036854775807) : slices_Compact.f l = some (Go.Lib.compact l) := by
 unfold slices_Compact.f
 rw [if_pos h]
def whoT (who : Int) : Bool := decide (1 ≤ who ∧ who ≤ 8)
def negB (cells : List Int) : Bool := cells.any fun c => decide (c < 0)
theorem neg_f (cells : List Int) : any_at_stripe_below.f cells = some (negB cells) := by
 unfold any_at_stripe_below.f negB
 rw [anyF_T (f := fun x => stripe_below.f x) (p := fun c => decide (c < 0)) cells (fun x _ => rfl)]
theorem negB_no {cells : List Int} (h : negB cells = false) : ∀ c ∈ cells, 0 ≤ c := by
 intro c hc
 unfold negB at h
 rw [List.any_eq_false] at h
 have := h c hc
 simpa using this
def ofL (n : Nat) (cells : List Int) : List Int := Go.Lib.compact ((cells.map fun c => Int.tmod c (n : Int)).mergeSort fun x y => decide (x ≤ y))
def ofT (t : List S67) (cells : List Int) : List Int := if (rightT t && !(negB cells)) = true then ofL t.length cells else []
theorem ofL_mem (n : Nat) (cells : List Int) (x : Int) : x ∈ ofL n cells ↔ ∃ c ∈ cells, Int.tmod c (n : Int) = x := by
 unfold ofL
 rw [mem_comp, List.mem_mergeSort, List.mem_map]
theorem ofL_up (n : Nat) (cells : List Int) : (ofL n cells).Pairwise (· < ·) := by
 unfold ofL
 refine comp_rise _ ?_
 have := List.pairwise_mergeSort (le := fun x y : Int => decide (x ≤ y)) (by intro a b c; simp; omega) (by intro a b; simp; omega) (cells.map fun c => Int.tmod c (n : Int))
 exact this.imp fun h => of_decide_eq_true h
theorem ofL_rng {n : Nat} {cells : List Int} (hn : 0 < n) (h : ∀ c ∈ cells, 0 ≤ c) : ∀ x ∈ ofL n cells, 0 ≤ x ∧ x < n := by
 intro x hx
 obtain ⟨c, hc, rfl⟩ := (ofL_mem n cells x).1 hx
 obtain ⟨m, e, hm, _⟩ := tmodN c n (h c hc) hn
 rw [e]; omega
theorem compact_len (l : List Int) : (Go.Lib.compact l).length ≤ l.length := by
 unfold Go.Lib.compact Go.Lib.compactUpTo
 rw [List.length_map]
 refine Nat.le_trans (List.length_filter_le _ _) ?_
 simp
theorem ofL_len (n : Nat) (cells : List Int) : (ofL n cells).length ≤ cells.length := by
 unfold ofL
 refine Nat.le_trans (compact_len _) ?_
 rw [List.length_mergeSort, List.length_map]; exact Nat.le_refl _
theorem Of_l (t : List S67) (ht : 1 ≤ t.length) (cells : List Int) (hm : cells.length < 4398046511) (d : Nat) : ∀ (k i : Nat), i ≤ cells.length → cells.length - i = d → d < k →
 stripe_Of.l0 k t ((cells.take i).map fun c => Int.tmod c (t.length : Int)) cells (cells.length : Int) (i : Int) = some (ofL t.length cells) := by
 induction d with
 | zero =>
  intro k i hi hd hk
  obtain ⟨k, rfl⟩ : ∃ m, k = m + 1 := ⟨k - 1, by omega⟩
  rw [List.take_of_length_le (by omega)]
  simp only [stripe_Of.l0]
  rw [if_neg (by omega), sort_f _ (by rw [List.length_map]; omega)]
  simp only [Option.bind_some]
  rw [comp_f _ (by rw [List.length_mergeSort, List.length_map]; omega)]; rfl
 | succ d ih =>
  intro k i hi hd hk
  obtain ⟨k, rfl⟩ : ∃ m, k = m + 1 := ⟨k - 1, by omega⟩
  have next := ih k (i + 1) (by omega) (by omega) (by omega)
  rw [take_snG cells 0 i (by omega), List.map_append] at next
  simp only [stripe_Of.l0]
  rw [if_pos (by omega), if_pos (by omega), if_pos (by omega), if_neg (by omega), if_pos (by rw [List.length_map, List.length_take]; omega), wrN (by omega), show rd cells (i : Int) = cells.getD i 0 from rfl]
  exact next
theorem Of_f (k : Nat) (t : List S67) (cells : List Int) (hm : cells.length < 4398046511) (hk : cells.length + 2 < k) : stripe_Of.f k t cells = some (ofT t cells) := by
 obtain ⟨k, rfl⟩ : ∃ m, k = m + 1 := ⟨k - 1, by omega⟩
 unfold stripe_Of.f ofT
 rw [RightT_f, neg_f]
 simp only [Option.bind_some]
 cases hr : rightT t with
 | true =>
  rw [if_pos rfl]
  simp only [stripe_Of.j0]
  cases hn : negB cells with
  | true => rw [if_pos rfl]; rfl
  | false =>
   rw [if_neg (by decide), if_pos (show (true && !false) = true from rfl)]
   have := Of_l t (rightT_ok hr).1 cells hm cells.length k 0 (by omega) (by omega) (by omega)
   simpa using this
 | false =>
  rw [if_neg (by decide)]
  simp only [stripe_Of.j0]
  rw [if_pos trivial]; rfl
/-- Some records turned. -/
def upd (f : S67 → S67) (p : Nat → Bool) (t : List S67) : List S67 := (List.range t.length).map fun i => if p i = true then f (t.getD i z67) else t.getD i z67
theorem upd_len (f : S67 → S67) (p : Nat → Bool) (t : List S67) : (upd f p t).length = t.length := by simp [upd]
theorem upd_at (f : S67 → S67) (p : Nat → Bool) (t : List S67) (i : Nat) (hi : i < t.length) : (upd f p t).getD i z67 = if p i = true then f (t.getD i z67) else t.getD i z67 := by
 unfold upd
 rw [List.getD_eq_getElem?_getD, List.getElem?_map, List.getElem?_range hi]; rfl
theorem ext_at {a b : List S67} (hl : a.length = b.length) (h : ∀ i, i < a.length → a.getD i z67 = b.getD i z67) : a = b := by
 refine List.ext_getElem hl fun i h1 h2 => ?_
 have := h i h1
 rw [List.getD_eq_getElem?_getD, List.getElem?_eq_getElem h1, List.getD_eq_getElem?_getD, List.getElem?_eq_getElem h2] at this
 exact this
theorem upd_none (f : S67 → S67) (p : Nat → Bool) (t : List S67) (h : ∀ i, i < t.length → p i = false) : upd f p t = t := by
 refine ext_at (upd_len f p t) fun i hi => ?_
 rw [upd_len] at hi
 rw [upd_at f p t i hi, h i hi, if_neg (by decide)]
theorem upd_ext (f : S67 → S67) (p q : Nat → Bool) (t : List S67) (h : ∀ i, i < t.length → p i = q i) : upd f p t = upd f q t := by
 refine ext_at (by rw [upd_len, upd_len]) fun i hi => ?_
 rw [upd_len] at hi
 rw [upd_at f p t i hi, upd_at f q t i hi, h i hi]
theorem set_getD (a : List S67) (j i : Nat) (v : S67) (hi : i < a.length) : (a.set j v).getD i z67 = if j = i then v else a.getD i z67 := by
 rw [List.getD_eq_getElem?_getD, List.getD_eq_getElem?_getD, List.getElem?_set]
 by_cases e : j = i
 · rw [if_pos e, if_pos e, if_pos (by omega)]; rfl
 · rw [if_neg e, if_neg e]
theorem upd_set (f : S67 → S67) (hf : ∀ x, f (f x) = f x) (p : Nat → Bool) (t : List S67) (j : Nat) (hj : j < t.length) : (upd f p t).set j (f ((upd f p t).getD j z67)) = upd f (fun i => p i || i == j) t := by
 refine ext_at (by rw [List.length_set, upd_len, upd_len]) fun i hi => ?_
 rw [List.length_set, upd_len] at hi
 rw [set_getD _ _ _ _ (by rw [upd_len]; exact hi), upd_at f (fun i => p i || i == j) t i hi]
 by_cases e : j = i
 · subst e
   rw [if_pos rfl, upd_at f p t j hi, if_pos (show (p j || j == j) = true by simp)]
   split
   · exact hf _
   · rfl
 · rw [if_neg e, upd_at f p t i hi]
   have : (i == j) = false := by simp; omega
   simp only [this, Bool.or_false]
def inL (is : List Int) (i : Nat) : Bool := is.any fun x => x == (i : Int)
theorem inL_iff (is : List Int) (i : Nat) : inL is i = true ↔ (i : Int) ∈ is := by
 unfold inL
 rw [List.any_eq_true]
 exact ⟨fun ⟨x, hx, e⟩ => by rw [← beq_iff_eq.1 e]; exact hx, fun h => ⟨_, h, by simp⟩⟩
theorem inL_sn (is : List Int) (x : Int) (hx : 0 ≤ x) : inL (is ++ [x]) = fun i => inL is i || i == x.toNat := by
 funext i
 unfold inL
 rw [List.any_append]
 congr 1
 simp only [List.any_cons, List.any_nil, Bool.or_false]
 rw [Bool.eq_iff_iff, beq_iff_eq, beq_iff_eq]; omega
theorem clone_f (t : List S67) (h : t.length < 4398046511) : slices_Clone.f t = some t := by
 unfold slices_Clone.f
 simp only [Option.bind_some, List.nil_append, List.length_nil]
 rw [if_pos (by omega)]
/-! locks -/
def own (who : Int) (x : S67) : S67 := ⟨x.f0, who⟩
theorem own_own (who : Int) (x : S67) : own who (own who x) = own who x := rfl
def freeT (t : List S67) (who : Int) (x : Int) : Bool := (t.getD x.toNat z67).f1 == 0 || (t.getD x.toNat z67).f1 == who
def lockT (t : List S67) (who : Int) (cells : List Int) : List S67 × Int :=
 if (rightT t && whoT who && !(negB cells)) = true then (if (ofL t.length cells).all (freeT t who) = true then (upd (own who) (inL (ofL t.length cells)) t, 0) else (t, 7)) else (t, 1)
theorem Lock_l (t : List S67) (who : Int) (is : List Int) (hm : is.length < 4398046511) (hr : ∀ x ∈ is, 0 ≤ x ∧ x < t.length) (d : Nat) : ∀ (k i : Nat), i ≤ is.length → is.length - i = d → d < k → (∀ x ∈ is.take i, freeT t who x = true) →
 stripe_Lock.l0 k t who (upd (own who) (inL (is.take i)) t) is (is.length : Int) (i : Int) = some (if is.all (freeT t who) = true then (upd (own who) (inL is) t, 0) else (t, 7)) := by
 induction d with
 | zero =>
  intro k i hi hd hk hf
  obtain ⟨k, rfl⟩ : ∃ m, k = m + 1 := ⟨k - 1, by omega⟩
  rw [List.take_of_length_le (by omega)] at hf ⊢
  simp only [stripe_Lock.l0]
  rw [if_neg (by omega), if_pos (List.all_eq_true.2 hf)]
 | succ d ih =>
  intro k i hi hd hk hf
  obtain ⟨k, rfl⟩ : ∃ m, k = m + 1 := ⟨k - 1, by omega⟩
  have hmem := getD_in is 0 i (by omega)
  have hrg := hr _ hmem
  have next := ih k (i + 1) (by omega) (by omega) (by omega)
  rw [take_snG is 0 i (by omega), inL_sn _ _ hrg.1] at next
  simp only [stripe_Lock.l0]
  rw [if_pos (by omega), if_pos (by omega), if_pos (by omega), show rd is (i : Int) = is.getD i 0 from rfl, if_pos hrg.1, if_pos hrg.2, wrN (by omega)]
  generalize is.getD i 0 = x at *
  have es : (upd (own who) (inL (is.take i)) t).set x.toNat (⟨(rd_T67 (upd (own who) (inL (is.take i)) t) x).f0, who⟩ : S67) = upd (own who) (fun j => inL (is.take i) j || j == x.toNat) t := upd_set (own who) (own_own who) _ t x.toNat (by omega)
  have hfree : (rd_T67 t x) = t.getD x.toNat z67 := rfl
  by_cases h0 : (rd_T67 t x).f1 = 0
  · rw [if_pos h0, if_pos (by rw [upd_len]; exact hrg.2), es]
    refine next fun y hy => ?_
    rcases List.mem_append.1 hy with h | h
    · exact hf y h
    · rw [List.mem_singleton.1 h]; unfold freeT; rw [← hfree, h0]; rfl
  · rw [if_neg h0]
    by_cases h1 : (rd_T67 t x).f1 = who
    · rw [if_pos h1, if_pos (by rw [upd_len]; exact hrg.2), es]
      refine next fun y hy => ?_
      rcases List.mem_append.1 hy with h | h
      · exact hf y h
      · rw [List.mem_singleton.1 h]; unfold freeT; rw [← hfree, h1]; simp
    · rw [if_neg h1, if_neg]
      intro h
      have := List.all_eq_true.1 h x hmem
      unfold freeT at this
      rw [← hfree] at this
      simp only [Bool.or_eq_true, beq_iff_eq] at this
      omega
theorem Lock_f (k : Nat) (t : List S67) (who : Int) (cells : List Int) (hm : cells.length < 4398046511) (hk : cells.length + 5 < k) : stripe_Lock.f k t who cells = some (lockT t who cells) := by
 obtain ⟨k, rfl⟩ : ∃ m, k = m + 1 := ⟨k - 1, by omega⟩
 unfold stripe_Lock.f lockT
 rw [RightT_f, neg_f, someb_f]
 simp only [Option.bind_some]
 cases hr : rightT t with
 | true =>
  rw [if_pos rfl]
  have ht := rightT_ok hr
  cases hw : decide (1 ≤ who ∧ who ≤ 8) with
  | true =>
   rw [if_pos rfl, show whoT who = true from hw]
   simp only [stripe_Lock.j0]
   cases hn : negB cells with
   | true => rw [if_pos rfl]; rfl
   | false =>
    rw [if_neg (by decide), if_pos (show (true && true && !false) = true from rfl), clone_f t (by omega), Of_f k t cells hm (by omega)]
    simp only [Option.bind_some]
    have eo : ofT t cells = ofL t.length cells := by unfold ofT; rw [hr, hn]; rfl
    rw [eo]
    have hl := ofL_len t.length cells
    have := Lock_l t who (ofL t.length cells) (by omega) (ofL_rng (by omega) (negB_no hn)) (ofL t.length cells).length k 0 (by omega) (by omega) (by omega) (by simp)
    rw [List.take_zero, upd_none _ (inL []) _ (fun _ _ => rfl)] at this
    exact this
  | false =>
   rw [if_neg (by decide), show whoT who = false from hw]
   simp only [stripe_Lock.j0]
   rw [if_pos trivial]; rfl
 | false =>
  rw [if_neg (by decide)]
  simp only [stripe_Lock.j0]
  rw [if_pos trivial]; rfl
/-! what somebody holds -/
def heldL (t : List S67) (who : Int) : List Int := ((List.range t.length).filter fun i => (t.getD i z67).f1 == who).map fun i => ((i : Nat) : Int)
def heldT (t : List S67) (who : Int) : List Int := if (rightT t && whoT who) = true then heldL t who else []
theorem Held_l (t : List S67) (who : Int) (hm : t.length < 4398046511) (d : Nat) : ∀ (k i : Nat), i ≤ t.length → t.length - i = d → d < k →
 stripe_Held.l0 k who (((List.range i).filter fun i => (t.getD i z67).f1 == who).map fun i => ((i : Nat) : Int)) t (t.length : Int) (i : Int) = some (heldL t who) := by
 induction d with
 | zero =>
  intro k i hi hd hk
  obtain ⟨k, rfl⟩ : ∃ m, k = m + 1 := ⟨k - 1, by omega⟩
  have : i = t.length := by omega
  subst this
  simp only [stripe_Held.l0]
  rw [if_neg (by omega)]; rfl
 | succ d ih =>
  intro k i hi hd hk
  obtain ⟨k, rfl⟩ : ∃ m, k = m + 1 := ⟨k - 1, by omega⟩
  have next := ih k (i + 1) (by omega) (by omega) (by omega)
  rw [List.range_succ, List.filter_append, List.map_append] at next
  simp only [stripe_Held.l0]
  rw [if_pos (by omega), if_pos (by omega), if_pos (by omega), wrN (by omega), show rd_T67 t (i : Int) = t.getD i z67 from rfl]
  by_cases h : (t.getD i z67).f1 = who
  · rw [if_pos h, if_pos (by
     rw [List.length_map]
     refine Nat.lt_of_le_of_lt (List.length_filter_le _ _) ?_
     rw [List.length_range]; omega)]
    simp only [List.filter_cons, beq_iff_eq.2 h, if_true, List.filter_nil, List.map_cons, List.map_nil] at next
    exact next
  · rw [if_neg h]
    simp only [List.filter_cons, beq_eq_false_iff_ne.2 h, Bool.false_eq_true, if_false, List.filter_nil, List.map_nil, List.append_nil] at next
    exact next
theorem Held_f (k : Nat) (t : List S67) (who : Int) (hm : t.length < 4398046511) (hk : t.length + 2 < k) : stripe_Held.f k t who = some (heldT t who) := by
 obtain ⟨k, rfl⟩ : ∃ m, k = m + 1 := ⟨k - 1, by omega⟩
 unfold stripe_Held.f heldT
 rw [RightT_f, someb_f]
 simp only [Option.bind_some]
 cases hr : rightT t with
 | true =>
  rw [if_pos rfl]
  simp only [stripe_Held.j0]
  cases hw : decide (1 ≤ who ∧ who ≤ 8) with
  | true =>
   rw [if_neg (by decide), show whoT who = true from hw, if_pos (show (true && true) = true from rfl)]
   have := Held_l t who hm t.length k 0 (by omega) (by omega) (by omega)
   simpa using this
  | false => rw [if_pos (by decide), show whoT who = false from hw]; rfl
 | false =>
  rw [if_neg (by decide)]
  simp only [stripe_Held.j0]
  rw [if_pos trivial]; rfl
theorem heldL_mem (t : List S67) (who : Int) (i : Nat) : (i : Int) ∈ heldL t who ↔ i < t.length ∧ (t.getD i z67).f1 = who := by
 unfold heldL
 rw [List.mem_map]
 constructor
 · rintro ⟨j, hj, e⟩
   have := List.mem_filter.1 hj
   have e' : j = i := by omega
   subst e'
   exact ⟨List.mem_range.1 this.1, beq_iff_eq.1 this.2⟩
 · rintro ⟨h1, h2⟩
   exact ⟨i, List.mem_filter.2 ⟨List.mem_range.2 h1, beq_iff_eq.2 h2⟩, rfl⟩
theorem heldL_rng (t : List S67) (who : Int) : ∀ x ∈ heldL t who, 0 ≤ x ∧ x < t.length := by
 intro x hx
 unfold heldL at hx
 obtain ⟨j, hj, rfl⟩ := List.mem_map.1 hx
 have := List.mem_range.1 (List.mem_filter.1 hj).1
 omega
theorem heldL_len (t : List S67) (who : Int) : (heldL t who).length ≤ t.length := by
 unfold heldL
 rw [List.length_map]
 refine Nat.le_trans (List.length_filter_le _ _) ?_
 rw [List.length_range]; exact Nat.le_refl _
theorem inHeld (t : List S67) (who : Int) (i : Nat) (hi : i < t.length) : inL (heldL t who) i = ((t.getD i z67).f1 == who) := by
 rw [Bool.eq_iff_iff, inL_iff, heldL_mem, beq_iff_eq]
 exact ⟨fun h => h.2, fun h => ⟨hi, h⟩⟩
/-! stamps -/
def stampT (t : List S67) (who v : Int) : List S67 × Int :=
 if (rightT t && whoT who) = true then
  (if 0 ≤ v ∧ v ≤ 2147483647 ∧ (heldL t who).all (fun i => decide ((t.getD i.toNat z67).f0 < v)) = true then (upd (fun _ => ⟨v, 0⟩) (fun i => (t.getD i z67).f1 == who) t, 0) else (t, 6))
 else (t, 1)
theorem Stamp_l (t : List S67) (v : Int) (is : List Int) (hm : is.length < 4398046511) (hr : ∀ x ∈ is, 0 ≤ x ∧ x < t.length) (d : Nat) : ∀ (k i : Nat), i ≤ is.length → is.length - i = d → d < k →
 stripe_Stamp.l0 k (upd (fun _ => ⟨v, 0⟩) (inL (is.take i)) t) is (is.length : Int) (i : Int) v = some (upd (fun _ => ⟨v, 0⟩) (inL is) t, 0) := by
 induction d with
 | zero =>
  intro k i hi hd hk
  obtain ⟨k, rfl⟩ : ∃ m, k = m + 1 := ⟨k - 1, by omega⟩
  rw [List.take_of_length_le (by omega)]
  simp only [stripe_Stamp.l0]
  rw [if_neg (by omega)]
 | succ d ih =>
  intro k i hi hd hk
  obtain ⟨k, rfl⟩ : ∃ m, k = m + 1 := ⟨k - 1, by omega⟩
  have hrg := hr _ (getD_in is 0 i (by omega))
  have next := ih k (i + 1) (by omega) (by omega) (by omega)
  rw [take_snG is 0 i (by omega), inL_sn _ _ hrg.1] at next
  simp only [stripe_Stamp.l0]
  rw [if_pos (by omega), if_pos (by omega), if_pos (by omega), show rd is (i : Int) = is.getD i 0 from rfl, if_pos hrg.1, if_pos (by rw [upd_len]; exact hrg.2), wrN (by omega)]
  generalize is.getD i 0 = x at *
  have es := upd_set (fun _ => (⟨v, 0⟩ : S67)) (fun _ => rfl) (inL (is.take i)) t x.toNat (by omega)
  rw [show (upd (fun _ => (⟨v, 0⟩ : S67)) (inL (is.take i)) t).set x.toNat ⟨v, 0⟩ = _ from es]
  exact next
theorem Stamp_f (k : Nat) (t : List S67) (who v : Int) (hm : t.length < 4398046511) (hk : t.length + 5 < k) : stripe_Stamp.f k t who v = some (stampT t who v) := by
 obtain ⟨k, rfl⟩ : ∃ m, k = m + 1 := ⟨k - 1, by omega⟩
 unfold stripe_Stamp.f stampT
 rw [Held_f (k + 1) t who hm (by omega), RightT_f, someb_f]
 simp only [Option.bind_some]
 cases hr : rightT t with
 | true =>
  rw [if_pos rfl]
  simp only [stripe_Stamp.j0]
  cases hw : decide (1 ≤ who ∧ who ≤ 8) with
  | true =>
   rw [if_neg (by decide), show whoT who = true from hw, if_pos (show (true && true) = true from rfl)]
   have eh : heldT t who = heldL t who := by unfold heldT; rw [hr, show whoT who = true from hw]; rfl
   rw [eh]
   by_cases h0 : v < 0
   · rw [if_pos h0, if_neg (by omega)]
   · rw [if_neg h0]
     by_cases h1 : v > 2147483647
     · rw [if_pos h1, if_neg (by omega)]
     · rw [if_neg h1]
       unfold any_at_stripe_Stamp_1.f
       rw [anyF_T (f := fun x => stripe_Stamp_1.f x t v) (p := fun i => !(decide ((t.getD i.toNat z67).f0 < v))) (heldL t who) (fun x hx => by
        obtain ⟨a, b⟩ := heldL_rng t who x hx
        unfold stripe_Stamp_1.f
        rw [if_pos a, if_pos b]
        show some (decide ((t.getD x.toNat z67).f0 ≥ v)) = _
        congr 1
        by_cases e : (t.getD x.toNat z67).f0 < v
        · rw [decide_eq_true e, decide_eq_false (by omega)]; rfl
        · rw [decide_eq_false e, decide_eq_true (by omega)]; rfl)]
       simp only [Option.bind_some]
       have ea : ((heldL t who).any fun i => !(decide ((t.getD i.toNat z67).f0 < v))) = !((heldL t who).all fun i => decide ((t.getD i.toNat z67).f0 < v)) := by
        rw [List.not_all_eq_any_not]
       rw [ea]
       cases hA : (heldL t who).all fun i => decide ((t.getD i.toNat z67).f0 < v) with
       | true =>
        have hl := heldL_len t who
        rw [if_neg (by decide), if_pos ⟨by omega, by omega, rfl⟩, clone_f t (by omega)]
        simp only [Option.bind_some]
        have := Stamp_l t v (heldL t who) (by omega) (heldL_rng t who) (heldL t who).length k 0 (by omega) (by omega) (by have := (rightT_ok hr).2.1; omega)
        rw [List.take_zero, upd_none _ (inL []) _ (fun _ _ => rfl)] at this
        rw [show ((0 : Nat) : Int) = 0 from rfl] at this
        rw [this, upd_ext _ _ _ t (fun i hi => inHeld t who i hi)]
       | false => rw [if_pos (by decide), if_neg (fun e => by simp at e)]
  | false =>
   rw [if_pos (by decide), show whoT who = false from hw]; rfl
 | false =>
  rw [if_neg (by decide)]
  simp only [stripe_Stamp.j0]
  rw [if_pos trivial]; rfl
/-! more of stripes -/
theorem awake3 (k : Nat) (hk : 60 ≤ k) : handshakerlaw03_awake.f k = some true :=
 at_rounds (g := handshakerlaw03_awake.f) handshakerlaw03_awake.mono hk (by decide +kernel)
theorem upd_right {t : List S67} (ht : rightT t = true) (f : S67 → S67) (hf : ∀ x, okT x = true → okT (f x) = true) (p : Nat → Bool) : rightT (upd f p t) = true := by
 obtain ⟨h1, h2, h3⟩ := rightT_ok ht
 unfold rightT
 rw [upd_len, Bool.and_eq_true, decide_eq_true_eq, List.all_eq_true]
 refine ⟨⟨h1, h2⟩, fun x hx => ?_⟩
 unfold upd at hx
 obtain ⟨i, hi, rfl⟩ := List.mem_map.1 hx
 have hg := h3 _ (getD_in t z67 i (List.mem_range.1 hi))
 split
 · exact hf _ hg
 · exact hg
theorem own_ok {who : Int} (hw : 0 ≤ who ∧ who ≤ 8) (x : S67) (h : okT x = true) : okT (own who x) = true := by
 unfold okT at h ⊢
 rw [Bool.and_eq_true] at h ⊢
 exact ⟨h.1, decide_eq_true hw⟩
theorem whoT_rng {who : Int} (h : whoT who = true) : 1 ≤ who ∧ who ≤ 8 := by unfold whoT at h; exact of_decide_eq_true h
theorem lockT_cases (t : List S67) (who : Int) (cells : List Int) : ((lockT t who cells).2 = 0 ∧ rightT t = true ∧ whoT who = true ∧ negB cells = false ∧ (∀ x ∈ ofL t.length cells, freeT t who x = true) ∧ (lockT t who cells).1 = upd (own who) (inL (ofL t.length cells)) t) ∨ ((lockT t who cells).2 ≠ 0 ∧ (lockT t who cells).1 = t) := by
 unfold lockT
 split
 · rename_i g
   simp only [Bool.and_eq_true, Bool.not_eq_true'] at g
   split
   · rename_i g2
     exact .inl ⟨rfl, g.1.1, g.1.2, g.2, List.all_eq_true.1 g2, rfl⟩
   · exact .inr ⟨by simp, rfl⟩
 · exact .inr ⟨by simp, rfl⟩
theorem lockT_yes {t : List S67} {who : Int} {cells : List Int} (h1 : rightT t = true) (h2 : whoT who = true) (h3 : negB cells = false) (h4 : ∀ x ∈ ofL t.length cells, freeT t who x = true) : lockT t who cells = (upd (own who) (inL (ofL t.length cells)) t, 0) := by
 unfold lockT
 rw [h1, h2, h3, if_pos (show (true && true && !false) = true from rfl), if_pos (List.all_eq_true.2 h4)]
theorem lockT_len (t : List S67) (who : Int) (cells : List Int) : (lockT t who cells).1.length = t.length := by
 rcases lockT_cases t who cells with ⟨_, _, _, _, _, e⟩ | ⟨_, e⟩ <;> rw [e]
 exact upd_len _ _ _
theorem lockT_right {t : List S67} (ht : rightT t = true) (who : Int) (cells : List Int) : rightT (lockT t who cells).1 = true := by
 rcases lockT_cases t who cells with ⟨_, _, hw, _, _, e⟩ | ⟨_, e⟩ <;> rw [e]
 · exact upd_right ht _ (own_ok (by have := whoT_rng hw; omega)) _
 · exact ht
/-! let -/
def free (x : S67) : S67 := ⟨x.f0, 0⟩
def letT (t : List S67) (who : Int) : List S67 := upd free (inL (heldT t who)) t
theorem Let_l (t : List S67) (is : List Int) (hm : is.length < 4398046511) (hr : ∀ x ∈ is, 0 ≤ x ∧ x < t.length) (d : Nat) : ∀ (k i : Nat), i ≤ is.length → is.length - i = d → d < k →
 stripe_Let.l0 k (upd free (inL (is.take i)) t) is (is.length : Int) (i : Int) = some (upd free (inL is) t) := by
 induction d with
 | zero =>
  intro k i hi hd hk
  obtain ⟨k, rfl⟩ : ∃ m, k = m + 1 := ⟨k - 1, by omega⟩
  rw [List.take_of_length_le (by omega)]
  simp only [stripe_Let.l0]
  rw [if_neg (by omega)]
 | succ d ih =>
  intro k i hi hd hk
  obtain ⟨k, rfl⟩ : ∃ m, k = m + 1 := ⟨k - 1, by omega⟩
  have hrg := hr _ (getD_in is 0 i (by omega))
  have next := ih k (i + 1) (by omega) (by omega) (by omega)
  rw [take_snG is 0 i (by omega), inL_sn _ _ hrg.1] at next
  simp only [stripe_Let.l0]
  rw [if_pos (by omega), if_pos (by omega), if_pos (by omega), show rd is (i : Int) = is.getD i 0 from rfl, if_pos hrg.1, if_pos (by rw [upd_len]; exact hrg.2), wrN (by omega)]
  generalize is.getD i 0 = x at *
  have es : (upd free (inL (is.take i)) t).set x.toNat (⟨(rd_T67 (upd free (inL (is.take i)) t) x).f0, 0⟩ : S67) = upd free (fun j => inL (is.take i) j || j == x.toNat) t := upd_set free (fun _ => rfl) _ t x.toNat (by omega)
  rw [es]
  exact next
theorem heldT_rng (t : List S67) (who : Int) : ∀ x ∈ heldT t who, 0 ≤ x ∧ x < t.length := by
 unfold heldT
 split
 · exact heldL_rng t who
 · intro x hx; cases hx
theorem heldT_len (t : List S67) (who : Int) : (heldT t who).length ≤ t.length := by
 unfold heldT
 split
 · exact heldL_len t who
 · simp
theorem Let_f (k : Nat) (t : List S67) (who : Int) (hm : t.length < 4398046511) (hk : t.length + 5 < k) : stripe_Let.f k t who = some (letT t who) := by
 unfold stripe_Let.f letT
 rw [clone_f t hm, Held_f k t who hm (by omega)]
 simp only [Option.bind_some]
 have hl := heldT_len t who
 have := Let_l t (heldT t who) (by omega) (heldT_rng t who) (heldT t who).length k 0 (by omega) (by omega) (by omega)
 rw [List.take_zero, upd_none _ (inL []) _ (fun _ _ => rfl)] at this
 exact this
theorem letT_len (t : List S67) (who : Int) : (letT t who).length = t.length := upd_len _ _ _
theorem letT_right {t : List S67} (ht : rightT t = true) (who : Int) : rightT (letT t who) = true := upd_right ht _ (fun x h => by
 unfold okT at h ⊢
 rw [Bool.and_eq_true] at h ⊢
 exact ⟨h.1, by unfold free; simp⟩) _
theorem letT_at {t : List S67} (ht : rightT t = true) {who : Int} (hw : whoT who = true) (i : Nat) (hi : i < t.length) : (letT t who).getD i z67 = if (t.getD i z67).f1 = who then free (t.getD i z67) else t.getD i z67 := by
 unfold letT heldT
 rw [ht, hw, if_pos (show (true && true) = true from rfl), upd_at _ _ _ i hi, inHeld t who i hi]
 by_cases e : (t.getD i z67).f1 = who
 · rw [if_pos (beq_iff_eq.2 e), if_pos e]
 · rw [if_neg (fun h => e (beq_iff_eq.1 h)), if_neg e]
theorem letT_no {t : List S67} {who : Int} (h : heldT t who = []) : letT t who = t := by
 unfold letT
 rw [h]; exact upd_none _ _ _ fun _ _ => rfl
theorem held_let {t : List S67} (ht : rightT t = true) (who : Int) : heldT (letT t who) who = [] := by
 by_cases hw : whoT who = true
 · unfold heldT
   split
   · rw [List.eq_nil_iff_forall_not_mem]
     intro x hx
     obtain ⟨h0, h1⟩ := heldL_rng _ _ x hx
     obtain ⟨i, rfl⟩ : ∃ i : Nat, x = (i : Int) := ⟨x.toNat, by omega⟩
     obtain ⟨hi, e⟩ := (heldL_mem _ _ i).1 hx
     rw [letT_len] at hi
     rw [letT_at ht hw i hi] at e
     have := whoT_rng hw
     split at e
     · unfold free at e; simp only at e; omega
     · rename_i g; exact g e
   · rfl
 · unfold heldT
   rw [show whoT who = false from by simpa using hw, Bool.and_false]; rfl
theorem held_ext {a b : List S67} (ha : rightT a = true) (hb : rightT b = true) (who : Int) (hl : a.length = b.length) (h : whoT who = true → ∀ i, i < a.length → ((a.getD i z67).f1 = who ↔ (b.getD i z67).f1 = who)) : heldT a who = heldT b who := by
 unfold heldT
 rw [ha, hb]
 by_cases hw : whoT who = true
 · rw [hw, if_pos (show (true && true) = true from rfl), if_pos (show (true && true) = true from rfl)]
   unfold heldL
   rw [← hl]
   congr 1
   refine List.filter_congr fun i hi => ?_
   rw [Bool.eq_iff_iff, beq_iff_eq, beq_iff_eq]
   exact h hw i (List.mem_range.1 hi)
 · rw [show whoT who = false from by simpa using hw, Bool.and_false]; rfl
theorem SameT_l (l : List S67) (hm : l.length < 4398046511) (d : Nat) : ∀ (k i : Nat), i ≤ l.length → l.length - i = d → d < k → handshakerref03_Same.l0 k l l (i : Int) = some true := by
 induction d with
 | zero =>
  intro k i hi hd hk
  obtain ⟨k, rfl⟩ : ∃ m, k = m + 1 := ⟨k - 1, by omega⟩
  simp only [handshakerref03_Same.l0]
  rw [if_neg (by omega)]
 | succ d ih =>
  intro k i hi hd hk
  obtain ⟨k, rfl⟩ : ∃ m, k = m + 1 := ⟨k - 1, by omega⟩
  simp only [handshakerref03_Same.l0]
  rw [if_pos (by omega), if_pos (by omega), if_pos (by omega), wrN (by omega), if_neg (by simp)]
  exact ih k (i + 1) (by omega) (by omega) (by omega)
theorem SameT_f (k : Nat) (l : List S67) (hm : l.length < 4398046511) (hk : l.length < k) : handshakerref03_Same.f k l l = some true := by
 unfold handshakerref03_Same.f
 rw [if_pos rfl]
 exact SameT_l l hm l.length k 0 (by omega) (by omega) (by omega)
theorem negB_app (a b : List Int) : negB (a ++ b) = (negB a || negB b) := by
 unfold negB; rw [List.any_append]
theorem ofL_app (n : Nat) (a b : List Int) (x : Int) : x ∈ ofL n (a ++ b) ↔ x ∈ ofL n a ∨ x ∈ ofL n b := by
 rw [ofL_mem, ofL_mem, ofL_mem]
 constructor
 · rintro ⟨c, hc, e⟩
   rcases List.mem_append.1 hc with h | h
   · exact .inl ⟨c, h, e⟩
   · exact .inr ⟨c, h, e⟩
 · rintro (⟨c, hc, e⟩ | ⟨c, hc, e⟩)
   · exact ⟨c, List.mem_append_left _ hc, e⟩
   · exact ⟨c, List.mem_append_right _ hc, e⟩
theorem upd_upd (f : S67 → S67) (hf : ∀ x, f (f x) = f x) (p q : Nat → Bool) (t : List S67) : upd f q (upd f p t) = upd f (fun i => p i || q i) t := by
 refine ext_at (by rw [upd_len, upd_len, upd_len]) fun i hi => ?_
 rw [upd_len, upd_len] at hi
 rw [upd_at f q _ i (by rw [upd_len]; exact hi), upd_at f p t i hi, upd_at f (fun i => p i || q i) t i hi]
 cases p i <;> cases q i <;> simp [hf]
theorem free_upd {t : List S67} {who : Int} {p : Nat → Bool} {x : Int} (hx : 0 ≤ x ∧ x < t.length) (hp : p x.toNat = true → freeT t who x = true) : freeT (upd (own who) p t) who x = freeT t who x := by
 unfold freeT at hp ⊢
 rw [upd_at _ _ t _ (by omega)]
 by_cases h : p x.toNat = true
 · rw [if_pos h, hp h]; simp [own]
 · rw [if_neg h]
theorem Numbers_l (l : List Int) (hm : l.length < 4398046511104) (d : Nat) : ∀ (k i : Nat), i ≤ l.length → l.length - i = d → d < k → handshakerref03_Numbers.l0 k l l (i : Int) = some true := by
 induction d with
 | zero =>
  intro k i hi hd hk
  obtain ⟨k, rfl⟩ : ∃ m, k = m + 1 := ⟨k - 1, by omega⟩
  simp only [handshakerref03_Numbers.l0]
  rw [if_neg (by omega)]
 | succ d ih =>
  intro k i hi hd hk
  obtain ⟨k, rfl⟩ : ∃ m, k = m + 1 := ⟨k - 1, by omega⟩
  simp only [handshakerref03_Numbers.l0]
  rw [if_pos (by omega), if_pos (by omega), if_pos (by omega), if_pos trivial, wrN (by omega)]
  exact ih k (i + 1) (by omega) (by omega) (by omega)
theorem Numbers_f (k : Nat) (l : List Int) (hm : l.length < 4398046511104) (hk : l.length < k) : handshakerref03_Numbers.f k l l = some true := by
 unfold handshakerref03_Numbers.f
 rw [if_pos rfl]
 exact Numbers_l l hm l.length k 0 (by omega) (by omega) (by omega)
end Go.Proofs.Ytlfmobnmohnjmaa.T
