/-
 PROVED: Plain lemmas on numbers and lists, of what the printed functions answer. No condition beside those of each lemma.
-/
import Derived.Test.YtjnkpocfmpbpoaaSwx3
import Derived.Test.YtjnkpocfmpbpoaaSwx4
import Derived.Test.YtjnkpocfmpbpoaaSwx5
import Derived.Test.YtjnkpocfmpbpoaaSwx6
import Derived.Test.YtjnkpocfmpbpoaaSwx7
import Derived.Test.YtjnkpocfmpbpoaaSwx10
import Derived.Test.YtjnkpocfmpbpoaaSwx8
import Derived.Test.YtjnkpocfmpbpoaaSwx9
import Derived.Test.YtjnkpocfmpbpoaaSwx11
import Derived.Test.YtjnkpocfmpbpoaaSwx16
import Derived.Test.YtjnkpocfmpbpoaaSwx17
import Derived.Test.YtjnkpocfmpbpoaaSwx18
import Derived.Test.YtjnkpocfmpbpoaaSwx12
import Derived.Test.YtjnkpocfmpbpoaaSwx13
import Derived.Test.YtjnkpocfmpbpoaaSwx14
import Derived.Test.YtjnkpocfmpbpoaaSwx15
import Derived.Test.YtjnkpocfmpbpoaaSwx19
namespace Go.Proofs.Ytjnkpocfmpbpoaa.Sw
open Go.RowKit Go.Proofs.YtjnkpocfmpbpoaaW.PrintWords Go.Proofs.YtjnkpocfmpbpoaaW.PrintLast Go.Proofs.YtjnkpocfmpbpoaaW.PrintMore Go.Proofs.Ytjnkpocfmpbpoaa.Ho
set_option linter.unusedVariables false
set_option linter.unusedSimpArgs false
theorem wr {i : Int} (h0 : -9223372036854775808 ≤ i) (h : i ≤ 9223372036854775807) : wrap64 i = i := by unfold wrap64; omega
theorem wrN {i : Nat} (h : i < 4611686018427387904) : wrap64 ((i : Int) + 1) = ((i + 1 : Nat) : Int) := by unfold wrap64; omega
theorem drop_cons {α : Type} (l : List α) (z : α) (i : Nat) (h : i < l.length) : l.drop i = l.getD i z :: l.drop (i + 1) := by
 rw [List.drop_eq_getElem_cons h]
 simp [List.getElem?_eq_getElem h]
/-- The first place at which p holds, from i on, or -1. -/
def idxT {α : Type} (p : α → Bool) : List α → Int → Int
 | [], _ => -1
 | x :: xs, i => if p x then i else idxT p xs (i + 1)
theorem idxT_yes {α : Type} {p : α → Bool} {x : α} {xs : List α} {i : Int} (h : p x = true) : idxT p (x :: xs) i = i := by simp [idxT, h]
theorem idxT_no {α : Type} {p : α → Bool} {x : α} {xs : List α} {i : Int} (h : p x = false) : idxT p (x :: xs) i = idxT p xs (i + 1) := by simp [idxT, h]
theorem anyF_T {α : Type} {f : α → Option Bool} {p : α → Bool} : ∀ (l : List α), (∀ x ∈ l, f x = some (p x)) → anyF f l = some (l.any p)
 | [], _ => rfl
 | x :: xs, h => by
  simp only [anyF, List.any_cons]
  rw [h x (by simp), anyF_T xs (fun y hy => h y (by simp [hy]))]
  simp only [Option.bind_some]
  cases p x <;> rfl
theorem idxT_cases {α : Type} (p : α → Bool) (z : α) : ∀ (l : List α) (i : Int), (idxT p l i = -1 ∧ ∀ x ∈ l, p x = false) ∨ ∃ j : Nat, j < l.length ∧ idxT p l i = i + j ∧ p (l.getD j z) = true ∧ ∀ m, m < j → p (l.getD m z) = false
 | [], i => .inl ⟨rfl, fun x hx => by cases hx⟩
 | x :: xs, i => by
  cases hx : p x with
  | true => exact .inr ⟨0, by simp, by simp [idxT, hx], by simpa using hx, fun m hm => by omega⟩
  | false =>
   rcases idxT_cases p z xs (i + 1) with ⟨h1, h2⟩ | ⟨j, h1, h2, h3, h4⟩
   · exact .inl ⟨by simp [idxT, hx, h1], fun y hy => by rcases List.mem_cons.1 hy with rfl | hy; exact hx; exact h2 y hy⟩
   · refine .inr ⟨j + 1, by simpa using h1, by simp [idxT, hx, h2]; omega, by simpa using h3, fun m hm => ?_⟩
     cases m with
     | zero => simpa using hx
     | succ m => simpa using h4 m (by omega)
def inR (v : Int) : Bool := decide (-2147483648 ≤ v ∧ v ≤ 2147483647)
theorem right_f (a : Int) : span_Right.f a = some (inR a) := by
 unfold span_Right.f inR
 by_cases h : a ≥ (-2147483648)
 · rw [if_pos h]; simp [h]
 · rw [if_neg h]; simp [h]
end Go.Proofs.Ytjnkpocfmpbpoaa.Sw
namespace Go.Proofs.Ytjnkpocfmpbpoaa.Sw
open Go.RowKit Go.Proofs.YtjnkpocfmpbpoaaW.PrintWords Go.Proofs.YtjnkpocfmpbpoaaW.PrintLast Go.Proofs.YtjnkpocfmpbpoaaW.PrintMore Go.Proofs.Ytjnkpocfmpbpoaa.Ho
set_option linter.unusedVariables false
set_option linter.unusedSimpArgs false
/-! ### terms -/
def takes (a : Int) : Nat := if 4 ≤ a ∧ a ≤ 10 then 2 else if a = 11 then 1 else 0
theorem takes_le (a : Int) : takes a ≤ 2 := by unfold takes; split <;> (try split) <;> omega
def mayB (a b : Int) : Bool := if a = 1 then inR b else if a = 2 then decide (0 ≤ b ∧ b < 64) else if a = 3 then decide (0 ≤ b ∧ b < 8) else decide (0 < takes a) && b == 0
theorem takes_f (k : Nat) (a b : Int) (hk : 0 < k) : term_Op_takes.f k a b = some (takes a : Int) := by
 obtain ⟨k, rfl⟩ : ∃ q, k = q + 1 := ⟨k - 1, by omega⟩
 unfold term_Op_takes.f takes
 simp only [term_Op_takes.j0, decide_eq_true_eq]
 repeat' split
 all_goals first | rfl | (exfalso; omega) | (simp at *; done) | (simp at *; omega)
theorem may_f (k : Nat) (a b : Int) (hk : 0 < k) : term_Op_may.f k a b = some (mayB a b) := by
 unfold term_Op_may.f mayB
 rw [takes_f _ _ _ hk, right_f]
 simp only [Option.bind_some]
 split
 · rfl
 · split
   · by_cases h : b ≥ 0 <;> simp [h]
   · split
     · by_cases h : b ≥ 0 <;> simp [h]
     · by_cases h : takes a = 0
       · simp [h]
       · rw [if_pos (by omega), decide_eq_true (by omega)]; simp
/-- How many numbers there are behind all, or none if there are too few. -/
def walkN : List S80 → Nat → Option Nat
 | [], n => some n
 | o :: os, n => if n < takes o.f0 then none else walkN os (n + 1 - takes o.f0)
def mostN : List S80 → Nat → Nat → Nat
 | [], _, m => m
 | o :: os, n, m => if n < takes o.f0 then 0 else mostN os (n + 1 - takes o.f0) (if m < n + 1 - takes o.f0 then n + 1 - takes o.f0 else m)
def walkI (t : List S80) (n : Nat) : Int := match walkN t n with | some m => (m : Int) | none => -1
theorem walk_l (t : List S80) (hm : t.length < 4398046511104) (d : Nat) : ∀ (k i n m : Nat), i ≤ t.length → t.length - i = d → d + 1 < k → n ≤ i → m ≤ i →
 term_walk.l0 k (n : Int) (m : Int) t (t.length : Int) (i : Int) = some (walkI (t.drop i) n, (mostN (t.drop i) n m : Int)) := by
 induction d with
 | zero =>
  intro k i n m hi hd hk hn hm'
  obtain ⟨k, rfl⟩ : ∃ q, k = q + 1 := ⟨k - 1, by omega⟩
  rw [List.drop_of_length_le (by omega)]
  simp only [term_walk.l0, walkI, walkN, mostN]
  rw [if_neg (by omega)]
 | succ d ih =>
  intro k i n m hi hd hk hn hm'
  obtain ⟨k, rfl⟩ : ∃ q, k = q + 1 := ⟨k - 1, by omega⟩
  rw [drop_cons t z80 i (by omega)]
  simp only [term_walk.l0]
  rw [if_pos (by omega), if_pos (by omega), if_pos (by omega), takes_f _ _ _ (by omega)]
  simp only [Option.bind_some]
  rw [show rd_T80 t (i : Int) = t.getD i z80 from rfl]
  have hlt := takes_le (t.getD i z80).f0
  unfold walkI
  simp only [walkN, mostN]
  by_cases h : n < takes (t.getD i z80).f0
  · rw [if_pos (by omega), if_pos h, if_pos h]; rfl
  · rw [if_neg (by omega), if_neg h, if_neg h, wrN (by omega)]
    have e1 : wrap64 ((n : Int) + wrap64 (1 - (takes (t.getD i z80).f0 : Int))) = ((n + 1 - takes (t.getD i z80).f0 : Nat) : Int) := by
     rw [wr (i := 1 - (takes (t.getD i z80).f0 : Int)) (by omega) (by omega), wr (by omega) (by omega)]; omega
    rw [e1]
    have e2 : mx (m : Int) ((n + 1 - takes (t.getD i z80).f0 : Nat) : Int) = ((if m < n + 1 - takes (t.getD i z80).f0 then n + 1 - takes (t.getD i z80).f0 else m : Nat) : Int) := by
     unfold mx
     by_cases h3 : m < n + 1 - takes (t.getD i z80).f0
     · rw [if_pos h3, if_pos (by omega)]
     · rw [if_neg h3, if_neg (by omega)]
    rw [e2, ih k (i + 1) _ _ (by omega) (by omega) (by omega) (by omega) (by split <;> omega)]
    rfl
theorem walk_f (k : Nat) (t : List S80) (hm : t.length < 4398046511104) (hk : t.length + 1 < k) : term_walk.f k t = some (walkI t 0, (mostN t 0 0 : Int)) := by
 unfold term_walk.f
 have := walk_l t hm t.length k 0 0 0 (by omega) (by omega) (by omega) (by omega) (by omega)
 simpa using this
def mayAll (t : List S80) : Bool := t.all fun o => mayB o.f0 o.f1
/-- Does it stand well? -/
def checkB (t : List S80) : Int := if 1 ≤ t.length ∧ t.length ≤ 12 ∧ mayAll t = true then (if walkN t 0 = some 1 then 0 else 2) else 1
theorem any_may (k : Nat) (t : List S80) (hk : 0 < k) : any_at_term_Check_1.f k t = some (!(mayAll t)) := by
 unfold any_at_term_Check_1.f mayAll
 rw [anyF_T (p := fun o => !(mayB o.f0 o.f1)) t (fun o _ => by unfold term_Check_1.f; rw [may_f _ _ _ hk]; rfl)]
 congr 1
 induction t with
 | nil => rfl
 | cons x xs ih => simp only [List.any_cons, List.all_cons, ih]; cases mayB x.f0 x.f1 <;> simp
theorem walkI_one (t : List S80) : walkI t 0 = 1 ↔ walkN t 0 = some 1 := by
 unfold walkI
 cases walkN t 0 with
 | none => simp
 | some m => simp; omega
theorem Check_f (k : Nat) (t : List S80) (hk : 20 ≤ k) : term_Check.f k t = some (checkB t) := by
 obtain ⟨k, rfl⟩ : ∃ q, k = q + 1 := ⟨k - 1, by omega⟩
 unfold term_Check.f checkB
 simp only [term_Check.j0]
 by_cases h1 : t.length < 1
 · rw [if_pos (by omega), if_pos trivial, if_neg (by omega)]
 · rw [if_neg (by omega)]
   by_cases h2 : t.length > 12
   · rw [if_pos (by omega), if_pos trivial, if_neg (by omega)]
   · rw [if_neg (by omega), any_may _ _ (by omega)]
     simp only [Option.bind_some]
     by_cases h3 : mayAll t = true
     · rw [h3, if_neg (by simp), if_pos ⟨by omega, by omega, rfl⟩, walk_f k t (by omega) (by omega)]
       simp only [Option.bind_some]
       by_cases h4 : walkN t 0 = some 1
       · rw [if_pos ((walkI_one t).2 h4), if_pos h4]
       · rw [if_neg (fun e => h4 ((walkI_one t).1 e)), if_neg h4]
     · rw [if_pos (by simpa using h3), if_neg (fun e => h3 e.2.2)]
theorem checkB_ok {t : List S80} (h : checkB t = 0) : 1 ≤ t.length ∧ t.length ≤ 12 ∧ (∀ o ∈ t, mayB o.f0 o.f1 = true) ∧ walkN t 0 = some 1 := by
 unfold checkB at h
 split at h
 · rename_i h1
   split at h
   · exact ⟨h1.1, h1.2.1, by simpa [mayAll] using h1.2.2, by assumption⟩
   · simp at h
 · simp at h
theorem walkN_app : ∀ (a b : List S80) (n : Nat), walkN (a ++ b) n = (walkN a n).bind (walkN b)
 | [], b, n => rfl
 | o :: os, b, n => by
  simp only [List.cons_append, walkN]
  split
  · rfl
  · exact walkN_app os b _
theorem take_sn (t : List S80) (i : Nat) (hi : i < t.length) : t.take (i + 1) = t.take i ++ [t.getD i z80] := by
 rw [List.take_add_one, List.getD_eq_getElem?_getD, List.getElem?_eq_getElem hi]; rfl
/-! the cells that a term names -/
def cellsL (t : List S80) : List Int := (t.filter fun o => o.f0 == 2).map fun o => o.f1
def cellsB (t : List S80) : List Int := if checkB t = 0 then Go.Lib.compact ((cellsL t).mergeSort fun x y => decide (x ≤ y)) else []
theorem Cells_l (t : List S80) (hm : t.length ≤ 12) (d : Nat) : ∀ (k i : Nat) (out : List Int), i ≤ t.length → t.length - i = d → d < k → out.length ≤ i →
 term_Cells.l0 k out t (t.length : Int) (i : Int) = some (Go.Lib.compact ((out ++ cellsL (t.drop i)).mergeSort fun x y => decide (x ≤ y))) := by
 induction d with
 | zero =>
  intro k i out hi hd hk ho
  obtain ⟨k, rfl⟩ : ∃ m, k = m + 1 := ⟨k - 1, by omega⟩
  rw [List.drop_of_length_le (by omega)]
  simp only [term_Cells.l0, slices_Sort.f, slices_Compact.f]
  rw [if_neg (by omega), if_pos (by omega)]
  simp only [Option.bind_some]
  rw [if_pos (by simp; omega)]
  simp [cellsL]
 | succ d ih =>
  intro k i out hi hd hk ho
  obtain ⟨k, rfl⟩ : ∃ m, k = m + 1 := ⟨k - 1, by omega⟩
  rw [drop_cons t z80 i (by omega)]
  simp only [term_Cells.l0]
  rw [if_pos (by omega), if_pos (by omega), if_pos (by omega), wrN (by omega)]
  rw [show rd_T80 t (i : Int) = t.getD i z80 from rfl]
  by_cases h2 : (t.getD i z80).f0 = 2
  · rw [if_pos h2, if_pos (by omega), ih k (i + 1) _ (by omega) (by omega) (by omega) (by simp; omega)]
    have : cellsL (t.getD i z80 :: t.drop (i + 1)) = (t.getD i z80).f1 :: cellsL (t.drop (i + 1)) := by
     unfold cellsL
     generalize t.getD i z80 = o at h2 ⊢
     simp [List.filter_cons, h2]
    rw [this]; simp
  · rw [if_neg h2, ih k (i + 1) _ (by omega) (by omega) (by omega) (by omega)]
    have : cellsL (t.getD i z80 :: t.drop (i + 1)) = cellsL (t.drop (i + 1)) := by
     unfold cellsL
     generalize t.getD i z80 = o at h2 ⊢
     simp [List.filter_cons, h2]
    rw [this]
theorem Cells_f (k : Nat) (t : List S80) (hk : 20 ≤ k) : term_Cells.f k t = some (cellsB t) := by
 unfold term_Cells.f cellsB
 rw [Check_f k t hk]
 simp only [Option.bind_some]
 by_cases h : checkB t = 0
 · rw [if_pos h, if_pos h]
   have := checkB_ok h
   exact Cells_l t (by omega) t.length k 0 [] (by omega) (by omega) (by omega) (by simp)
 · rw [if_neg h, if_neg h]
end Go.Proofs.Ytjnkpocfmpbpoaa.Sw
namespace Go.Proofs.Ytjnkpocfmpbpoaa.Sw
open Go.RowKit Go.Proofs.YtjnkpocfmpbpoaaW.PrintWords Go.Proofs.YtjnkpocfmpbpoaaW.PrintLast Go.Proofs.YtjnkpocfmpbpoaaW.PrintMore Go.Proofs.Ytjnkpocfmpbpoaa.Ho
set_option linter.unusedVariables false
set_option linter.unusedSimpArgs false
theorem mid_f (i j : Nat) (h : i + j < 4611686018427387904) : wrap64 ((IntKind.u64.wrap (wrap64 ((i : Int) + (j : Int)))) / 2) = (((i + j) / 2 : Nat) : Int) := by
 have e1 : wrap64 ((i : Int) + (j : Int)) = ((i + j : Nat) : Int) := by rw [wr (by omega) (by omega)]; omega
 have e2 : IntKind.u64.wrap ((i + j : Nat) : Int) = ((i + j : Nat) : Int) := by
  unfold IntKind.wrap
  simp only [IntKind.bits, IntKind.signed]
  first | omega | (simp; omega)
 rw [e1, e2, wr (by omega) (by omega)]; omega
theorem cmp_f (a b : Int) : cmp_Compare.f a b = some (if a < b then -1 else if a > b then 1 else 0) := by
 unfold cmp_Compare.f cmp_isNaN.f
 simp only [Option.bind_some, bne_self_eq_false, Bool.false_eq_true, if_false]
 split
 · rfl
 · split <;> rfl
/-- The first place whose version is not below v: below it all are below. -/
def Cut (p : List S26) (v : Int) (i : Nat) : Prop := i ≤ p.length ∧ (∀ j, j < i → (p.getD j z26).f0 < v) ∧ (∀ j, i ≤ j → j < p.length → v ≤ (p.getD j z26).f0)
theorem search_l (p : List S26) (v : Int) (hm : p.length < 1073741824) (hs : ∀ i j, i < j → j < p.length → (p.getD i z26).f0 < (p.getD j z26).f0) : ∀ (d k i j : Nat), i ≤ j → j ≤ p.length → j - i ≤ d → d + 1 < k → (∀ m, m < i → (p.getD m z26).f0 < v) → (∀ m, j ≤ m → m < p.length → v ≤ (p.getD m z26).f0) →
 ∃ c, Cut p v c ∧ slices_BinarySearchFunc_at_sleep_place_1.l0 k p v (p.length : Int) (i : Int) (j : Int) = some ((c : Int), decide (c < p.length ∧ (p.getD c z26).f0 = v)) := by
 intro d
 induction d with
 | zero =>
  intro k i j hij hj hd hk h1 h2
  obtain ⟨k, rfl⟩ : ∃ m, k = m + 1 := ⟨k - 1, by omega⟩
  have : i = j := by omega
  subst this
  refine ⟨i, ⟨hj, h1, h2⟩, ?_⟩
  simp only [slices_BinarySearchFunc_at_sleep_place_1.l0]
  rw [if_neg (by omega)]
  by_cases h : i < p.length
  · rw [if_pos (by omega), if_pos (by omega), if_pos (by omega)]
    unfold sleep_place_1.f
    rw [cmp_f, show rd_T26 p (i : Int) = p.getD i z26 from rfl]
    simp only [Option.bind_some]
    have := h2 i (Nat.le_refl _) h
    by_cases e : (p.getD i z26).f0 = v
    · rw [if_neg (by omega), if_neg (by omega), decide_eq_true ⟨h, e⟩]; rfl
    · rw [if_neg (by omega), if_pos (by omega), decide_eq_false (fun g => e g.2)]; rfl
  · rw [if_neg (by omega), decide_eq_false (fun g => h g.1)]
 | succ d ih =>
  intro k i j hij hj hd hk h1 h2
  by_cases e : i = j
  · exact ih k i j hij hj (by omega) (by omega) h1 h2
  obtain ⟨k, rfl⟩ : ∃ m, k = m + 1 := ⟨k - 1, by omega⟩
  have hmid : i ≤ (i + j) / 2 ∧ (i + j) / 2 < j := by omega
  simp only [slices_BinarySearchFunc_at_sleep_place_1.l0]
  rw [if_pos (by omega), mid_f i j (by omega)]
  generalize (i + j) / 2 = m at *
  rw [if_pos (by omega), if_pos (by omega), wrN (by omega)]
  unfold sleep_place_1.f
  rw [cmp_f, show rd_T26 p (m : Int) = p.getD m z26 from rfl]
  simp only [Option.bind_some]
  by_cases hlt : (p.getD m z26).f0 < v
  · rw [if_pos hlt, if_pos (by decide)]
    refine ih k (m + 1) j (by omega) hj (by omega) (by omega) (fun q hq => ?_) h2
    by_cases eq : q = m
    · rw [eq]; exact hlt
    · have := hs q m (by omega) (by omega); omega
  · rw [if_neg hlt, if_neg (by split <;> decide)]
    refine ih k i m (by omega) (by omega) (by omega) (by omega) h1 (fun q hq hq2 => ?_)
    by_cases eq : q = m
    · rw [eq]; omega
    · have := hs m q (by omega) hq2; omega
theorem search_f (k : Nat) (p : List S26) (v : Int) (hm : p.length < 1073741824) (hs : ∀ i j, i < j → j < p.length → (p.getD i z26).f0 < (p.getD j z26).f0) (hk : p.length + 1 < k) :
 ∃ c, Cut p v c ∧ slices_BinarySearchFunc_at_sleep_place_1.f k p v = some ((c : Int), decide (c < p.length ∧ (p.getD c z26).f0 = v)) := by
 unfold slices_BinarySearchFunc_at_sleep_place_1.f
 exact search_l p v hm hs p.length k 0 p.length (by omega) (by omega) (by omega) (by omega) (fun m hm => by omega) (fun m h1 h2 => by omega)
/-! ### who sleeps -/
abbrev Sp := S26
abbrev Wr := S62
theorem getD_in {α : Type} (l : List α) (z : α) (i : Nat) (h : i < l.length) : l.getD i z ∈ l := by
 rw [List.getD_eq_getElem?_getD, List.getElem?_eq_getElem h]; exact List.getElem_mem _
theorem take_snG {α : Type} (l : List α) (z : α) (i : Nat) (hi : i < l.length) : l.take (i + 1) = l.take i ++ [l.getD i z] := by
 rw [List.take_add_one, List.getD_eq_getElem?_getD, List.getElem?_eq_getElem hi]; rfl
theorem mem_takeG {α : Type} (l : List α) (z : α) (i : Nat) (x : α) (hi : i ≤ l.length) (h : x ∈ l.take i) : ∃ m, m < i ∧ l.getD m z = x := by
 obtain ⟨m, hm, rfl⟩ := List.mem_iff_getElem.1 h
 rw [List.length_take] at hm
 refine ⟨m, by omega, ?_⟩
 rw [List.getD_eq_getElem?_getD, List.getElem?_eq_getElem (by omega), List.getElem_take]; rfl
def tickB (a : Int) : Bool := decide (0 ≤ a ∧ a ≤ 2147483647)
theorem tick_f (a : Int) : tick_Right.f a = some (tickB a) := by
 unfold tick_Right.f tickB
 by_cases h : a ≥ 0
 · rw [if_pos h]; congr 1; rw [decide_eq_decide]; omega
 · rw [if_neg h]; congr 1; symm; rw [decide_eq_false_iff_not]; omega
theorem Equal_l (a b : List Int) (hl : a.length = b.length) (hm : a.length < 4398046511104) (d : Nat) : ∀ (k i : Nat), i ≤ a.length → a.length - i = d → d < k → slices_Equal.l0 k a b (a.length : Int) (i : Int) = some (decide (a.drop i = b.drop i)) := by
 induction d with
 | zero =>
  intro k i hi hd hk
  obtain ⟨k, rfl⟩ : ∃ m, k = m + 1 := ⟨k - 1, by omega⟩
  simp only [slices_Equal.l0]
  rw [if_neg (by omega), List.drop_of_length_le (by omega), List.drop_of_length_le (by omega)]; rfl
 | succ d ih =>
  intro k i hi hd hk
  obtain ⟨k, rfl⟩ : ∃ m, k = m + 1 := ⟨k - 1, by omega⟩
  simp only [slices_Equal.l0]
  rw [if_pos (by omega), if_pos (by omega), if_pos (by omega), if_pos (by omega), wrN (by omega), ih k (i + 1) (by omega) (by omega) (by omega), drop_cons a 0 i (by omega), drop_cons b 0 i (by omega), show rd a (i : Int) = a.getD i 0 from rfl, show rd b (i : Int) = b.getD i 0 from rfl]
  by_cases e : a.getD i 0 = b.getD i 0
  · rw [if_pos e, e]; congr 1; rw [decide_eq_decide]; simp
  · rw [if_neg e]; congr 1; symm; rw [decide_eq_false_iff_not]; intro h; injection h with h _; exact e h
theorem Equal_f (k : Nat) (a b : List Int) (hm : a.length < 4398046511104) (hk : a.length < k) : slices_Equal.f k a b = some (decide (a = b)) := by
 unfold slices_Equal.f
 by_cases hl : a.length = b.length
 · rw [if_pos (by omega)]
   have := Equal_l a b hl hm a.length k 0 (by omega) (by omega) (by omega)
   exact this
 · rw [if_neg (by omega)]; congr 1; symm; rw [decide_eq_false_iff_not]; intro h; exact hl (by rw [h])
theorem SCells_l (w : List Wr) (hm : w.length < 4398046511104) (d : Nat) : ∀ (k i : Nat), i ≤ w.length → w.length - i = d → d < k → sleep_Sleeper_cells.l0 k ((w.take i).map fun x => x.f0) w (w.length : Int) (i : Int) = some (w.map fun x => x.f0) := by
 induction d with
 | zero =>
  intro k i hi hd hk
  obtain ⟨k, rfl⟩ : ∃ m, k = m + 1 := ⟨k - 1, by omega⟩
  simp only [sleep_Sleeper_cells.l0]
  rw [if_neg (by omega), List.take_of_length_le (by omega)]
 | succ d ih =>
  intro k i hi hd hk
  obtain ⟨k, rfl⟩ : ∃ m, k = m + 1 := ⟨k - 1, by omega⟩
  have next := ih k (i + 1) (by omega) (by omega) (by omega)
  rw [take_snG w z62 i (by omega), List.map_append] at next
  simp only [sleep_Sleeper_cells.l0]
  rw [if_pos (by omega), if_pos (by omega), if_pos (by omega), if_pos (by rw [List.length_map, List.length_take]; omega), wrN (by omega), show rd_T62 w (i : Int) = w.getD i z62 from rfl]
  exact next
theorem SCells_f (k : Nat) (a b c : Int) (w : List Wr) (t : List S80) (hm : w.length < 4398046511104) (hk : w.length < k) : sleep_Sleeper_cells.f k a b c w t = some (w.map fun x => x.f0) := by
 unfold sleep_Sleeper_cells.f
 exact SCells_l w hm w.length k 0 (by omega) (by omega) (by omega)
def okW (w : List Wr) (i : Nat) : Prop := (0 ≤ (w.getD i z62).f0 ∧ (w.getD i z62).f0 < 64) ∧ inR (w.getD i z62).f1 = true ∧ (0 < i → (w.getD (i - 1) z62).f0 < (w.getD i z62).f0)
instance (w : List Wr) (i : Nat) : Decidable (okW w i) := by unfold okW; infer_instance
def watchB (w : List Wr) : Bool := decide (w.length ≤ 24 ∧ ∀ i, i < w.length → okW w i)
theorem watchB_iff (w : List Wr) : watchB w = true ↔ w.length ≤ 24 ∧ ∀ i, i < w.length → okW w i := by unfold watchB; rw [decide_eq_true_eq]
theorem watch_l (w : List Wr) (hm : w.length < 4398046511104) (d : Nat) : ∀ (k i : Nat), i ≤ w.length → w.length - i = d → d < k → (∀ j, j < i → okW w j) → sleep_watches.l0 k w w (w.length : Int) (i : Int) = some (watchB w) := by
 induction d with
 | zero =>
  intro k i hi hd hk h
  obtain ⟨k, rfl⟩ : ∃ m, k = m + 1 := ⟨k - 1, by omega⟩
  simp only [sleep_watches.l0]
  rw [if_neg (by omega)]
  unfold watchB
  congr 1
  rw [decide_eq_decide]
  exact ⟨fun g => ⟨by omega, fun j hj => h j (by omega)⟩, fun g => by omega⟩
 | succ d ih =>
  intro k i hi hd hk h
  obtain ⟨k, rfl⟩ : ∃ m, k = m + 1 := ⟨k - 1, by omega⟩
  have no : ¬ okW w i → some false = some (watchB w) := fun g => by
   unfold watchB
   rw [decide_eq_false (fun e => g (e.2 i (by omega)))]
  have yes : okW w i → sleep_watches.l0 k w w (w.length : Int) ((i + 1 : Nat) : Int) = some (watchB w) := fun g => by
   refine ih k (i + 1) (by omega) (by omega) (by omega) fun j hj => ?_
   by_cases ej : j = i
   · rw [ej]; exact g
   · exact h j (by omega)
  simp only [sleep_watches.l0]
  rw [if_pos (by omega), if_pos (by omega), if_pos (by omega), right_f, wrN (by omega), show rd_T62 w (i : Int) = w.getD i z62 from rfl]
  by_cases a0 : (w.getD i z62).f0 < 0
  · rw [if_pos a0]; exact no fun g => by have := g.1.1; omega
  rw [if_neg a0]
  by_cases a1 : (w.getD i z62).f0 ≥ 64
  · rw [if_pos a1]; exact no fun g => by have := g.1.2; omega
  rw [if_neg a1, Option.bind_some]
  by_cases a2 : inR (w.getD i z62).f1 = true
  · rw [if_pos a2]
    by_cases hz : i = 0
    · rw [if_neg (by omega)]
      exact yes ⟨⟨by omega, by omega⟩, a2, fun g => by omega⟩
    · have ew : wrap64 ((i : Int) - 1) = ((i - 1 : Nat) : Int) := by rw [wr (by omega) (by omega)]; omega
      rw [if_pos (by omega), ew, if_pos (by omega), if_pos (by omega), show rd_T62 w ((i - 1 : Nat) : Int) = w.getD (i - 1) z62 from rfl]
      by_cases a4 : (w.getD (i - 1) z62).f0 ≥ (w.getD i z62).f0
      · rw [if_pos a4]; exact no fun g => by have := g.2.2 (by omega); omega
      · rw [if_neg a4]; exact yes ⟨⟨by omega, by omega⟩, a2, fun _ => by omega⟩
  · rw [if_neg a2]; exact no fun g => a2 g.2.1
theorem watch_f (k : Nat) (w : List Wr) (hm : w.length < 4398046511104) (hk : w.length < k) : sleep_watches.f k w = some (watchB w) := by
 unfold sleep_watches.f
 exact watch_l w hm w.length k 0 (by omega) (by omega) (by omega) (fun j hj => by omega)
def maySp (s : Sp) : Bool := decide (1 ≤ s.f0 ∧ s.f0 ≤ 8) && (tickB s.f2 && (watchB s.f3 && (if s.f1 = 3 then (if checkB s.f4 = 0 then (if (s.f4.any fun o => o.f0 == 3) = true then false else decide ((s.f3.map fun x => x.f0) = cellsB s.f4)) else false) else if s.f1 = 1 then s.f4.length == 0 else if s.f1 = 2 then s.f4.length == 0 else false)))
theorem maySp_f (k : Nat) (s : Sp) (hw : s.f3.length ≤ 1000) (hk : 1100 < k) : sleep_Sleeper_may.f k s.f0 s.f1 s.f2 s.f3 s.f4 = some (maySp s) := by
 obtain ⟨k, rfl⟩ : ∃ m, k = m + 1 := ⟨k - 1, by omega⟩
 obtain ⟨who, mode, til, w, t⟩ := s
 have hw' : w.length ≤ 1000 := hw
 unfold sleep_Sleeper_may.f maySp
 dsimp only
 have bad : sleep_Sleeper_may.j0 (k + 1) true who mode til w t = some false := by
  simp only [sleep_Sleeper_may.j0]; rw [if_pos trivial]
 by_cases h1 : who < 1
 · rw [if_pos h1, bad, decide_eq_false (show ¬ (1 ≤ who ∧ who ≤ 8) by omega)]; rfl
 rw [if_neg h1]
 by_cases h2 : who > 8
 · rw [if_pos h2, bad, decide_eq_false (show ¬ (1 ≤ who ∧ who ≤ 8) by omega)]; rfl
 rw [if_neg h2, tick_f, Option.bind_some, decide_eq_true (show 1 ≤ who ∧ who ≤ 8 by omega), Bool.true_and]
 by_cases h3 : tickB til = true
 · rw [if_pos h3, watch_f (k + 1) w (by omega) (by omega), Option.bind_some, h3, Bool.true_and]
   by_cases h4 : watchB w = true
   · rw [h4, Bool.true_and]
     simp only [sleep_Sleeper_may.j0]
     rw [if_neg (show ¬ (!true) = true by decide)]
     by_cases m3 : mode = 3
     · rw [if_pos m3, if_pos m3]
       unfold any_at_sleep_Sleeper_may_1.f
       rw [anyF_T (f := fun x : S80 => sleep_Sleeper_may_1.f x.f0 x.f1) (p := fun o => o.f0 == 3) t (fun x _ => rfl), Option.bind_some, Check_f k t (by omega), Option.bind_some]
       by_cases hc : checkB t = 0
       · rw [if_pos hc, if_pos hc]
         by_cases hn : (t.any fun o => o.f0 == 3) = true
         · rw [if_pos hn, if_pos hn]
         · rw [if_neg hn, if_neg hn, SCells_f k who mode til w t (by omega) (by omega), Option.bind_some, Cells_f k t (by omega), Option.bind_some, Equal_f k _ _ (by rw [List.length_map]; omega) (by rw [List.length_map]; omega)]; rfl
       · rw [if_neg hc, if_neg hc]
     · rw [if_neg m3, if_neg m3]
       have el : ((t.length : Int) == 0) = (t.length == 0) := by
        rw [Bool.eq_iff_iff, beq_iff_eq, beq_iff_eq]; omega
       by_cases m1 : mode = 1
       · rw [if_pos m1, if_pos m1, el]
       · rw [if_neg m1, if_neg m1]
         by_cases m2 : mode = 2
         · rw [if_pos m2, if_pos m2, el]
         · rw [if_neg m2, if_neg m2]
   · rw [Bool.eq_false_iff.2 h4]
     exact bad
 · rw [if_neg h3, bad, Bool.eq_false_iff.2 h3]; rfl
abbrev Lt (a b : Sp) : Prop := a.f0 < b.f0
abbrev RS (l : List Sp) : Prop := (∀ x ∈ l, maySp x = true) ∧ l.Pairwise Lt
def rightS (l : List Sp) : Bool := decide (RS l)
theorem rightS_iff (l : List Sp) : rightS l = true ↔ RS l := by unfold rightS; rw [decide_eq_true_eq]
theorem rightS_no {l : List Sp} (h : ¬ RS l) : rightS l = false := by unfold rightS; rw [decide_eq_false_iff_not]; exact h
theorem lt_at {l : List Sp} (h : l.Pairwise Lt) (i j : Nat) (hij : i < j) (hj : j < l.length) : (l.getD i z26).f0 < (l.getD j z26).f0 := by
 have := List.pairwise_iff_getElem.1 h i j (by omega) hj hij
 rw [List.getD_eq_getElem?_getD, List.getElem?_eq_getElem (by omega), List.getD_eq_getElem?_getD, List.getElem?_eq_getElem hj]
 exact this
theorem RightS_l (l : List Sp) (hm : l.length < 4398046511104) (hw : ∀ x ∈ l, x.f3.length ≤ 1000) (d : Nat) : ∀ (k i : Nat), i ≤ l.length → l.length - i = d → d + 1200 < k → (∀ x ∈ l.take i, maySp x = true) → (l.take i).Pairwise Lt →
 sleep_Right.l0 k l l (l.length : Int) (i : Int) = some (rightS l) := by
 induction d with
 | zero =>
  intro k i hi hd hk h1 h2
  obtain ⟨k, rfl⟩ : ∃ m, k = m + 1 := ⟨k - 1, by omega⟩
  rw [List.take_of_length_le (by omega)] at h1 h2
  simp only [sleep_Right.l0]
  rw [if_neg (by omega), (rightS_iff l).2 ⟨h1, h2⟩]
 | succ d ih =>
  intro k i hi hd hk h1 h2
  obtain ⟨k, rfl⟩ : ∃ m, k = m + 1 := ⟨k - 1, by omega⟩
  have hmem := getD_in l z26 i (by omega)
  have hs := take_snG l z26 i (by omega)
  have yes : maySp (l.getD i z26) = true → (∀ x ∈ l.take i, Lt x (l.getD i z26)) → sleep_Right.l0 k l l (l.length : Int) ((i + 1 : Nat) : Int) = some (rightS l) := fun g1 g2 => by
   refine ih k (i + 1) (by omega) (by omega) (by omega) (fun x hx => ?_) ?_
   · rw [hs] at hx
     rcases List.mem_append.1 hx with hx | hx
     · exact h1 x hx
     · rw [List.mem_singleton.1 hx]; exact g1
   · rw [hs, List.pairwise_append]
     exact ⟨h2, List.pairwise_singleton _ _, fun x hx y hy => by rw [List.mem_singleton.1 hy]; exact g2 x hx⟩
  simp only [sleep_Right.l0]
  rw [if_pos (by omega), if_pos (by omega), if_pos (by omega), show rd_T26 l (i : Int) = l.getD i z26 from rfl, maySp_f k _ (hw _ hmem) (by omega), wrN (by omega), Option.bind_some]
  by_cases a1 : maySp (l.getD i z26) = true
  · rw [if_pos a1]
    by_cases hz : i = 0
    · rw [if_neg (by omega)]
      exact yes a1 (fun x hx => by rw [hz] at hx; simp at hx)
    · have ew : wrap64 ((i : Int) - 1) = ((i - 1 : Nat) : Int) := by rw [wr (by omega) (by omega)]; omega
      rw [if_pos (by omega), ew, if_pos (by omega), if_pos (by omega), show rd_T26 l ((i - 1 : Nat) : Int) = l.getD (i - 1) z26 from rfl]
      by_cases a4 : (l.getD (i - 1) z26).f0 ≥ (l.getD i z26).f0
      · rw [if_pos a4, rightS_no]
        intro g
        have := lt_at g.2 (i - 1) i (by omega) (by omega)
        omega
      · rw [if_neg a4]
        refine yes a1 fun x hx => ?_
        obtain ⟨m, hm', rfl⟩ := mem_takeG l z26 i x (by omega) hx
        by_cases e : m = i - 1
        · rw [e]; show _ < _; omega
        · have hlt : (l.getD m z26).f0 < (l.getD (i - 1) z26).f0 := by
           have := lt_at h2 m (i - 1) (by omega) (by rw [List.length_take]; omega)
           have tk : ∀ q, q < i → (l.take i).getD q z26 = l.getD q z26 := fun q hq => by
            rw [List.getD_eq_getElem?_getD, List.getD_eq_getElem?_getD, List.getElem?_take, if_pos hq]
           rwa [tk m hm', tk (i - 1) (by omega)] at this
          show _ < _
          omega
  · rw [if_neg a1, rightS_no (fun g => a1 (g.1 _ hmem))]
theorem RightS_f (k : Nat) (l : List Sp) (hm : l.length < 4398046511104) (hw : ∀ x ∈ l, x.f3.length ≤ 1000) (hk : l.length + 1200 < k) : sleep_Right.f k l = some (rightS l) := by
 unfold sleep_Right.f
 exact RightS_l l hm hw l.length k 0 (by omega) (by omega) (by omega) (by simp) (by simp)
theorem place_f (k : Nat) (l : List Sp) (w : Int) (hm : l.length < 1073741824) (h : l.Pairwise Lt) (hk : l.length + 1 < k) :
 ∃ c, Cut l w c ∧ sleep_place.f k l w = some ((c : Int), decide (c < l.length ∧ (l.getD c z26).f0 = w)) := by
 obtain ⟨c, h1, h2⟩ := search_f k l w hm (fun i j hij hj => lt_at h i j hij hj) hk
 exact ⟨c, h1, by unfold sleep_place.f; rw [h2]; rfl⟩
theorem awake15 (k : Nat) (hk : 2100 ≤ k) : l_15_awake.f k = some true :=
 at_rounds (g := l_15_awake.f) l_15_awake.mono (Nat.le_trans (by decide : 80 ≤ 2100) hk) (by decide +kernel)
abbrev FewS (l : List Sp) : Prop := l.length ≤ 30 ∧ ∀ x ∈ l, x.f3.length ≤ 40 ∧ x.f4.length ≤ 20
theorem RightF_f (k : Nat) (l : List Sp) (h : FewS l) (hk : 1300 < k) : sleep_Right.f k l = some (rightS l) :=
 RightS_f k l (by have := h.1; omega) (fun x hx => by have := (h.2 x hx).1; omega) (by have := h.1; omega)
theorem Small15_l (l : List Sp) (hm : l.length < 4398046511104) (d : Nat) : ∀ (k i : Nat), i ≤ l.length → l.length - i = d → d < k → (∀ x ∈ l.take i, x.f3.length ≤ 40 ∧ x.f4.length ≤ 20) →
 ∃ b : Int, l_15_Small.l0 k l l (l.length : Int) (i : Int) = some b ∧ (b < 0 ∨ (0 ≤ b ∧ l.length ≤ 20 ∧ ∀ x ∈ l, x.f3.length ≤ 40 ∧ x.f4.length ≤ 20)) := by
 induction d with
 | zero =>
  intro k i hi hd hk h
  obtain ⟨k, rfl⟩ : ∃ m, k = m + 1 := ⟨k - 1, by omega⟩
  rw [List.take_of_length_le (by omega)] at h
  simp only [l_15_Small.l0]
  rw [if_neg (by omega)]
  by_cases h2 : (l.length : Int) > 20
  · rw [if_pos h2]; exact ⟨-1, rfl, .inl (by decide)⟩
  · rw [if_neg h2]; exact ⟨_, rfl, .inr ⟨by omega, by omega, h⟩⟩
 | succ d ih =>
  intro k i hi hd hk h
  obtain ⟨k, rfl⟩ : ∃ m, k = m + 1 := ⟨k - 1, by omega⟩
  simp only [l_15_Small.l0]
  rw [if_pos (by omega), if_pos (by omega), if_pos (by omega), wrN (by omega), show rd_T26 l (i : Int) = l.getD i z26 from rfl]
  by_cases h1 : ((l.getD i z26).f3.length : Int) > 40
  · rw [if_pos h1]; exact ⟨-1, rfl, .inl (by decide)⟩
  rw [if_neg h1]
  by_cases h2 : ((l.getD i z26).f4.length : Int) > 20
  · rw [if_pos h2]; exact ⟨-1, rfl, .inl (by decide)⟩
  rw [if_neg h2]
  refine ih k (i + 1) (by omega) (by omega) (by omega) fun x hx => ?_
  rw [take_snG l z26 i (by omega)] at hx
  rcases List.mem_append.1 hx with hx | hx
  · exact h x hx
  · rw [List.mem_singleton.1 hx]; omega
theorem Small15_f (k : Nat) (l : List Sp) (hm : l.length < 4398046511104) (hk : l.length < k) : ∃ b : Int, l_15_Small.f k l = some b ∧ (b < 0 ∨ (0 ≤ b ∧ l.length ≤ 20 ∧ ∀ x ∈ l, x.f3.length ≤ 40 ∧ x.f4.length ≤ 20)) := by
 unfold l_15_Small.f
 exact Small15_l l hm l.length k 0 (by omega) (by omega) (by omega) (by simp)
end Go.Proofs.Ytjnkpocfmpbpoaa.Sw
namespace Go.Proofs.Ytjnkpocfmpbpoaa.Sw
open Go.RowKit Go.Proofs.YtjnkpocfmpbpoaaW.PrintWords Go.Proofs.YtjnkpocfmpbpoaaW.PrintLast Go.Proofs.YtjnkpocfmpbpoaaW.PrintMore Go.Proofs.Ytjnkpocfmpbpoaa.Ho
set_option linter.unusedVariables false
set_option linter.unusedSimpArgs false
/-! ### the document's sleepers, and one's own list -/
abbrev TOp := S80
abbrev ROp := S117
abbrev RSp := S39
def refO (o : TOp) : ROp := ⟨o.f0, o.f1⟩
def refSp (s : Sp) : RSp := ⟨s.f0, s.f1, s.f2, s.f3, s.f4.map refO⟩
theorem TRef_l (t : List TOp) (hm : t.length < 4398046511104) (d : Nat) : ∀ (k i : Nat), i ≤ t.length → t.length - i = d → d < k → l_07_Ref.l0 k ((t.take i).map refO) t (t.length : Int) (i : Int) = some (t.map refO) := by
 induction d with
 | zero =>
  intro k i hi hd hk
  obtain ⟨k, rfl⟩ : ∃ m, k = m + 1 := ⟨k - 1, by omega⟩
  simp only [l_07_Ref.l0]
  rw [if_neg (by omega), List.take_of_length_le (by omega)]
 | succ d ih =>
  intro k i hi hd hk
  obtain ⟨k, rfl⟩ : ∃ m, k = m + 1 := ⟨k - 1, by omega⟩
  have next := ih k (i + 1) (by omega) (by omega) (by omega)
  rw [take_snG t z80 i (by omega), List.map_append] at next
  simp only [l_07_Ref.l0]
  rw [if_pos (by omega), if_pos (by omega), if_pos (by omega), if_pos (by rw [List.length_map, List.length_take]; omega), wrN (by omega), show rd_T80 t (i : Int) = t.getD i z80 from rfl]
  exact next
theorem SRef_f (k : Nat) (s : Sp) (hm : s.f4.length ≤ 1000) (hk : 1000 < k) : l_15_Ref.f k s.f0 s.f1 s.f2 s.f3 s.f4 = some (s.f0, s.f1, s.f2, s.f3, s.f4.map refO) := by
 unfold l_15_Ref.f l_07_Ref.f
 have := TRef_l s.f4 (by omega) s.f4.length k 0 (by omega) (by omega) (by omega)
 have e : l_07_Ref.l0 k ([] : List ROp) s.f4 (s.f4.length : Int) 0 = some (s.f4.map refO) := this
 rw [e]; rfl
theorem SRefs_l (l : List Sp) (hm : l.length < 1073741824) (ha : ∀ x ∈ l, x.f4.length ≤ 1000) (d : Nat) : ∀ (k i : Nat), i ≤ l.length → l.length - i = d → d + 1001 < k → l_15_Refs.l0 k ((l.take i).map refSp) l (l.length : Int) (i : Int) = some (l.map refSp) := by
 induction d with
 | zero =>
  intro k i hi hd hk
  obtain ⟨k, rfl⟩ : ∃ m, k = m + 1 := ⟨k - 1, by omega⟩
  simp only [l_15_Refs.l0]
  rw [if_neg (by omega), List.take_of_length_le (by omega)]
 | succ d ih =>
  intro k i hi hd hk
  obtain ⟨k, rfl⟩ : ∃ m, k = m + 1 := ⟨k - 1, by omega⟩
  have next := ih k (i + 1) (by omega) (by omega) (by omega)
  rw [take_snG l z26 i (by omega), List.map_append] at next
  have hmem := ha _ (getD_in l z26 i (by omega))
  simp only [l_15_Refs.l0]
  rw [if_pos (by omega), if_pos (by omega), if_pos (by omega), show rd_T26 l (i : Int) = l.getD i z26 from rfl, SRef_f k _ hmem (by omega), Option.bind_some, if_pos (by rw [List.length_map, List.length_take]; omega), wrN (by omega)]
  exact next
theorem SRefs_f (k : Nat) (l : List Sp) (hm : l.length < 1073741824) (ha : ∀ x ∈ l, x.f4.length ≤ 1000) (hk : l.length + 1001 < k) : l_15_Refs.f k l = some (l.map refSp) := by
 unfold l_15_Refs.f
 exact SRefs_l l hm ha l.length k 0 (by omega) (by omega) (by omega)
theorem TSame_l (t : List ROp) (hm : t.length < 4398046511104) (d : Nat) : ∀ (k i : Nat), i ≤ t.length → t.length - i = d → d < k → r_07_Same.l0 k t t (i : Int) = some true := by
 induction d with
 | zero =>
  intro k i hi hd hk
  obtain ⟨k, rfl⟩ : ∃ m, k = m + 1 := ⟨k - 1, by omega⟩
  simp only [r_07_Same.l0]
  rw [if_neg (by omega)]
 | succ d ih =>
  intro k i hi hd hk
  obtain ⟨k, rfl⟩ : ∃ m, k = m + 1 := ⟨k - 1, by omega⟩
  simp only [r_07_Same.l0]
  rw [if_pos (by omega), if_pos (by omega), if_pos (by omega), if_neg (by simp), wrN (by omega)]
  exact ih k (i + 1) (by omega) (by omega) (by omega)
theorem One2_l (a b c : Int) (w : List Wr) (t : List ROp) (hm : w.length < 4398046511104) (d : Nat) : ∀ (k i : Nat), i ≤ w.length → w.length - i = d → d < k → r_15_One2.l0 k (i : Int) a b c w t a b c w t = some true := by
 induction d with
 | zero =>
  intro k i hi hd hk
  obtain ⟨k, rfl⟩ : ∃ m, k = m + 1 := ⟨k - 1, by omega⟩
  simp only [r_15_One2.l0]
  rw [if_neg (by omega)]
 | succ d ih =>
  intro k i hi hd hk
  obtain ⟨k, rfl⟩ : ∃ m, k = m + 1 := ⟨k - 1, by omega⟩
  simp only [r_15_One2.l0]
  rw [if_pos (by omega), if_pos (by omega), if_pos (by omega), if_neg (by simp), wrN (by omega)]
  exact ih k (i + 1) (by omega) (by omega) (by omega)
theorem One2_f (k : Nat) (a b c : Int) (w : List Wr) (t : List ROp) (hw : w.length ≤ 1000) (ht : t.length ≤ 1000) (hk : 1001 < k) : r_15_One2.f k a b c w t a b c w t = some true := by
 obtain ⟨k, rfl⟩ : ∃ m, k = m + 1 := ⟨k - 1, by omega⟩
 unfold r_15_One2.f r_07_Same.f
 have h1 := TSame_l t (by omega) t.length (k + 1) 0 (by omega) (by omega) (by omega)
 rw [show ((0 : Nat) : Int) = 0 from rfl] at h1
 rw [if_pos rfl, h1, Option.bind_some, if_pos rfl, if_pos rfl, if_pos rfl, if_pos rfl, bne_self_eq_false]
 simp only [r_15_One2.j0]
 rw [if_neg (by decide)]
 exact One2_l a b c w t (by omega) w.length k 0 (by omega) (by omega) (by omega)
theorem Same15_l (x : List RSp) (hm : x.length < 1073741824) (ha : ∀ s ∈ x, s.f3.length ≤ 1000 ∧ s.f4.length ≤ 1000) (d : Nat) : ∀ (k i : Nat), i ≤ x.length → x.length - i = d → d + 1002 < k → r_15_Same.l0 k x x (i : Int) = some true := by
 induction d with
 | zero =>
  intro k i hi hd hk
  obtain ⟨k, rfl⟩ : ∃ m, k = m + 1 := ⟨k - 1, by omega⟩
  simp only [r_15_Same.l0]
  rw [if_neg (by omega)]
 | succ d ih =>
  intro k i hi hd hk
  obtain ⟨k, rfl⟩ : ∃ m, k = m + 1 := ⟨k - 1, by omega⟩
  have hmem := ha _ (getD_in x z39 i (by omega))
  simp only [r_15_Same.l0]
  rw [if_pos (by omega), if_pos (by omega), if_pos (by omega), show rd_T39 x (i : Int) = x.getD i z39 from rfl, One2_f k _ _ _ _ _ hmem.1 hmem.2 (by omega), Option.bind_some, if_pos rfl, wrN (by omega)]
  exact ih k (i + 1) (by omega) (by omega) (by omega)
theorem SameS_f (k : Nat) (l : List Sp) (h : FewS l) (hk : 1100 < k) : r_15_Same.f k (l.map refSp) (l.map refSp) = some true := by
 unfold r_15_Same.f
 rw [if_pos rfl]
 have hl := h.1
 have := Same15_l (l.map refSp) (by rw [List.length_map]; omega) (fun s hs => by
  obtain ⟨x, hx, rfl⟩ := List.mem_map.1 hs
  have := h.2 x hx
  show x.f3.length ≤ 1000 ∧ (x.f4.map refO).length ≤ 1000
  rw [List.length_map]; omega) (l.map refSp).length k 0 (by omega) (by omega) (by rw [List.length_map]; omega)
 exact this
theorem RefsF_f (k : Nat) (l : List Sp) (h : FewS l) (hk : 1100 < k) : l_15_Refs.f k l = some (l.map refSp) :=
 SRefs_f k l (by have := h.1; omega) (fun x hx => by have := (h.2 x hx).2; omega) (by have := h.1; omega)
theorem CloneS_f (l : List Sp) (hl : l.length < 1073741824) : slices_Clone.f l = some l := by
 unfold slices_Clone.f
 simp only [Option.bind_some, List.length_nil, Nat.zero_add, List.nil_append]
 rw [if_pos (by omega)]
/-! one more -/
theorem cut_in {l : List Sp} (h : l.Pairwise Lt) {w : Int} {c i : Nat} (hc : Cut l w c) (hi : i < l.length) (e : (l.getD i z26).f0 = w) : c = i := by
 obtain ⟨h1, h2, h3⟩ := hc
 rcases Nat.lt_trichotomy c i with q | q | q
 · have := h3 c (Nat.le_refl _) (by omega)
   have := lt_at h c i q hi
   omega
 · exact q
 · have := h2 i q; omega
theorem mem_idx {l : List Sp} {x : Sp} (hx : x ∈ l) : ∃ i, i < l.length ∧ l.getD i z26 = x := by
 obtain ⟨i, hi, rfl⟩ := List.mem_iff_getElem.1 hx
 exact ⟨i, hi, by rw [List.getD_eq_getElem?_getD, List.getElem?_eq_getElem hi]; rfl⟩
theorem place_no (k : Nat) {l : List Sp} {w : Int} (hm : l.length < 1073741824) (h : l.Pairwise Lt) (hk : l.length + 1 < k) (hno : ∀ x ∈ l, x.f0 ≠ w) : ∃ c, Cut l w c ∧ sleep_place.f k l w = some ((c : Int), false) := by
 obtain ⟨c, hc, e⟩ := place_f k l w hm h hk
 refine ⟨c, hc, ?_⟩
 rw [e, decide_eq_false]
 intro g
 exact hno _ (getD_in l z26 c g.1) g.2
theorem place_yes (k : Nat) {l : List Sp} {i : Nat} (hm : l.length < 1073741824) (h : l.Pairwise Lt) (hk : l.length + 1 < k) (hi : i < l.length) : sleep_place.f k l (l.getD i z26).f0 = some ((i : Int), true) := by
 obtain ⟨c, hc, e⟩ := place_f k l (l.getD i z26).f0 hm h hk
 have := cut_in h hc hi rfl
 subst this
 rw [e, decide_eq_true ⟨hi, rfl⟩]
/-! ### found, and dropped -/
theorem Find_f (k : Nat) (l : List Sp) (hl : FewS l) (hR : RS l) (i : Nat) (hi : i < l.length) (hk : 1400 < k) :
 sleep_Find.f k l (l.getD i z26).f0 = some ((l.getD i z26).f0, (l.getD i z26).f1, (l.getD i z26).f2, (l.getD i z26).f3, (l.getD i z26).f4, 0) := by
 have hlen := hl.1
 unfold sleep_Find.f
 rw [RightF_f _ l hl (by omega), Option.bind_some, if_pos ((rightS_iff l).2 hR), place_yes k (by omega) hR.2 (by omega) hi, Option.bind_some, if_pos rfl, if_pos (by omega), if_pos (by omega)]
 rfl
def dropL (l : List Sp) : List Sp → List Int → List Sp × Int
 | x, [] => (x, 0)
 | x, w :: ws => if (x.any fun s => s.f0 == w) = true then dropL l (x.filter fun s => s.f0 != w) ws else (l, 3)
theorem erase_filter : ∀ (x : List Sp), x.Pairwise Lt → ∀ i, i < x.length → x.eraseIdx i = x.filter fun s => s.f0 != (x.getD i z26).f0
 | [], _, i, hi => absurd hi (by simp)
 | a :: t, h, 0, _ => by
  rw [List.pairwise_cons] at h
  show t = _
  rw [List.filter_cons, if_neg (by simp)]
  symm
  rw [List.filter_eq_self]
  intro y hy
  have := h.1 y hy
  have h2 : y.f0 ≠ a.f0 := fun e => by have : a.f0 < y.f0 := this; omega
  simpa using h2
 | a :: t, h, i + 1, hi => by
  rw [List.pairwise_cons] at h
  have hi' : i < t.length := by simpa using hi
  have e : (a :: t).getD (i + 1) z26 = t.getD i z26 := rfl
  rw [e, List.filter_cons, if_pos]
  · show a :: t.eraseIdx i = _
    rw [erase_filter t h.2 i hi']
  · have := h.1 _ (getD_in t z26 i hi')
    have h2 : a.f0 ≠ (t.getD i z26).f0 := fun e => by have : a.f0 < (t.getD i z26).f0 := this; omega
    simpa using h2
theorem few_subS {l l' : List Sp} (h : FewS l) (hs : l'.Sublist l) : FewS l' := ⟨Nat.le_trans hs.length_le h.1, fun x hx => h.2 x (hs.subset hx)⟩
theorem Drop_l (l : List Sp) (ws : List Int) (hm : ws.length < 1073741824) (d : Nat) : ∀ (k i : Nat) (x : List Sp), i ≤ ws.length → ws.length - i = d → d + 100 < k → FewS x → x.Pairwise Lt →
 sleep_Drop.l0 k l x ws (ws.length : Int) (i : Int) = some (dropL l x (ws.drop i)) := by
 induction d with
 | zero =>
  intro k i x hi hd hk hx hp
  obtain ⟨k, rfl⟩ : ∃ m, k = m + 1 := ⟨k - 1, by omega⟩
  simp only [sleep_Drop.l0]
  rw [if_neg (by omega), List.drop_of_length_le (by omega)]; rfl
 | succ d ih =>
  intro k i x hi hd hk hx hp
  obtain ⟨k, rfl⟩ : ∃ m, k = m + 1 := ⟨k - 1, by omega⟩
  have hlen := hx.1
  simp only [sleep_Drop.l0]
  rw [if_pos (by omega), if_pos (by omega), if_pos (by omega), drop_cons ws 0 i (by omega), show rd ws (i : Int) = ws.getD i 0 from rfl, wrN (by omega)]
  generalize ws.getD i 0 = w
  simp only [dropL]
  by_cases ha : (x.any fun s => s.f0 == w) = true
  · rw [if_pos ha]
    rw [List.any_eq_true] at ha
    obtain ⟨s, hs, es⟩ := ha
    obtain ⟨j, hj, rfl⟩ := mem_idx hs
    have es' : (x.getD j z26).f0 = w := by simpa using es
    rw [← es', place_yes k (by omega) hp (by omega) hj, Option.bind_some, if_pos rfl, if_pos (by omega), if_pos (by omega), show ((j : Int)).toNat = j from rfl, erase_filter x hp j hj]
    exact ih k (i + 1) _ (by omega) (by omega) (by omega) (few_subS hx List.filter_sublist) (hp.sublist List.filter_sublist)
  · rw [if_neg ha]
    have hno : ∀ s ∈ x, s.f0 ≠ w := fun s hs e => ha (List.any_eq_true.2 ⟨s, hs, by simpa using e⟩)
    obtain ⟨c, _, e⟩ := place_no k (by omega) hp (by omega) hno
    rw [e, Option.bind_some, if_neg (show ¬ false = true by decide)]
theorem Drop_f (k : Nat) (l : List Sp) (hl : FewS l) (hR : RS l) (ws : List Int) (hm : ws.length ≤ 100) (hk : 1400 < k) : sleep_Drop.f k l ws = some (dropL l l ws) := by
 have hlen := hl.1
 unfold sleep_Drop.f
 rw [CloneS_f l (by omega), Option.bind_some, RightF_f _ l hl (by omega), Option.bind_some, if_pos ((rightS_iff l).2 hR)]
 have := Drop_l l ws (by omega) ws.length k 0 l (by omega) (by omega) (by omega) hl hR.2
 exact this
/-! ### who watches -/
theorem Index_l (l : List Int) (a : Int) (hm : l.length < 4398046511104) (d : Nat) : ∀ (k i : Nat), i ≤ l.length → l.length - i = d → d < k → slices_Index.l0 k l a (l.length : Int) (i : Int) = some (idxT (fun x => x == a) (l.drop i) (i : Int)) := by
 induction d with
 | zero =>
  intro k i hi hd hk
  obtain ⟨k, rfl⟩ : ∃ m, k = m + 1 := ⟨k - 1, by omega⟩
  simp only [slices_Index.l0]
  rw [if_neg (by omega), List.drop_of_length_le (by omega)]; rfl
 | succ d ih =>
  intro k i hi hd hk
  obtain ⟨k, rfl⟩ : ∃ m, k = m + 1 := ⟨k - 1, by omega⟩
  simp only [slices_Index.l0]
  rw [if_pos (by omega), if_pos (by omega), if_pos (by omega), wrN (by omega), show rd l (i : Int) = l.getD i 0 from rfl, drop_cons l 0 i (by omega), ih k (i + 1) (by omega) (by omega) (by omega)]
  by_cases e : a = l.getD i 0
  · rw [if_pos e, idxT_yes (by simpa using e.symm)]
  · rw [if_neg e, idxT_no (by simpa using fun h => e h.symm)]; rfl
theorem Contains_f (k : Nat) (l : List Int) (a : Int) (hm : l.length < 4398046511104) (hk : l.length < k) : slices_Contains.f k l a = some (l.contains a) := by
 unfold slices_Contains.f slices_Index.f
 have := Index_l l a hm l.length k 0 (by omega) (by omega) (by omega)
 rw [show ((0 : Nat) : Int) = 0 from rfl, List.drop_zero] at this
 rw [this, Option.bind_some]
 congr 1
 rcases idxT_cases (fun x => x == a) 0 l 0 with ⟨h1, h2⟩ | ⟨j, hj, h1, h2, _⟩
 · rw [h1, decide_eq_false (by decide)]
   symm
   rw [Bool.eq_false_iff]
   intro h
   have := h2 a (List.contains_iff_mem.1 h)
   simp at this
 · rw [h1, decide_eq_true (by omega)]
   symm
   rw [List.contains_iff_mem]
   have e : l.getD j 0 = a := by simpa using h2
   rw [← e]
   exact getD_in l 0 j hj
def isOf (cells : List Int) (s : Sp) : Bool := s.f3.any fun w => cells.contains w.f0
theorem anyOf_f (k : Nat) (w : List Wr) (cells : List Int) (hm : cells.length < 4398046511104) (hk : cells.length < k) : any_at_sleep_Of_1.f k (w.map fun x => x.f0) cells = some (w.any fun x => cells.contains x.f0) := by
 unfold any_at_sleep_Of_1.f
 rw [anyF_T (f := fun x : Int => sleep_Of_1.f k x cells) (p := fun c => cells.contains c) _ (fun x _ => by unfold sleep_Of_1.f; rw [Contains_f k cells x hm hk]; rfl), List.any_map]
 rfl
theorem Of_l (l : List Sp) (cells : List Int) (hF : FewS l) (hm : cells.length ≤ 100) (d : Nat) : ∀ (k i : Nat), i ≤ l.length → l.length - i = d → d + 200 < k →
 sleep_Of.l0 k (((l.take i).filter (isOf cells)).map fun s => s.f0) l (l.length : Int) (i : Int) cells = some ((l.filter (isOf cells)).map fun s => s.f0) := by
 have hlen := hF.1
 induction d with
 | zero =>
  intro k i hi hd hk
  obtain ⟨k, rfl⟩ : ∃ m, k = m + 1 := ⟨k - 1, by omega⟩
  simp only [sleep_Of.l0]
  rw [if_neg (by omega), List.take_of_length_le (by omega)]
 | succ d ih =>
  intro k i hi hd hk
  obtain ⟨k, rfl⟩ : ∃ m, k = m + 1 := ⟨k - 1, by omega⟩
  have next := ih k (i + 1) (by omega) (by omega) (by omega)
  have hs := hF.2 _ (getD_in l z26 i (by omega))
  rw [take_snG l z26 i (by omega), List.filter_append, List.map_append] at next
  simp only [sleep_Of.l0]
  rw [if_pos (by omega), if_pos (by omega), if_pos (by omega), show rd_T26 l (i : Int) = l.getD i z26 from rfl, wrN (by omega)]
  generalize l.getD i z26 = s at *
  rw [SCells_f k s.f0 s.f1 s.f2 s.f3 s.f4 (by omega) (by omega), Option.bind_some, anyOf_f k s.f3 cells (by omega) (by omega), Option.bind_some, show (s.f3.any fun x => cells.contains x.f0) = isOf cells s from rfl]
  by_cases h : isOf cells s = true
  · rw [if_pos h, if_pos (by
     rw [List.length_map]
     refine Nat.lt_of_le_of_lt (List.length_filter_le _ _) ?_
     rw [List.length_take]; omega)]
    rw [List.filter_cons, if_pos h] at next
    exact next
  · rw [if_neg h]
    rw [List.filter_cons, if_neg h, List.filter_nil, List.map_nil, List.append_nil] at next
    exact next
theorem Of_f (k : Nat) (l : List Sp) (cells : List Int) (hF : FewS l) (hR : RS l) (hm : cells.length ≤ 100) (hk : 1400 < k) : sleep_Of.f k l cells = some ((l.filter (isOf cells)).map fun s => s.f0) := by
 have hlen := hF.1
 unfold sleep_Of.f
 rw [RightF_f _ l hF (by omega), Option.bind_some, if_pos ((rightS_iff l).2 hR)]
 have := Of_l l cells hF hm l.length k 0 (by omega) (by omega) (by omega)
 exact this
theorem Of_no (k : Nat) (l : List Sp) (cells : List Int) (hF : FewS l) (hR : ¬ rightS l = true) (hk : 1400 < k) : sleep_Of.f k l cells = some [] := by
 unfold sleep_Of.f
 rw [RightF_f _ l hF (by omega), Option.bind_some, if_neg hR]
end Go.Proofs.Ytjnkpocfmpbpoaa.Sw
namespace Go.Proofs.Ytjnkpocfmpbpoaa.Sw
open Go.RowKit Go.Proofs.YtjnkpocfmpbpoaaW.PrintWords Go.Proofs.YtjnkpocfmpbpoaaW.PrintLast Go.Proofs.YtjnkpocfmpbpoaaW.PrintMore Go.Proofs.Ytjnkpocfmpbpoaa.Ho
set_option linter.unusedVariables false
set_option linter.unusedSimpArgs false
/-! ### the document's term -/
abbrev cv (o : S80) : S117 := ⟨o.f0, o.f1⟩
def refT (t : List S80) : List S117 := t.map cv
theorem ref_len (t : List S80) : (refT t).length = t.length := by simp [refT]
theorem ref_at (t : List S80) (i : Nat) (hi : i < t.length) : rd_T117 (refT t) (i : Int) = cv (t.getD i z80) := by
 unfold rd_T117 refT
 rw [List.getD_eq_getElem?_getD, List.getD_eq_getElem?_getD, List.getElem?_map]
 simp [List.getElem?_eq_getElem hi]
theorem one_f (a b : Int) : r_07_one.f a b = some (mayB a b) := by
 unfold r_07_one.f mayB
 rw [show r_01_Right.f b = some (inR b) from by
  unfold r_01_Right.f inR
  by_cases h : b ≥ (-2147483648)
  · rw [if_pos h]; simp [h]
  · rw [if_neg h]; simp [h]]
 simp only [Option.bind_some]
 split
 · rfl
 · split
   · by_cases h : b ≥ 0
     · rw [if_pos h]; congr 1; rw [decide_eq_decide]; omega
     · rw [if_neg h]; congr 1; symm; rw [decide_eq_false_iff_not]; omega
   · split
     · by_cases h : b ≥ 0
       · rw [if_pos h]; congr 1; rw [decide_eq_decide]; omega
       · rw [if_neg h]; congr 1; symm; rw [decide_eq_false_iff_not]; omega
     · by_cases h : takes a = 0
       · have : ¬ (a ≥ 4 ∧ a ≤ 11) := by
          unfold takes at h
          split at h
          · omega
          · split at h <;> omega
         rw [h]
         by_cases h4 : a ≥ 4
         · rw [if_pos h4, if_neg (fun e => this ⟨h4, e⟩)]; simp
         · rw [if_neg h4]; simp
       · have : a ≥ 4 ∧ a ≤ 11 := by
          unfold takes at h
          split at h
          · omega
          · split at h <;> omega
         rw [if_pos this.1, if_pos this.2, decide_eq_true (by omega)]; simp
/-- So many terms off the end (the last operation first): what is left. -/
def need : List S80 → Nat → Option (List S80)
 | r, 0 => some r
 | [], _ + 1 => none
 | o :: r, c + 1 => need r (c + takes o.f0)
theorem need_zero (r : List S80) : need r 0 = some r := by cases r <;> rfl
theorem need_add : ∀ (r : List S80) (a b : Nat), need r (a + b) = (need r a).bind fun s => need s b
 | r, 0, b => by rw [need_zero, Nat.zero_add]; rfl
 | [], a + 1, b => by rw [show a + 1 + b = (a + b) + 1 from by omega]; rfl
 | o :: r, a + 1, b => by
  rw [show a + 1 + b = (a + b) + 1 from by omega]
  simp only [need]
  rw [show a + b + takes o.f0 = (a + takes o.f0) + b from by omega]
  exact need_add r _ b
/-- What is left is a head of the row. -/
theorem need_suf : ∀ (r : List S80) (c : Nat) (s : List S80), need r c = some s → ∃ q, r = q ++ s ∧ c ≤ q.length
 | r, 0, s, h => by rw [need_zero] at h; cases h; exact ⟨[], rfl, by simp⟩
 | [], c + 1, s, h => by cases h
 | o :: r, c + 1, s, h => by
  obtain ⟨q, h1, h2⟩ := need_suf r _ s h
  exact ⟨o :: q, by rw [h1]; rfl, by simp; omega⟩
theorem walk_need (t : List S80) : ∀ m, walkN t 0 = some m ↔ need t.reverse m = some [] := by
 suffices ∀ (r t : List S80), t.reverse = r → ∀ m, walkN t 0 = some m ↔ need r m = some [] from this _ t rfl
 intro r
 induction r with
 | nil =>
  intro t ht m
  have : t = [] := by simpa using ht
  subst this
  cases m with
  | zero => simp [walkN, need]
  | succ m => simp [walkN, need]
 | cons o r ih =>
  intro t ht m
  have e : t = r.reverse ++ [o] := by rw [← List.reverse_reverse t, ht]; simp
  subst e
  have hi := ih r.reverse (by simp)
  rw [walkN_app]
  cases hw : walkN r.reverse 0 with
  | none =>
   simp only [Option.bind_none]
   cases m with
   | zero => simp [need]
   | succ m =>
    simp only [need]
    have := hi (m + takes o.f0)
    rw [hw] at this
    simpa using this
  | some n =>
   simp only [Option.bind_some, walkN]
   cases m with
   | zero =>
    have := takes_le o.f0
    simp only [need]
    split
    · simp
    · simp; omega
   | succ m =>
    simp only [need]
    have := hi (m + takes o.f0)
    rw [hw] at this
    rw [← this]
    split
    · simp; omega
    · simp; omega
/-- Where the term begins that ends ahead of i, or -1. -/
def startI (t : List S80) (i : Nat) : Int := match need (t.take i).reverse 1 with | some s => (s.length : Int) | none => -1
theorem take_rev (t : List S80) (i : Nat) (hi : i < t.length) : (t.take (i + 1)).reverse = t.getD i z80 :: (t.take i).reverse := by
 rw [List.take_add_one, List.getD_eq_getElem?_getD, List.getElem?_eq_getElem hi]
 simp
/-- What is left of the first i is the first so many. -/
theorem need_take {t : List S80} {i c : Nat} {s : List S80} (hi : i ≤ t.length) (h : need (t.take i).reverse c = some s) : s = (t.take s.length).reverse ∧ s.length + c ≤ i := by
 obtain ⟨q, h1, h2⟩ := need_suf _ _ _ h
 have h3 : t.take i = s.reverse ++ q.reverse := by rw [← List.reverse_reverse (t.take i), h1]; simp
 have hl : i = s.length + q.length := by
  have := congrArg List.length h3
  simp at this; omega
 refine ⟨?_, by omega⟩
 have : t.take s.length = s.reverse := by
  have e : (t.take i).take s.length = t.take s.length := by rw [List.take_take]; congr 1; omega
  rw [← e, h3]
  exact List.take_left' (by simp)
 rw [this]; simp
theorem start_f (t : List S80) (hm : t.length ≤ 12) (hmay : ∀ o ∈ t, mayB o.f0 o.f1 = true) : ∀ (n i k : Nat), i ≤ n → i ≤ t.length → i < k → r_07_start.f k (refT t) ((i : Int) - 1) = some (startI t i) := by
 intro n
 induction n with
 | zero =>
  intro i k hi hl hk
  obtain ⟨k, rfl⟩ : ∃ m, k = m + 1 := ⟨k - 1, by omega⟩
  have : i = 0 := by omega
  subst this
  simp only [r_07_start.f]
  rw [if_pos (by omega)]
  simp [startI, need]
 | succ n ih =>
  intro i k hi hl hk
  obtain ⟨k, rfl⟩ : ∃ m, k = m + 1 := ⟨k - 1, by omega⟩
  cases i with
  | zero =>
   simp only [r_07_start.f]
   rw [if_pos (by omega)]
   simp [startI, need]
  | succ i =>
   have ei : (((i + 1 : Nat) : Int) - 1) = (i : Int) := by omega
   rw [ei]
   simp only [r_07_start.f]
   rw [if_neg (by omega), if_pos (by omega), if_pos (by rw [ref_len]; omega), ref_at t i (by omega), wr (by omega) (by omega), ih i k (by omega) (by omega) (by omega)]
   simp only [Option.bind_some]
   have hmo : mayB (t.getD i z80).f0 (t.getD i z80).f1 = true := hmay _ (by
    rw [List.getD_eq_getElem?_getD, List.getElem?_eq_getElem (by omega)]; exact List.getElem_mem _)
   have e1 : startI t (i + 1) = match need (t.take i).reverse (takes (t.getD i z80).f0) with | some s => (s.length : Int) | none => -1 := by
    unfold startI
    rw [take_rev t i (by omega)]
    simp only [need, Nat.zero_add]
   rw [e1]
   have htl : ((t.take i).reverse).length = i := by simp; omega
   generalize t.getD i z80 = o at hmo ⊢
   by_cases h3 : o.f0 ≤ 3
   · have ht : takes o.f0 = 0 := by unfold takes; rw [if_neg (by omega), if_neg (by omega)]
     rw [if_pos h3, ht, need_zero]
     simp only [htl]
   · rw [if_neg h3]
     have h11 : o.f0 ≤ 11 := by
      unfold mayB at hmo
      rw [if_neg (by omega), if_neg (by omega), if_neg (by omega)] at hmo
      have ht : takes o.f0 ≠ 0 := by
       intro e; rw [e] at hmo; simp at hmo
      unfold takes at ht
      split at ht
      · omega
      · split at ht
        · omega
        · simp at ht
     by_cases h : o.f0 = 11
     · have ht : takes o.f0 = 1 := by rw [h]; decide
       rw [ht, if_pos h]
       have : startI t i = match need (t.take i).reverse 1 with | some s => (s.length : Int) | none => -1 := rfl
       rw [← this]
       split <;> rfl
     · have ht : takes o.f0 = 2 := by unfold takes; rw [if_pos (by omega)]
       rw [ht, if_neg h, show (2 : Nat) = 1 + 1 from rfl, need_add]
       unfold startI
       cases hn : need (t.take i).reverse 1 with
       | none => simp
       | some s =>
        obtain ⟨e2, e3⟩ := need_take (by omega) hn
        simp only [Option.bind_some]
        rw [if_neg (by omega), wr (by omega) (by omega), ih s.length k (by omega) (by omega) (by omega)]
        simp only [Option.bind_some]
        have e4 : startI t s.length = match need s 1 with | some s => (s.length : Int) | none => -1 := by
         unfold startI
         rw [← e2]
        rw [e4]
theorem rCheck_l (t : List S80) (hm1 : 1 ≤ t.length) (hm : t.length ≤ 12) (d : Nat) : ∀ (k i : Nat), i ≤ t.length → t.length - i = d → d + 14 < k → (∀ o ∈ t.take i, mayB o.f0 o.f1 = true) →
 r_07_Check.l0 k (refT t) (i : Int) = some (checkB t) := by
 induction d with
 | zero =>
  intro k i hi hd hk hma
  obtain ⟨k, rfl⟩ : ∃ m, k = m + 1 := ⟨k - 1, by omega⟩
  rw [List.take_of_length_le (by omega)] at hma
  simp only [r_07_Check.l0]
  rw [if_neg (by rw [ref_len]; omega), ref_len, wr (by omega) (by omega), start_f t hm hma t.length t.length k (by omega) (by omega) (by omega)]
  simp only [Option.bind_some]
  have hall : mayAll t = true := by unfold mayAll; exact List.all_eq_true.2 hma
  have ec : checkB t = if walkN t 0 = some 1 then 0 else 2 := by
   unfold checkB
   rw [if_pos ⟨hm1, hm, hall⟩]
  rw [ec]
  unfold startI
  rw [List.take_of_length_le (by omega)]
  have hwn := walk_need t 1
  by_cases hw : walkN t 0 = some 1
  · rw [if_pos hw, hwn.1 hw]; rfl
  · rw [if_neg hw]
    have h2 : need t.reverse 1 ≠ some [] := fun e => hw (hwn.2 e)
    cases hn : need t.reverse 1 with
    | none => rw [if_neg (by decide)]
    | some s =>
     rw [hn] at h2
     have : s ≠ [] := fun e => h2 (by rw [e])
     have : 0 < s.length := List.length_pos_iff.2 this
     rw [if_neg (by simp only; omega)]
 | succ d ih =>
  intro k i hi hd hk hma
  obtain ⟨k, rfl⟩ : ∃ m, k = m + 1 := ⟨k - 1, by omega⟩
  simp only [r_07_Check.l0]
  rw [if_pos (by rw [ref_len]; omega), if_pos (by omega), ref_at t i (by omega), one_f, wrN (by omega)]
  simp only [Option.bind_some, cv]
  have hmem : t.getD i z80 ∈ t := by
   rw [List.getD_eq_getElem?_getD, List.getElem?_eq_getElem (by omega)]; exact List.getElem_mem _
  by_cases ho : mayB (t.getD i z80).f0 (t.getD i z80).f1 = true
  · rw [if_pos ho]
    refine ih k (i + 1) (by omega) (by omega) (by omega) fun o h => ?_
    rw [List.take_add_one, List.getElem?_eq_getElem (by omega)] at h
    rcases List.mem_append.1 h with h | h
    · exact hma o h
    · have : o = t.getD i z80 := by
       rw [List.getD_eq_getElem?_getD, List.getElem?_eq_getElem (by omega)]
       simpa using h
      rw [this]; exact ho
  · rw [if_neg ho]
    unfold checkB
    rw [if_neg]
    intro e
    exact ho (List.all_eq_true.1 e.2.2 _ hmem)
theorem rCheck_f (k : Nat) (t : List S80) (hk : 40 ≤ k) : r_07_Check.f k (refT t) = some (checkB t) := by
 obtain ⟨k, rfl⟩ : ∃ q, k = q + 1 := ⟨k - 1, by omega⟩
 unfold r_07_Check.f
 simp only [r_07_Check.j0]
 rw [ref_len]
 by_cases h1 : t.length < 1
 · rw [if_pos (by omega), if_pos trivial]
   unfold checkB
   rw [if_neg (by omega)]
 · rw [if_neg (by omega)]
   by_cases h2 : t.length > 12
   · rw [if_pos (by simp; omega)]
     unfold checkB
     rw [if_neg (by omega)]
   · rw [if_neg (by simp; omega)]
     exact rCheck_l t (by omega) (by omega) t.length k 0 (by omega) (by omega) (by omega) (by simp)
/-! ### the cells that the document names -/
def refCells (t : List S80) : List Int := ((List.range 64).filter fun c => t.any fun o => o.f0 == 2 && o.f1 == ((c : Nat) : Int)).map fun c => ((c : Nat) : Int)
theorem rCells_l1 (t : List S80) (hm : t.length ≤ 12) (c K : Nat) (out : List Int) (r : Option (List Int)) (ho : out.length < 4611686018427) (he : ∀ k, K < k → r_07_Cells.l0 k (refT t) (if (t.any fun o => o.f0 == 2 && o.f1 == (c : Int)) = true then out ++ [(c : Int)] else out) (wrap64 ((c : Int) + 1)) = r) (d : Nat) : ∀ (k i : Nat) (b : Bool), i ≤ t.length → t.length - i = d → d + K + 1 < k → b = ((t.take i).any fun o => o.f0 == 2 && o.f1 == (c : Int)) →
 r_07_Cells.l1 k (refT t) out (c : Int) b (i : Int) = r := by
 induction d with
 | zero =>
  intro k i b hi hd hk hb
  obtain ⟨k, rfl⟩ : ∃ m, k = m + 1 := ⟨k - 1, by omega⟩
  rw [List.take_of_length_le (by omega)] at hb
  have he' := he k (by omega)
  simp only [r_07_Cells.l1]
  rw [if_neg (by rw [ref_len]; omega)]
  cases b with
  | true =>
   rw [if_pos hb.symm] at he'
   rw [if_pos rfl, if_pos (by omega)]
   exact he'
  | false =>
   rw [if_neg (by rw [← hb]; decide)] at he'
   rw [if_neg (by decide)]
   exact he'
 | succ d ih =>
  intro k i b hi hd hk hb
  obtain ⟨k, rfl⟩ : ∃ m, k = m + 1 := ⟨k - 1, by omega⟩
  have et := take_sn t i (by omega)
  have en : ((t.take (i + 1)).any fun o => o.f0 == 2 && o.f1 == (c : Int)) = (b || ((t.getD i z80).f0 == 2 && (t.getD i z80).f1 == (c : Int))) := by
   rw [et, List.any_append, ← hb]; simp
  simp only [r_07_Cells.l1]
  rw [if_pos (by rw [ref_len]; omega), wrN (by omega), ref_at t i (by omega)]
  generalize t.getD i z80 = o at *
  cases b with
  | true =>
   rw [if_pos rfl]
   exact ih k (i + 1) true (by omega) (by omega) (by omega) (by rw [en]; rfl)
  | false =>
   rw [if_neg (by decide), if_pos (by omega)]
   by_cases h2 : o.f0 = 2
   · rw [if_pos (show (cv o).f0 = 2 from h2)]
     exact ih k (i + 1) _ (by omega) (by omega) (by omega) (by rw [en, h2]; simp)
   · rw [if_neg (show ¬ (cv o).f0 = 2 from h2)]
     exact ih k (i + 1) _ (by omega) (by omega) (by omega) (by rw [en, show (o.f0 == 2) = false from beq_eq_false_iff_ne.2 h2]; rfl)
theorem rCells_l0 (t : List S80) (hm : t.length ≤ 12) (d : Nat) : ∀ (k c : Nat), c ≤ 64 → 64 - c = d → 20 * d + 20 < k →
 r_07_Cells.l0 k (refT t) (((List.range c).filter fun c => t.any fun o => o.f0 == 2 && o.f1 == ((c : Nat) : Int)).map fun c => ((c : Nat) : Int)) (c : Int) = some (refCells t) := by
 induction d with
 | zero =>
  intro k c hc hd hk
  obtain ⟨k, rfl⟩ : ∃ m, k = m + 1 := ⟨k - 1, by omega⟩
  have : c = 64 := by omega
  subst this
  simp only [r_07_Cells.l0]
  rw [if_neg (by omega)]
  rfl
 | succ d ih =>
  intro k c hc hd hk
  obtain ⟨k, rfl⟩ : ∃ m, k = m + 1 := ⟨k - 1, by omega⟩
  simp only [r_07_Cells.l0]
  rw [if_pos (by omega)]
  refine rCells_l1 t hm c (20 * d + 20) _ _ ?_ (fun k hk => ?_) t.length k 0 false (by omega) (by omega) (by omega) (by simp)
  · rw [List.length_map]
    refine Nat.lt_of_le_of_lt (List.length_filter_le _ _) ?_
    rw [List.length_range]; omega
  · rw [wrN (by omega), ← ih k (c + 1) (by omega) (by omega) hk, List.range_succ, List.filter_append, List.map_append]
    by_cases hx : (t.any fun o => o.f0 == 2 && o.f1 == (c : Int)) = true
    · rw [if_pos hx]; simp only [List.filter_cons, hx, if_true, List.filter_nil, List.map_cons, List.map_nil]
    · rw [if_neg hx]; simp only [List.filter_cons, hx, List.filter_nil, List.map_nil, List.append_nil, if_false, Bool.false_eq_true]
theorem rCells_f (k : Nat) (t : List S80) (hk : 1400 < k) : r_07_Cells.f k (refT t) = some (if checkB t = 0 then refCells t else []) := by
 unfold r_07_Cells.f
 rw [rCheck_f k t (by omega)]
 simp only [Option.bind_some]
 by_cases h1 : checkB t = 0
 · rw [if_pos h1, if_pos h1]
   obtain ⟨c1, c2, c3, c4⟩ := checkB_ok h1
   exact rCells_l0 t c2 64 k 0 (by omega) (by omega) (by omega)
 · rw [if_neg h1, if_neg h1]
/-- Rows that rise and have the same elements are the same. -/
theorem rise_ext : ∀ (a b : List Int), a.Pairwise (· < ·) → b.Pairwise (· < ·) → (∀ x, x ∈ a ↔ x ∈ b) → a = b
 | [], [], _, _, _ => rfl
 | [], y :: b, _, _, h => by have := (h y).2 (by simp); simp at this
 | x :: a, [], _, _, h => by have := (h x).1 (by simp); simp at this
 | x :: a, y :: b, ha, hb, h => by
  obtain ⟨a1, a2⟩ := List.pairwise_cons.1 ha
  obtain ⟨b1, b2⟩ := List.pairwise_cons.1 hb
  have exy : x = y := by
   rcases List.mem_cons.1 ((h x).1 (by simp)) with e | e
   · exact e
   · rcases List.mem_cons.1 ((h y).2 (by simp)) with e2 | e2
     · exact e2.symm
     · have := a1 y e2
       have := b1 x e
       omega
  subst exy
  rw [rise_ext a b a2 b2 fun z => ?_]
  constructor
  · intro hz
    rcases List.mem_cons.1 ((h z).1 (by simp [hz])) with e | e
    · have := a1 z hz; omega
    · exact e
  · intro hz
    rcases List.mem_cons.1 ((h z).2 (by simp [hz])) with e | e
    · have := b1 z hz; omega
    · exact e
theorem mem_comp (l : List Int) (x : Int) : x ∈ Go.Lib.compact l ↔ x ∈ l := by
 constructor
 · intro h
   unfold Go.Lib.compact Go.Lib.compactUpTo at h
   obtain ⟨i, hi, rfl⟩ := List.mem_map.1 h
   have hi' : i < l.length := List.mem_range.1 (List.mem_filter.1 hi).1
   simp [getElem!_pos, hi']
 intro h
 have key : ∀ i : Nat, i < l.length → ∃ j, j ≤ i ∧ Go.Lib.keeps l.toArray j = true ∧ l.toArray[j]! = l.toArray[i]! := by
  intro i
  induction i with
  | zero => intro _; exact ⟨0, by omega, by simp [Go.Lib.keeps], rfl⟩
  | succ i ih =>
   intro hi
   by_cases e : l.toArray[i + 1]! = l.toArray[i]!
   · obtain ⟨j, h1, h2, h3⟩ := ih (by omega)
     exact ⟨j, by omega, h2, h3.trans e.symm⟩
   · exact ⟨i + 1, by omega, by unfold Go.Lib.keeps; exact decide_eq_true (.inr (by simpa using e)), rfl⟩
 obtain ⟨i, hi, rfl⟩ := List.mem_iff_getElem.1 h
 obtain ⟨j, h1, h2, h3⟩ := key i hi
 unfold Go.Lib.compact Go.Lib.compactUpTo
 refine List.mem_map.2 ⟨j, List.mem_filter.2 ⟨List.mem_range.2 (by omega), h2⟩, ?_⟩
 rw [h3]
 simp [getElem!_pos, hi]
theorem comp_rise (l : List Int) (hs : l.Pairwise (· ≤ ·)) : (Go.Lib.compact l).Pairwise (· < ·) := by
 unfold Go.Lib.compact Go.Lib.compactUpTo
 rw [List.pairwise_map]
 have hp : (List.range l.length).Pairwise (· < ·) := List.pairwise_lt_range
 have hp2 := List.Pairwise.filter (Go.Lib.keeps l.toArray) hp
 refine List.Pairwise.imp_of_mem ?_ hp2
 intro i j hi hj hij
 have hi1 : i < l.length := List.mem_range.1 (List.mem_filter.1 hi).1
 have hj1 : j < l.length := List.mem_range.1 (List.mem_filter.1 hj).1
 have hk := (List.mem_filter.1 hj).2
 unfold Go.Lib.keeps at hk
 have hk := of_decide_eq_true hk
 have hne : l.toArray[j]! ≠ l.toArray[j - 1]! := by
  rcases hk with h | h
  · omega
  · exact h
 have hget := List.pairwise_iff_getElem.1 hs
 have e1 : ∀ q, (hq : q < l.length) → l.toArray[q]! = l[q] := fun q hq => by simp [getElem!_pos, hq]
 rw [e1 j hj1, e1 (j - 1) (by omega)] at hne
 rw [e1 i hi1, e1 j hj1]
 have h1 : l[j - 1] ≤ l[j] := hget (j - 1) j (by omega) hj1 (by omega)
 have h2 : l[i] ≤ l[j - 1] := by
  by_cases e : i = j - 1
  · subst e; exact Int.le_refl _
  · exact hget i (j - 1) hi1 (by omega) (by omega)
 omega
theorem cells_same (t : List S80) : cellsB t = if checkB t = 0 then refCells t else [] := by
 unfold cellsB
 by_cases h1 : checkB t = 0
 · rw [if_pos h1, if_pos h1]
   obtain ⟨c1, c2, c3, c4⟩ := checkB_ok h1
   refine rise_ext _ _ (comp_rise _ ?_) ?_ fun x => ?_
   · have := List.pairwise_mergeSort (le := fun x y : Int => decide (x ≤ y)) (by intro a b c; simp; omega) (by intro a b; simp; omega) (cellsL t)
     exact this.imp fun h => of_decide_eq_true h
   · unfold refCells
     rw [List.pairwise_map]
     exact (List.Pairwise.filter _ List.pairwise_lt_range).imp fun h => by omega
   · rw [mem_comp, List.mem_mergeSort]
     unfold cellsL refCells
     simp only [List.mem_map, List.mem_filter, List.mem_range, List.any_eq_true, Bool.and_eq_true, beq_iff_eq]
     constructor
     · rintro ⟨o, ⟨h2, h3⟩, rfl⟩
       have hmo := c3 o h2
       unfold mayB at hmo
       rw [if_neg (by omega), if_pos h3] at hmo
       have hmo := of_decide_eq_true hmo
       exact ⟨o.f1.toNat, ⟨by omega, o, h2, h3, by omega⟩, by omega⟩
     · rintro ⟨c, ⟨h2, o, h3, h4, h5⟩, rfl⟩
       exact ⟨o, ⟨h3, h4⟩, h5⟩
 · rw [if_neg h1, if_neg h1]
end Go.Proofs.Ytjnkpocfmpbpoaa.Sw
namespace Go.Proofs.Ytjnkpocfmpbpoaa.Sw
open Go.RowKit Go.Proofs.YtjnkpocfmpbpoaaW.PrintWords Go.Proofs.YtjnkpocfmpbpoaaW.PrintLast Go.Proofs.YtjnkpocfmpbpoaaW.PrintMore Go.Proofs.Ytjnkpocfmpbpoaa.Ho
set_option linter.unusedVariables false
set_option linter.unusedSimpArgs false
/-! ### the document on who sleeps -/
theorem rtick4 (a : Int) : r_04_Right.f a = some (tickB a) := by
 unfold r_04_Right.f tickB
 by_cases h : a ≥ 0
 · rw [if_pos h]; congr 1; rw [decide_eq_decide]; omega
 · rw [if_neg h]; congr 1; symm; rw [decide_eq_false_iff_not]; omega
theorem rright1 (a : Int) : r_01_Right.f a = some (inR a) := by
 unfold r_01_Right.f inR
 by_cases h : a ≥ -2147483648
 · rw [if_pos h]; congr 1; rw [decide_eq_decide]; omega
 · rw [if_neg h]; congr 1; symm; rw [decide_eq_false_iff_not]; omega
theorem rOne_l2 (cs : List Int) (a b c : Int) (w : List Wr) (t : List ROp) (hl : cs.length = w.length) (hm : w.length < 4398046511104) (d : Nat) : ∀ (k i : Nat), i ≤ w.length → w.length - i = d → d < k →
 r_15_One.l2 k cs (i : Int) a b c w t = some (decide (((w.drop i).map fun x => x.f0) = cs.drop i)) := by
 induction d with
 | zero =>
  intro k i hi hd hk
  obtain ⟨k, rfl⟩ : ∃ m, k = m + 1 := ⟨k - 1, by omega⟩
  simp only [r_15_One.l2]
  rw [if_neg (by omega), List.drop_of_length_le (by omega), List.drop_of_length_le (by omega)]; rfl
 | succ d ih =>
  intro k i hi hd hk
  obtain ⟨k, rfl⟩ : ∃ m, k = m + 1 := ⟨k - 1, by omega⟩
  simp only [r_15_One.l2]
  rw [if_pos (by omega), if_pos (by omega), if_pos (by omega), wrN (by omega), ih k (i + 1) (by omega) (by omega) (by omega), drop_cons cs 0 i (by omega), drop_cons w z62 i (by omega), show rd cs (i : Int) = cs.getD i 0 from rfl, show rd_T62 w (i : Int) = w.getD i z62 from rfl, List.map_cons]
  by_cases e : cs.getD i 0 = (w.getD i z62).f0
  · rw [if_pos e, e]; congr 1; rw [decide_eq_decide]; simp
  · rw [if_neg e]; congr 1; symm; rw [decide_eq_false_iff_not]; intro h; injection h with h _; exact e h.symm
theorem rOne_l1 (a b c : Int) (w : List Wr) (t : List TOp) (hw : w.length ≤ 1000) (ht : checkB t = 0) (d : Nat) : ∀ (k i : Nat), i ≤ t.length → t.length - i = d → d + 1500 < k →
 r_15_One.l1 k (i : Int) a b c w (refT t) = some (if ((t.drop i).any fun o => o.f0 == 3) = true then false else decide ((w.map fun x => x.f0) = cellsB t)) := by
 have ht12 := (checkB_ok ht).2.1
 induction d with
 | zero =>
  intro k i hi hd hk
  obtain ⟨k, rfl⟩ : ∃ m, k = m + 1 := ⟨k - 1, by omega⟩
  simp only [r_15_One.l1]
  rw [if_neg (by rw [ref_len]; omega), rCells_f k t (by omega), ← cells_same, Option.bind_some, List.drop_of_length_le (by omega), List.any_nil, if_neg (show ¬ (false = true) by decide)]
  by_cases hl : ((cellsB t).length : Int) = (w.length : Int)
  · have := rOne_l2 (cellsB t) a b c w (refT t) (by omega) (by omega) w.length k 0 (by omega) (by omega) (by omega)
    rw [if_pos hl]
    exact this
  · rw [if_neg hl, decide_eq_false]
    intro g
    apply hl
    rw [← g, List.length_map]
 | succ d ih =>
  intro k i hi hd hk
  obtain ⟨k, rfl⟩ : ∃ m, k = m + 1 := ⟨k - 1, by omega⟩
  simp only [r_15_One.l1]
  rw [if_pos (by rw [ref_len]; omega), if_pos (by omega), ref_at t i (by omega), wrN (by omega), ih k (i + 1) (by omega) (by omega) (by omega), drop_cons t z80 i (by omega), List.any_cons]
  generalize t.getD i z80 = o
  by_cases h : o.f0 = 3
  · rw [if_pos (show (cv o).f0 = 3 from h), if_pos (by rw [h]; rfl)]
  · rw [if_neg (show ¬ (cv o).f0 = 3 from h), show (o.f0 == 3) = false from beq_eq_false_iff_ne.2 h, Bool.false_or]
def modeV (b : Int) (w : List Wr) (t : List TOp) : Bool := if b = 3 then (if checkB t = 0 then (if (t.any fun o => o.f0 == 3) = true then false else decide ((w.map fun x => x.f0) = cellsB t)) else false) else if b = 1 then t.length == 0 else if b = 2 then t.length == 0 else false
theorem rOne_l0 (a b c : Int) (w : List Wr) (t : List TOp) (hw : w.length ≤ 24) (d : Nat) : ∀ (k i : Nat), i ≤ w.length → w.length - i = d → 2 * d + 1600 < k → (∀ j, j < i → okW w j) →
 r_15_One.l0 k (i : Int) a b c w (refT t) = some (watchB w && modeV b w t) := by
 induction d with
 | zero =>
  intro k i hi hd hk h
  obtain ⟨k, rfl⟩ : ∃ m, k = m + 3 := ⟨k - 3, by omega⟩
  have e : watchB w = true := (watchB_iff w).2 ⟨hw, fun j hj => h j (by omega)⟩
  have el : (((refT t).length : Int) == 0) = (t.length == 0) := by
   rw [ref_len, Bool.eq_iff_iff, beq_iff_eq, beq_iff_eq]; omega
  rw [e, Bool.true_and]
  unfold modeV
  simp only [r_15_One.l0]
  rw [if_neg (by omega)]
  by_cases m1 : b = 1
  · rw [if_pos m1, if_neg (show ¬ b = 3 by omega), if_pos m1]
    simp only [r_15_One.j3]
    rw [if_pos trivial, el]
  rw [if_neg m1]
  by_cases m2 : b = 2
  · rw [if_neg (show ¬ b = 3 by omega), if_neg m1, if_pos m2, show (b == 2) = true from beq_iff_eq.2 m2]
    simp only [r_15_One.j3]
    rw [if_pos trivial, el]
  rw [show (b == 2) = false from beq_eq_false_iff_ne.2 m2]
  simp only [r_15_One.j3]
  rw [if_neg (by decide)]
  by_cases m3 : b = 3
  · rw [if_pos m3, if_pos m3, rCheck_f _ t (by omega), Option.bind_some]
    simp only [r_15_One.j4]
    by_cases hc : checkB t = 0
    · rw [if_pos hc, if_neg (by rw [hc]; decide)]
      have := rOne_l1 a b c w t (by omega) hc t.length k 0 (by omega) (by omega) (by have := (checkB_ok hc).2.1; omega)
      exact this
    · rw [if_neg hc, if_pos (bne_iff_ne.2 hc)]
  · rw [if_neg m3, if_neg m3, if_neg m1, if_neg m2]
    simp only [r_15_One.j4]
    rw [if_pos trivial]
 | succ d ih =>
  intro k i hi hd hk h
  obtain ⟨k, rfl⟩ : ∃ m, k = m + 2 := ⟨k - 2, by omega⟩
  have no : ¬ okW w i → some false = some (watchB w && modeV b w t) := fun g => by
   unfold watchB
   rw [decide_eq_false (fun e => g (e.2 i (by omega)))]; rfl
  have yes : okW w i → r_15_One.l0 k ((i + 1 : Nat) : Int) a b c w (refT t) = some (watchB w && modeV b w t) := fun g => by
   refine ih k (i + 1) (by omega) (by omega) (by omega) fun j hj => ?_
   by_cases ej : j = i
   · rw [ej]; exact g
   · exact h j (by omega)
  have bad : ¬ okW w i → r_15_One.j2 (k + 1) (i : Int) true a b c w (refT t) = some (watchB w && modeV b w t) := fun g => by
   simp only [r_15_One.j2]
   rw [if_pos trivial]; exact no g
  simp only [r_15_One.l0]
  rw [if_pos (by omega), if_pos (by omega), rright1, Option.bind_some, show rd_T62 w (i : Int) = w.getD i z62 from rfl]
  by_cases a2 : inR (w.getD i z62).f1 = true
  · rw [if_pos a2]
    by_cases a0 : (w.getD i z62).f0 < 0
    · rw [if_pos a0]; exact bad fun g => by have := g.1.1; omega
    rw [if_neg a0]
    by_cases a1 : (w.getD i z62).f0 > 63
    · rw [decide_eq_true a1]; exact bad fun g => by have := g.1.2; omega
    rw [decide_eq_false a1]
    simp only [r_15_One.j2]
    rw [if_neg (by decide), wrN (by omega)]
    by_cases hz : i = 0
    · rw [if_neg (by omega)]
      exact yes ⟨⟨by omega, by omega⟩, a2, fun g => by omega⟩
    · have ew : wrap64 ((i : Int) - 1) = ((i - 1 : Nat) : Int) := by rw [wr (by omega) (by omega)]; omega
      rw [if_pos (by omega), if_pos (by omega), if_pos (by omega), ew, if_pos (by omega), if_pos (by omega), show rd_T62 w (i : Int) = w.getD i z62 from rfl, show rd_T62 w ((i - 1 : Nat) : Int) = w.getD (i - 1) z62 from rfl]
      by_cases a4 : (w.getD i z62).f0 ≤ (w.getD (i - 1) z62).f0
      · rw [if_pos a4]; exact no fun g => by have := g.2.2 (by omega); omega
      · rw [if_neg a4]; exact yes ⟨⟨by omega, by omega⟩, a2, fun _ => by omega⟩
  · rw [if_neg a2]; exact bad fun g => a2 g.2.1
theorem rOne_f (k : Nat) (s : Sp) (hw : s.f3.length ≤ 1000) (hk : 1700 < k) : r_15_One.f k s.f0 s.f1 s.f2 s.f3 (s.f4.map refO) = some (maySp s) := by
 obtain ⟨k, rfl⟩ : ∃ m, k = m + 1 := ⟨k - 1, by omega⟩
 obtain ⟨who, mode, til, w, t⟩ := s
 have hw' : w.length ≤ 1000 := hw
 have em : maySp ⟨who, mode, til, w, t⟩ = (decide (1 ≤ who ∧ who ≤ 8) && (tickB til && (watchB w && modeV mode w t))) := rfl
 rw [em]
 show r_15_One.f (k + 1) who mode til w (refT t) = _
 unfold r_15_One.f
 have bad : r_15_One.j0 (k + 1) true who mode til w (refT t) = some false := by
  simp only [r_15_One.j0]; rw [if_pos trivial]
 rw [rtick4, Option.bind_some]
 by_cases h3 : tickB til = true
 · rw [if_pos h3, h3, Bool.true_and]
   by_cases h1 : who < 1
   · rw [if_pos h1, bad, decide_eq_false (show ¬ (1 ≤ who ∧ who ≤ 8) by omega)]; rfl
   rw [if_neg h1]
   by_cases h2 : who > 8
   · rw [if_pos h2, bad, decide_eq_false (show ¬ (1 ≤ who ∧ who ≤ 8) by omega)]; rfl
   rw [if_neg h2, decide_eq_true (show 1 ≤ who ∧ who ≤ 8 by omega), Bool.true_and]
   by_cases h24 : (w.length : Int) > 24
   · rw [decide_eq_true h24, bad]
     have : watchB w = false := Bool.eq_false_iff.2 fun g => by have := ((watchB_iff w).1 g).1; omega
     rw [this]; rfl
   · rw [decide_eq_false h24]
     simp only [r_15_One.j0]
     rw [if_neg (by decide)]
     exact rOne_l0 who mode til w t (by omega) w.length k 0 (by omega) (by omega) (by omega) (fun j hj => by omega)
 · rw [if_neg h3, bad, Bool.eq_false_iff.2 h3, Bool.false_and, Bool.and_false]
theorem mapS_at (l : List Sp) (i : Nat) (hi : i < l.length) : rd_T39 (l.map refSp) (i : Int) = refSp (l.getD i z26) := by
 unfold rd_T39
 rw [List.getD_eq_getElem?_getD, List.getD_eq_getElem?_getD, List.getElem?_map]
 simp [List.getElem?_eq_getElem hi]
theorem rRightS_l (l : List Sp) (hm : l.length < 4398046511104) (hw : ∀ x ∈ l, x.f3.length ≤ 1000) (d : Nat) : ∀ (k i : Nat), i ≤ l.length → l.length - i = d → d + 1800 < k → (∀ x ∈ l.take i, maySp x = true) → (l.take i).Pairwise Lt →
 r_15_Right.l0 k (l.map refSp) (i : Int) = some (rightS l) := by
 induction d with
 | zero =>
  intro k i hi hd hk h1 h2
  obtain ⟨k, rfl⟩ : ∃ m, k = m + 1 := ⟨k - 1, by omega⟩
  rw [List.take_of_length_le (by omega)] at h1 h2
  simp only [r_15_Right.l0]
  rw [if_neg (by rw [List.length_map]; omega), (rightS_iff l).2 ⟨h1, h2⟩]
 | succ d ih =>
  intro k i hi hd hk h1 h2
  obtain ⟨k, rfl⟩ : ∃ m, k = m + 1 := ⟨k - 1, by omega⟩
  have hmem := getD_in l z26 i (by omega)
  have hs := take_snG l z26 i (by omega)
  have yes : maySp (l.getD i z26) = true → (∀ x ∈ l.take i, Lt x (l.getD i z26)) → r_15_Right.l0 k (l.map refSp) ((i + 1 : Nat) : Int) = some (rightS l) := fun g1 g2 => by
   refine ih k (i + 1) (by omega) (by omega) (by omega) (fun x hx => ?_) ?_
   · rw [hs] at hx
     rcases List.mem_append.1 hx with hx | hx
     · exact h1 x hx
     · rw [List.mem_singleton.1 hx]; exact g1
   · rw [hs, List.pairwise_append]
     exact ⟨h2, List.pairwise_singleton _ _, fun x hx y hy => by rw [List.mem_singleton.1 hy]; exact g2 x hx⟩
  have h1' := rOne_f k (l.getD i z26) (hw _ hmem) (by omega)
  simp only [r_15_Right.l0]
  rw [if_pos (by rw [List.length_map]; omega), if_pos (by omega), mapS_at l i (by omega), wrN (by omega)]
  rw [show r_15_One.f k (refSp (l.getD i z26)).f0 (refSp (l.getD i z26)).f1 (refSp (l.getD i z26)).f2 (refSp (l.getD i z26)).f3 (refSp (l.getD i z26)).f4 = _ from h1', Option.bind_some]
  by_cases a1 : maySp (l.getD i z26) = true
  · rw [if_pos a1]
    by_cases hz : i = 0
    · rw [if_neg (by omega)]
      exact yes a1 (fun x hx => by rw [hz] at hx; simp at hx)
    · have ew : wrap64 ((i : Int) - 1) = ((i - 1 : Nat) : Int) := by rw [wr (by omega) (by omega)]; omega
      rw [if_pos (by omega), ew, if_pos (by omega), if_pos (by rw [List.length_map]; omega), mapS_at l (i - 1) (by omega)]
      by_cases a4 : (l.getD i z26).f0 ≤ (l.getD (i - 1) z26).f0
      · rw [if_pos (show (refSp (l.getD i z26)).f0 ≤ (refSp (l.getD (i - 1) z26)).f0 from a4), rightS_no]
        intro g
        have := lt_at g.2 (i - 1) i (by omega) (by omega)
        omega
      · rw [if_neg (show ¬ (refSp (l.getD i z26)).f0 ≤ (refSp (l.getD (i - 1) z26)).f0 from a4)]
        refine yes a1 fun x hx => ?_
        obtain ⟨m, hm', rfl⟩ := mem_takeG l z26 i x (by omega) hx
        by_cases e : m = i - 1
        · rw [e]; show _ < _; omega
        · have hlt : (l.getD m z26).f0 < (l.getD (i - 1) z26).f0 := by
           have := lt_at h2 m (i - 1) (by omega) (by rw [List.length_take]; omega)
           have tk : ∀ q, q < i → (l.take i).getD q z26 = l.getD q z26 := fun q hq => by
            rw [List.getD_eq_getElem?_getD, List.getD_eq_getElem?_getD, List.getElem?_take, if_pos hq]
           rwa [tk m hm', tk (i - 1) (by omega)] at this
          show _ < _
          omega
  · rw [if_neg a1, rightS_no]
    intro g
    exact a1 (g.1 _ hmem)
theorem rRightS_f (k : Nat) (l : List Sp) (hl : FewS l) (hk : 1900 < k) : r_15_Right.f k (l.map refSp) = some (rightS l) := by
 have := hl.1
 unfold r_15_Right.f
 exact rRightS_l l (by omega) (fun x hx => by have := (hl.2 x hx).1; omega) l.length k 0 (by omega) (by omega) (by omega) (by simp) (by simp)
theorem rFindS_l (l : List Sp) (w : Int) (hm : l.length < 4398046511104) (d : Nat) : ∀ (k i : Nat), i ≤ l.length → l.length - i = d → d < k → r_15_Find.l0 k (l.map refSp) w (i : Int) = some (idxT (fun s => s.f0 == w) (l.drop i) (i : Int)) := by
 induction d with
 | zero =>
  intro k i hi hd hk
  obtain ⟨k, rfl⟩ : ∃ m, k = m + 1 := ⟨k - 1, by omega⟩
  simp only [r_15_Find.l0]
  rw [if_neg (by rw [List.length_map]; omega), List.drop_of_length_le (by omega)]; rfl
 | succ d ih =>
  intro k i hi hd hk
  obtain ⟨k, rfl⟩ : ∃ m, k = m + 1 := ⟨k - 1, by omega⟩
  simp only [r_15_Find.l0]
  rw [if_pos (by rw [List.length_map]; omega), if_pos (by omega), mapS_at l i (by omega), wrN (by omega), drop_cons l z26 i (by omega), ih k (i + 1) (by omega) (by omega) (by omega)]
  generalize l.getD i z26 = s
  by_cases e : s.f0 = w
  · rw [if_pos (show (refSp s).f0 = w from e), idxT_yes (by simpa using e)]
  · rw [if_neg (show ¬ (refSp s).f0 = w from e), idxT_no (by simpa using e)]; rfl
theorem rFindS_f (k : Nat) (l : List Sp) (w : Int) (hm : l.length ≤ 1000) (hk : 1000 < k) : r_15_Find.f k (l.map refSp) w = some (idxT (fun s => s.f0 == w) l 0) := by
 unfold r_15_Find.f
 exact rFindS_l l w (by omega) l.length k 0 (by omega) (by omega) (by omega)
/-! ### one more, as both do it -/
def addS (l : List Sp) (s : Sp) : List Sp × Int := if rightS l = true ∧ maySp s = true then (if (l.any fun x => x.f0 == s.f0) = true then (l, 9) else ((l.filter fun x => decide (x.f0 < s.f0)) ++ [s] ++ (l.filter fun x => !decide (x.f0 < s.f0)), 0)) else (l, 1)
theorem cut_filter {l : List Sp} {v : Int} {c : Nat} (hc : Cut l v c) : (l.filter fun x => decide (x.f0 < v)) = l.take c ∧ (l.filter fun x => !decide (x.f0 < v)) = l.drop c := by
 obtain ⟨h1, h2, h3⟩ := hc
 have hlo : ∀ x ∈ l.take c, x.f0 < v := fun x hx => by
  obtain ⟨m, hm, rfl⟩ := mem_takeG l z26 c x h1 hx
  exact h2 m hm
 have hhi : ∀ x ∈ l.drop c, ¬ x.f0 < v := fun x hx => by
  obtain ⟨m, hm, rfl⟩ := List.mem_iff_getElem.1 hx
  rw [List.length_drop] at hm
  have a := h3 (c + m) (by omega) (by omega)
  rw [List.getElem_drop]
  rw [List.getD_eq_getElem?_getD, List.getElem?_eq_getElem (by omega)] at a
  have a' : v ≤ l[c + m].f0 := a
  omega
 have e1 : ((l.take c).filter fun x => decide (x.f0 < v)) = l.take c := List.filter_eq_self.2 fun x hx => decide_eq_true (hlo x hx)
 have e2 : ((l.drop c).filter fun x => decide (x.f0 < v)) = [] := List.filter_eq_nil_iff.2 fun x hx => by rw [decide_eq_true_eq]; exact hhi x hx
 have e3 : ((l.take c).filter fun x => !decide (x.f0 < v)) = [] := List.filter_eq_nil_iff.2 fun x hx => by rw [decide_eq_true (hlo x hx)]; decide
 have e4 : ((l.drop c).filter fun x => !decide (x.f0 < v)) = l.drop c := List.filter_eq_self.2 fun x hx => by rw [decide_eq_false (hhi x hx)]; rfl
 constructor
 · conv => lhs; rw [← List.take_append_drop c l]
   rw [List.filter_append, e1, e2, List.append_nil]
 · conv => lhs; rw [← List.take_append_drop c l]
   rw [List.filter_append, e3, e4, List.nil_append]
theorem AddS_f (k : Nat) (l : List Sp) (s : Sp) (hl : FewS l) (hs : s.f3.length ≤ 40) (hk : 1400 < k) : sleep_Add.f k l s.f0 s.f1 s.f2 s.f3 s.f4 = some (addS l s) := by
 obtain ⟨k, rfl⟩ : ∃ m, k = m + 1 := ⟨k - 1, by omega⟩
 have hlen := hl.1
 unfold sleep_Add.f addS
 rw [RightF_f _ l hl (by omega), Option.bind_some]
 have bad : sleep_Add.j0 (k + 1) l true s.f0 s.f1 s.f2 s.f3 s.f4 = some (l, 1) := by
  simp only [sleep_Add.j0]; rw [if_pos trivial]
 by_cases hr : rightS l = true
 · have hR := (rightS_iff l).1 hr
   rw [if_pos hr, maySp_f _ s (by omega) (by omega), Option.bind_some]
   by_cases hm : maySp s = true
   · rw [show (!maySp s) = false by rw [hm]; rfl, if_pos ⟨hr, hm⟩]
     simp only [sleep_Add.j0]
     rw [if_neg (show ¬ false = true by decide)]
     by_cases ht : (l.any fun x => x.f0 == s.f0) = true
     · rw [if_pos ht]
       obtain ⟨x, hx, ex⟩ := List.any_eq_true.1 ht
       obtain ⟨i, hi, rfl⟩ := mem_idx hx
       have ex' : (l.getD i z26).f0 = s.f0 := by simpa using ex
       rw [← ex', place_yes k (by omega) hR.2 (by omega) hi, Option.bind_some, if_pos rfl]
     · rw [if_neg ht]
       have hno : ∀ x ∈ l, x.f0 ≠ s.f0 := fun x hx e => ht (List.any_eq_true.2 ⟨x, hx, by simpa using e⟩)
       obtain ⟨c, hc, e⟩ := place_no k (by omega) hR.2 (by omega) hno
       have hcl := hc.1
       obtain ⟨f1, f2⟩ := cut_filter hc
       rw [f1, f2, e, Option.bind_some, if_neg (show ¬ false = true by decide), CloneS_f l (by omega), Option.bind_some, Option.bind_some, if_pos (by omega), if_pos (by omega), if_pos (by simp; omega)]
       rfl
   · rw [show (!maySp s) = true by rw [Bool.eq_false_iff.2 hm]; rfl, if_neg (fun g => hm g.2)]
     exact bad
 · rw [if_neg hr, if_neg (fun g => hr g.1)]
   exact bad
theorem rAdd_l (l : List Sp) (s : Sp) (hl : l.length ≤ 1000) (d : Nat) : ∀ (k i : Nat), i ≤ l.length → l.length - i = d → d < k →
 r_15_Add.l0 k (l.map refSp) (((l.take i).filter fun x => decide (x.f0 < s.f0)).map refSp) (((l.take i).filter fun x => !decide (x.f0 < s.f0)).map refSp) (i : Int) s.f0 s.f1 s.f2 s.f3 (s.f4.map refO) = some (((l.filter fun x => decide (x.f0 < s.f0)) ++ [s] ++ (l.filter fun x => !decide (x.f0 < s.f0))).map refSp, 0) := by
 have f1 : ∀ (p : Sp → Bool) (i : Nat), ((l.take i).filter p).length ≤ 1000 := fun p i => Nat.le_trans (List.length_filter_le _ _) (by rw [List.length_take]; omega)
 have f2 : ∀ (p : Sp → Bool), (l.filter p).length ≤ 1000 := fun p => Nat.le_trans (List.length_filter_le _ _) hl
 induction d with
 | zero =>
  intro k i hi hd hk
  obtain ⟨k, rfl⟩ : ∃ m, k = m + 1 := ⟨k - 1, by omega⟩
  rw [List.take_of_length_le (by omega)]
  have g1 := f2 fun x => decide (x.f0 < s.f0)
  have g2 := f2 fun x => !decide (x.f0 < s.f0)
  simp only [r_15_Add.l0]
  rw [if_neg (by rw [List.length_map]; omega), if_pos (by rw [List.length_map]; omega), Option.bind_some, if_pos (by rw [List.length_append, List.length_map, List.length_map, List.length_singleton]; omega), List.map_append, List.map_append]
  rfl
 | succ d ih =>
  intro k i hi hd hk
  obtain ⟨k, rfl⟩ : ∃ m, k = m + 1 := ⟨k - 1, by omega⟩
  have next := ih k (i + 1) (by omega) (by omega) (by omega)
  rw [take_snG l z26 i (by omega), List.filter_append, List.filter_append, List.map_append, List.map_append] at next
  have g1 := f1 (fun x => decide (x.f0 < s.f0)) i
  have g2 := f1 (fun x => !decide (x.f0 < s.f0)) i
  simp only [r_15_Add.l0]
  rw [if_pos (by rw [List.length_map]; omega), if_pos (by omega), mapS_at l i (by omega), wrN (by omega)]
  generalize l.getD i z26 = x at *
  by_cases h : x.f0 < s.f0
  · rw [if_pos (show (refSp x).f0 < s.f0 from h), if_pos (by rw [List.length_map]; omega)]
    rw [List.filter_cons, if_pos (decide_eq_true h), List.filter_cons, if_neg (by rw [decide_eq_true h]; decide), List.filter_nil, List.filter_nil, List.map_nil, List.append_nil] at next
    exact next
  · rw [if_neg (show ¬ (refSp x).f0 < s.f0 from h), if_pos (by rw [List.length_map]; omega)]
    rw [List.filter_cons, if_neg (by rw [decide_eq_false h]; decide), List.filter_cons, if_pos (by rw [decide_eq_false h]; rfl), List.filter_nil, List.filter_nil, List.map_nil, List.append_nil] at next
    exact next
theorem rAddS_f (k : Nat) (l : List Sp) (s : Sp) (hl : FewS l) (hs : s.f3.length ≤ 40) (hk : 2000 < k) : r_15_Add.f k (l.map refSp) s.f0 s.f1 s.f2 s.f3 (s.f4.map refO) = some ((addS l s).1.map refSp, (addS l s).2) := by
 obtain ⟨k, rfl⟩ : ∃ m, k = m + 1 := ⟨k - 1, by omega⟩
 have hlen := hl.1
 unfold r_15_Add.f addS
 rw [rRightS_f _ l hl (by omega), Option.bind_some, rOne_f _ s (by omega) (by omega), Option.bind_some]
 have bad : r_15_Add.j0 (k + 1) (l.map refSp) true s.f0 s.f1 s.f2 s.f3 (s.f4.map refO) = some (l.map refSp, 1) := by
  simp only [r_15_Add.j0]; rw [if_pos trivial]
 by_cases hr : rightS l = true
 · rw [if_pos hr]
   by_cases hm : maySp s = true
   · rw [show (!maySp s) = false by rw [hm]; rfl, if_pos ⟨hr, hm⟩]
     simp only [r_15_Add.j0]
     rw [if_neg (show ¬ false = true by decide), rFindS_f k l s.f0 (by omega) (by omega), Option.bind_some]
     rcases idxT_cases (fun x : Sp => x.f0 == s.f0) z26 l 0 with ⟨h1, h2⟩ | ⟨j, hj, h1, h2, _⟩
     · rw [h1, if_neg (by decide), if_neg (by rw [List.any_eq_true]; rintro ⟨x, hx, ex⟩; rw [h2 x hx] at ex; exact absurd ex (by decide))]
       have := rAdd_l l s (by omega) l.length k 0 (by omega) (by omega) (by omega)
       exact this
     · rw [h1, if_pos (by omega), if_pos (List.any_eq_true.2 ⟨_, getD_in l z26 j hj, h2⟩)]
   · rw [show (!maySp s) = true by rw [Bool.eq_false_iff.2 hm]; rfl, if_neg (fun g => hm g.2)]
     exact bad
 · rw [if_neg hr, if_neg (fun g => hr g.1)]
   exact bad
theorem len_filter {α : Type} (p : α → Bool) : ∀ l : List α, (l.filter p).length + (l.filter fun x => !p x).length = l.length
 | [] => rfl
 | y :: l => by
  have := len_filter p l
  rw [List.filter_cons, List.filter_cons]
  by_cases h : p y = true
  · rw [if_pos h, if_neg (by rw [h]; decide), List.length_cons, List.length_cons]; omega
  · rw [if_neg h, if_pos (by rw [Bool.eq_false_iff.2 h]; rfl), List.length_cons, List.length_cons]; omega
theorem addS_few {l : List Sp} {s : Sp} (hl : FewS l) (h20 : l.length ≤ 20) (hs : s.f3.length ≤ 40 ∧ s.f4.length ≤ 20) : FewS (addS l s).1 := by
 unfold addS
 split
 · split
   · exact hl
   · refine ⟨?_, fun x hx => ?_⟩
     · have c := len_filter (fun x : Sp => decide (x.f0 < s.f0)) l
       show ((l.filter fun x => decide (x.f0 < s.f0)) ++ [s] ++ (l.filter fun x => !decide (x.f0 < s.f0))).length ≤ 30
       rw [List.length_append, List.length_append, List.length_singleton]; omega
     · rcases List.mem_append.1 hx with hx | hx
       · rcases List.mem_append.1 hx with hx | hx
         · exact hl.2 x (List.mem_filter.1 hx).1
         · rw [List.mem_singleton.1 hx]; exact hs
       · exact hl.2 x (List.mem_filter.1 hx).1
 · exact hl
end Go.Proofs.Ytjnkpocfmpbpoaa.Sw
namespace Go.Proofs.Ytjnkpocfmpbpoaa.Sw
open Go.RowKit Go.Proofs.YtjnkpocfmpbpoaaW.PrintWords Go.Proofs.YtjnkpocfmpbpoaaW.PrintLast Go.Proofs.YtjnkpocfmpbpoaaW.PrintMore Go.Proofs.Ytjnkpocfmpbpoaa.Ho
set_option linter.unusedVariables false
set_option linter.unusedSimpArgs false
/-! ### some fewer, and who watches -/
theorem rDrop_l (l : List Sp) (ws : List Int) (hm : ws.length < 1073741824) (d : Nat) : ∀ (k i : Nat) (x : List Sp), i ≤ ws.length → ws.length - i = d → d + 1000 < k → FewS x → x.Pairwise Lt →
 r_15_Drop.l0 k (l.map refSp) ws (x.map refSp) (i : Int) = some ((dropL l x (ws.drop i)).1.map refSp, (dropL l x (ws.drop i)).2) := by
 induction d with
 | zero =>
  intro k i x hi hd hk hx hp
  obtain ⟨k, rfl⟩ : ∃ m, k = m + 1 := ⟨k - 1, by omega⟩
  simp only [r_15_Drop.l0]
  rw [if_neg (by omega), List.drop_of_length_le (by omega)]; rfl
 | succ d ih =>
  intro k i x hi hd hk hx hp
  obtain ⟨k, rfl⟩ : ∃ m, k = m + 1 := ⟨k - 1, by omega⟩
  have hlen := hx.1
  simp only [r_15_Drop.l0]
  rw [if_pos (by omega), if_pos (by omega), drop_cons ws 0 i (by omega), show rd ws (i : Int) = ws.getD i 0 from rfl, wrN (by omega)]
  generalize ws.getD i 0 = w
  rw [rFindS_f k x w (by omega) (by omega), Option.bind_some]
  simp only [dropL]
  rcases idxT_cases (fun s : Sp => s.f0 == w) z26 x 0 with ⟨h1, h2⟩ | ⟨j, hj, h1, h2, _⟩
  · rw [h1, if_pos (by decide), if_neg (by rw [List.any_eq_true]; rintro ⟨y, hy, ey⟩; rw [h2 y hy] at ey; exact absurd ey (by decide))]
  · have es : (x.getD j z26).f0 = w := by simpa using h2
    have p1 : ¬ ((j : Int) < 0) := Int.not_lt.2 (Int.natCast_nonneg j)
    have p2 : 0 ≤ (j : Int) := Int.natCast_nonneg j
    have p4 : 0 ≤ ((j + 1 : Nat) : Int) := Int.natCast_nonneg _
    have hl1 : (x.map refSp).length = x.length := List.length_map _
    have p3 : (j : Int) ≤ ((x.map refSp).length : Int) := by rw [hl1]; exact Int.ofNat_le.2 (Nat.le_of_lt hj)
    have p5 : ((j + 1 : Nat) : Int) ≤ ((x.map refSp).length : Int) := by rw [hl1]; exact Int.ofNat_le.2 hj
    have ew : wrap64 ((j : Int) + 1) = ((j + 1 : Nat) : Int) := wrN (Nat.lt_of_lt_of_le hj (Nat.le_trans hlen (by decide)))
    have ha : (x.any fun s => s.f0 == w) = true := List.any_eq_true.2 ⟨_, getD_in x z26 j hj, h2⟩
    have e2 : [] ++ (x.map refSp).take ((j : Int)).toNat ++ (x.map refSp).drop (((j + 1 : Nat) : Int)).toNat = (x.filter fun s => s.f0 != w).map refSp := by
     rw [show ((j : Int)).toNat = j from rfl, show (((j + 1 : Nat) : Int)).toNat = j + 1 from rfl, List.nil_append, ← List.map_take, ← List.map_drop, ← List.map_append, ← List.eraseIdx_eq_take_drop_succ, erase_filter x hp j hj, es]
    rw [Int.zero_add] at h1
    rw [h1, if_pos ha, if_neg p1, if_pos p2, if_pos p3, Option.bind_some, if_pos (by clear ew e2; rw [List.length_take, hl1, List.length_nil]; omega), Option.bind_some, ew, if_pos p4, if_pos p5, Option.bind_some, if_pos (by clear ew e2; rw [List.nil_append, List.length_take, List.length_drop, hl1]; omega)]
    rw [e2]
    exact ih k (i + 1) _ (by omega) (by omega) (by omega) (few_subS hx List.filter_sublist) (hp.sublist List.filter_sublist)
theorem rDrop_f (k : Nat) (l : List Sp) (hl : FewS l) (ws : List Int) (hm : ws.length ≤ 100) (hk : 2000 < k) : r_15_Drop.f k (l.map refSp) ws = some (if rightS l = true then ((dropL l l ws).1.map refSp, (dropL l l ws).2) else (l.map refSp, 1)) := by
 unfold r_15_Drop.f
 rw [rRightS_f k l hl (by omega), Option.bind_some]
 by_cases h : rightS l = true
 · rw [if_pos h, if_pos h]
   exact rDrop_l l ws (by omega) ws.length k 0 l (by omega) (by omega) (by omega) hl ((rightS_iff l).1 h).2
 · rw [if_neg h, if_neg h]
theorem Drop_no (k : Nat) (l : List Sp) (hl : FewS l) (hR : ¬ rightS l = true) (ws : List Int) (hk : 1400 < k) : sleep_Drop.f k l ws = some (l, 1) := by
 have hlen := hl.1
 unfold sleep_Drop.f
 rw [CloneS_f l (by omega), Option.bind_some, RightF_f _ l hl (by omega), Option.bind_some, if_neg hR]
theorem dropL_few (l : List Sp) (hl : FewS l) : ∀ (ws : List Int) (x : List Sp), FewS x → FewS (dropL l x ws).1
 | [], x, hx => hx
 | w :: ws, x, hx => by
  simp only [dropL]
  split
  · exact dropL_few l hl ws _ (few_subS hx List.filter_sublist)
  · exact hl
theorem rOf_l2 (x : List Sp) (cells : List Int) (out : List Int) (i j : Nat) (hc : cells.length ≤ 100) (hx : x.length ≤ 1000) (hi : i < x.length) (hj : j < (x.getD i z26).f3.length) (b0 : Bool) (K : Nat) (r : Option (List Int)) (he : ∀ k, K < k → r_15_Of.l1 k (x.map refSp) cells out true (i : Int) (b0 || cells.contains (((x.getD i z26).f3.getD j z62).f0)) (wrap64 ((j : Int) + 1)) = r) (d : Nat) : ∀ (k c : Nat) (b : Bool), c ≤ cells.length → cells.length - c = d → d + K + 1 < k → b = (b0 || (cells.take c).contains (((x.getD i z26).f3.getD j z62).f0)) →
 r_15_Of.l2 k (x.map refSp) cells out true (i : Int) b (j : Int) (c : Int) = r := by
 induction d with
 | zero =>
  intro k c b hcl hd hk hb
  obtain ⟨k, rfl⟩ : ∃ m, k = m + 1 := ⟨k - 1, by omega⟩
  rw [List.take_of_length_le (by omega)] at hb
  simp only [r_15_Of.l2]
  rw [if_neg (by omega), hb]
  exact he k (by omega)
 | succ d ih =>
  intro k c b hcl hd hk hb
  obtain ⟨k, rfl⟩ : ∃ m, k = m + 1 := ⟨k - 1, by omega⟩
  have et := take_snG cells 0 c (by omega)
  have next := fun b' e => ih k (c + 1) b' (by omega) (by omega) (by omega) e
  rw [et] at next
  simp only [r_15_Of.l2]
  rw [if_pos (by omega), mapS_at x i hi, wrN (by omega), show rd cells (c : Int) = cells.getD c 0 from rfl]
  cases b with
  | true =>
   rw [if_pos rfl]
   refine next true ?_
   rw [List.contains_append, ← Bool.or_assoc, ← hb]; rfl
  | false =>
   rw [if_neg (by decide), if_pos (by omega), if_pos (by omega), if_pos (by rw [List.length_map]; omega), if_pos (by omega), if_pos (show (j : Int) < ((refSp (x.getD i z26)).f3.length : Int) by show (j : Int) < ((x.getD i z26).f3.length : Int); omega)]
   refine next _ ?_
   rw [List.contains_append, ← Bool.or_assoc, ← hb, Bool.false_or]
   show (cells.getD c 0 == ((x.getD i z26).f3.getD j z62).f0) = [cells.getD c 0].contains _
   rw [List.contains_cons, List.contains_nil, Bool.or_false, Bool.eq_iff_iff, beq_iff_eq, beq_iff_eq]
   exact eq_comm
theorem rOf_l1 (x : List Sp) (cells : List Int) (out : List Int) (i : Nat) (hc : cells.length ≤ 100) (hx : x.length ≤ 1000) (hi : i < x.length) (hw : (x.getD i z26).f3.length ≤ 40) (ho : out.length ≤ 1000) (K : Nat) (r : Option (List Int)) (he : ∀ k, K < k → r_15_Of.l0 k (x.map refSp) cells (if isOf cells (x.getD i z26) = true then out ++ [(x.getD i z26).f0] else out) true (wrap64 ((i : Int) + 1)) = r) (d : Nat) : ∀ (k j : Nat) (b : Bool), j ≤ (x.getD i z26).f3.length → (x.getD i z26).f3.length - j = d → 110 * d + K + 1 < k → b = (((x.getD i z26).f3.take j).any fun w => cells.contains w.f0) →
 r_15_Of.l1 k (x.map refSp) cells out true (i : Int) b (j : Int) = r := by
 induction d with
 | zero =>
  intro k j b hj hd hk hb
  obtain ⟨k, rfl⟩ : ∃ m, k = m + 1 := ⟨k - 1, by omega⟩
  rw [List.take_of_length_le (by omega)] at hb
  have he' := he k (by omega)
  simp only [r_15_Of.l1]
  rw [if_pos (by omega), if_pos (by rw [List.length_map]; omega), mapS_at x i hi, if_neg (show ¬ (j : Int) < ((refSp (x.getD i z26)).f3.length : Int) by show ¬ (j : Int) < ((x.getD i z26).f3.length : Int); omega)]
  have hb' : isOf cells (x.getD i z26) = b := hb.symm
  rw [hb'] at he'
  cases b with
  | true => rw [if_pos rfl, if_pos (by omega)]; exact he'
  | false => rw [if_neg (by decide)]; exact he'
 | succ d ih =>
  intro k j b hj hd hk hb
  obtain ⟨k, rfl⟩ : ∃ m, k = m + 1 := ⟨k - 1, by omega⟩
  simp only [r_15_Of.l1]
  rw [if_pos (by omega), if_pos (by rw [List.length_map]; omega), mapS_at x i hi, if_pos (show (j : Int) < ((refSp (x.getD i z26)).f3.length : Int) by show (j : Int) < ((x.getD i z26).f3.length : Int); omega)]
  refine rOf_l2 x cells out i j hc hx hi (by omega) b (110 * d + K + 1) r (fun k hk => ?_) cells.length k 0 b (by omega) (by omega) (by omega) (by simp)
  rw [wrN (by omega)]
  refine ih k (j + 1) _ (by omega) (by omega) (by omega) ?_
  rw [take_snG _ z62 j (by omega), List.any_append, ← hb]; simp
theorem rOf_l0 (x : List Sp) (cells : List Int) (hF : FewS x) (hc : cells.length ≤ 100) (d : Nat) : ∀ (k i : Nat), i ≤ x.length → x.length - i = d → 5000 * d + 10 < k →
 r_15_Of.l0 k (x.map refSp) cells (((x.take i).filter (isOf cells)).map fun s => s.f0) true (i : Int) = some ((x.filter (isOf cells)).map fun s => s.f0) := by
 have hlen := hF.1
 induction d with
 | zero =>
  intro k i hi hd hk
  obtain ⟨k, rfl⟩ : ∃ m, k = m + 2 := ⟨k - 2, by omega⟩
  simp only [r_15_Of.l0]
  rw [if_neg (by rw [List.length_map]; omega)]
  simp only [r_15_Of.j1]
  rw [if_neg (by decide), List.take_of_length_le (by omega)]
 | succ d ih =>
  intro k i hi hd hk
  obtain ⟨k, rfl⟩ : ∃ m, k = m + 2 := ⟨k - 2, by omega⟩
  have hs := hF.2 _ (getD_in x z26 i (by omega))
  simp only [r_15_Of.l0]
  rw [if_pos (by rw [List.length_map]; omega)]
  simp only [r_15_Of.j1]
  rw [if_pos trivial]
  refine rOf_l1 x cells _ i hc (by omega) (by omega) hs.1 (by
   rw [List.length_map]
   refine Nat.le_trans (List.length_filter_le _ _) ?_
   rw [List.length_take]; omega) (5000 * d + 10) _ (fun k hk => ?_) _ k 0 false (by omega) rfl (by omega) (by simp)
  have next := ih k (i + 1) (by omega) (by omega) (by omega)
  rw [take_snG x z26 i (by omega), List.filter_append, List.map_append] at next
  rw [wrN (by omega)]
  generalize x.getD i z26 = s at *
  by_cases h : isOf cells s = true
  · rw [if_pos h]
    rw [List.filter_cons, if_pos h] at next
    exact next
  · rw [if_neg h]
    rw [List.filter_cons, if_neg h, List.filter_nil, List.map_nil, List.append_nil] at next
    exact next
theorem rOf_f (k : Nat) (l : List Sp) (cells : List Int) (hF : FewS l) (hc : cells.length ≤ 100) (hk : 200000 < k) : r_15_Of.f k (l.map refSp) cells = some (if rightS l = true then (l.filter (isOf cells)).map fun s => s.f0 else []) := by
 have hlen := hF.1
 unfold r_15_Of.f
 rw [rRightS_f k l hF (by omega), Option.bind_some]
 by_cases h : rightS l = true
 · rw [h, if_pos rfl]
   exact rOf_l0 l cells hF hc l.length k 0 (by omega) (by omega) (by omega)
 · rw [if_neg h, Bool.eq_false_iff.2 h]
   obtain ⟨k, rfl⟩ : ∃ m, k = m + 2 := ⟨k - 2, by omega⟩
   simp [r_15_Of.l0, r_15_Of.j1]
theorem NumbersL (l : List Int) (hm : l.length < 4398046511104) (d : Nat) : ∀ (k i : Nat), i ≤ l.length → l.length - i = d → d < k → r_03_Numbers.l0 k l l (i : Int) = some true := by
 induction d with
 | zero =>
  intro k i hi hd hk
  obtain ⟨k, rfl⟩ : ∃ m, k = m + 1 := ⟨k - 1, by omega⟩
  simp only [r_03_Numbers.l0]
  rw [if_neg (by omega)]
 | succ d ih =>
  intro k i hi hd hk
  obtain ⟨k, rfl⟩ : ∃ m, k = m + 1 := ⟨k - 1, by omega⟩
  simp only [r_03_Numbers.l0]
  rw [if_pos (by omega), if_pos (by omega), if_pos (by omega), if_pos trivial, wrN (by omega)]
  exact ih k (i + 1) (by omega) (by omega) (by omega)
theorem NumbersF (k : Nat) (l : List Int) (hm : l.length < 4398046511104) (hk : l.length < k) : r_03_Numbers.f k l l = some true := by
 unfold r_03_Numbers.f
 rw [if_pos rfl]
 exact NumbersL l hm l.length k 0 (by omega) (by omega) (by omega)
end Go.Proofs.Ytjnkpocfmpbpoaa.Sw
