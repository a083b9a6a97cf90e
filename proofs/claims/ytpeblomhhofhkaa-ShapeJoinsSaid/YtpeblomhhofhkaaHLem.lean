/-
 PROVED: Plain lemmas on numbers and lists, of what the printed functions answer. No condition beside those of each lemma.
-/
import Derived.Test.YtpeblomhhofhkaaHx2
import Derived.Test.YtpeblomhhofhkaaHx3
import Derived.Test.YtpeblomhhofhkaaHx7
namespace Go.Proofs.Ytpeblomhhofhkaa.H
open Go.RowKit Go.Proofs.YtpeblomhhofhkaaW.PrintWords Go.Proofs.YtpeblomhhofhkaaW.PrintLast Go.Proofs.YtpeblomhhofhkaaW.PrintMore Go.Proofs.Ytpeblomhhofhkaa.Ho
set_option linter.unusedVariables false
set_option linter.unusedSimpArgs false
theorem wr {i : Int} (h0 : -9223372036854775808 ≤ i) (h : i ≤ 9223372036854775807) : wrap64 i = i := by unfold wrap64; omega
theorem wrN {i : Nat} (h : i < 4611686018427387904) : wrap64 ((i : Int) + 1) = ((i + 1 : Nat) : Int) := by unfold wrap64; omega
theorem drop_cons {α : Type} (l : List α) (z : α) (i : Nat) (h : i < l.length) : l.drop i = l.getD i z :: l.drop (i + 1) := by
 rw [List.drop_eq_getElem_cons h]
 simp [List.getElem?_eq_getElem h]
/-- The first place at which p holds, from i on, or -1. -/
def idxT {α : Type} (p : α → Bool) : List α → Int → Int
 | [], _ => -1
 | x :: xs, i => if p x then i else idxT p xs (i + 1)
theorem idxT_yes {α : Type} {p : α → Bool} {x : α} {xs : List α} {i : Int} (h : p x = true) : idxT p (x :: xs) i = i := by simp [idxT, h]
theorem idxT_no {α : Type} {p : α → Bool} {x : α} {xs : List α} {i : Int} (h : p x = false) : idxT p (x :: xs) i = idxT p xs (i + 1) := by simp [idxT, h]
theorem idxF_T {α : Type} {f : α → Option Bool} {p : α → Bool} : ∀ (l : List α) (i : Int), (∀ x ∈ l, f x = some (p x)) → idxF f l i = some (idxT p l i)
 | [], _, _ => rfl
 | x :: xs, i, h => by
  simp only [idxF, idxT]
  rw [h x (by simp), idxF_T xs (i + 1) (fun y hy => h y (by simp [hy]))]
  simp only [Option.bind_some]
  cases p x <;> rfl
theorem anyF_T {α : Type} {f : α → Option Bool} {p : α → Bool} : ∀ (l : List α), (∀ x ∈ l, f x = some (p x)) → anyF f l = some (l.any p)
 | [], _ => rfl
 | x :: xs, h => by
  simp only [anyF, List.any_cons]
  rw [h x (by simp), anyF_T xs (fun y hy => h y (by simp [hy]))]
  simp only [Option.bind_some]
  cases p x <;> rfl
theorem idxT_cases {α : Type} (p : α → Bool) (z : α) : ∀ (l : List α) (i : Int), (idxT p l i = -1 ∧ ∀ x ∈ l, p x = false) ∨ ∃ j : Nat, j < l.length ∧ idxT p l i = i + j ∧ p (l.getD j z) = true ∧ ∀ m, m < j → p (l.getD m z) = false
 | [], i => .inl ⟨rfl, fun x hx => by cases hx⟩
 | x :: xs, i => by
  cases hx : p x with
  | true => exact .inr ⟨0, by simp, by simp [idxT, hx], by simpa using hx, fun m hm => by omega⟩
  | false =>
   rcases idxT_cases p z xs (i + 1) with ⟨h1, h2⟩ | ⟨j, h1, h2, h3, h4⟩
   · exact .inl ⟨by simp [idxT, hx, h1], fun y hy => by rcases List.mem_cons.1 hy with rfl | hy; exact hx; exact h2 y hy⟩
   · refine .inr ⟨j + 1, by simpa using h1, by simp [idxT, hx, h2]; omega, by simpa using h3, fun m hm => ?_⟩
     cases m with
     | zero => simpa using hx
     | succ m => simpa using h4 m (by omega)
def inR (v : Int) : Bool := decide (-2147483648 ≤ v ∧ v ≤ 2147483647)
theorem right_f (a : Int) : span_Right.f a = some (inR a) := by
 unfold span_Right.f inR
 by_cases h : a ≥ (-2147483648)
 · rw [if_pos h]; simp [h]
 · rw [if_neg h]; simp [h]
theorem u64w (a : Int) : IntKind.u64.wrap a = a % 18446744073709551616 := by
 unfold IntKind.wrap
 simp [IntKind.bits, IntKind.signed]
theorem w32_eq {x y : Int} : wrap32 x = wrap32 y ↔ x % 4294967296 = y % 4294967296 := by
 unfold wrap32; omega
theorem w64_small {x : Int} (h : -9223372036854775808 ≤ x) (h2 : x ≤ 9223372036854775807) : wrap64 x = x := by
 unfold wrap64; omega
theorem w32_lo (x : Int) : -2147483648 ≤ wrap32 x := by unfold wrap32; omega
theorem w32_hi (x : Int) : wrap32 x ≤ 2147483647 := by unfold wrap32; omega
theorem w32_id {x : Int} (h : -2147483648 ≤ x) (h2 : x ≤ 2147483647) : wrap32 x = x := by unfold wrap32; omega
theorem w32_w64 (x : Int) : wrap32 (wrap64 x) = wrap32 x := by unfold wrap32 wrap64; omega
theorem w32_w32 (x : Int) : wrap32 (wrap32 x) = wrap32 x := by unfold wrap32; omega
theorem w32_addl (x y : Int) : wrap32 (wrap32 x + y) = wrap32 (x + y) := by unfold wrap32; omega
theorem w32_addr (x y : Int) : wrap32 (x + wrap32 y) = wrap32 (x + y) := by unfold wrap32; omega
theorem w32_subl (x y : Int) : wrap32 (wrap32 x - y) = wrap32 (x - y) := by unfold wrap32; omega
theorem w32_subr (x y : Int) : wrap32 (x - wrap32 y) = wrap32 (x - y) := by unfold wrap32; omega
theorem w32_mod (x : Int) : wrap32 x % 4294967296 = x % 4294967296 := by unfold wrap32; omega
theorem w32_mull (x y : Int) : wrap32 (wrap32 x * y) = wrap32 (x * y) := by
 rw [w32_eq, Int.mul_emod, w32_mod, ← Int.mul_emod]
theorem w32_mulr (x y : Int) : wrap32 (x * wrap32 y) = wrap32 (x * y) := by
 rw [w32_eq, Int.mul_emod, w32_mod, ← Int.mul_emod]
theorem tmodM (a : Int) : a.tmod 4294967296 = if 0 ≤ a then a % 4294967296 else -((-a) % 4294967296) := by
 split
 · exact Int.tmod_eq_emod_of_nonneg ‹_›
 · have : a.tmod 4294967296 = -((-a).tmod 4294967296) := by rw [Int.neg_tmod]; omega
   rw [this, Int.tmod_eq_emod_of_nonneg (by omega)]
theorem wrap_f (a : Int) : span_Wrap.f a = some (wrap32 a) := by
 unfold span_Wrap.f
 rw [u64w]; unfold wrap64 wrap32
 congr 1; omega
theorem tmod16 (a : Int) : a.tmod 65536 = if 0 ≤ a then a % 65536 else -((-a) % 65536) := by
 split
 · exact Int.tmod_eq_emod_of_nonneg ‹_›
 · have : a.tmod 65536 = -((-a).tmod 65536) := by rw [Int.neg_tmod]; omega
   rw [this, Int.tmod_eq_emod_of_nonneg (by omega)]
theorem prod_bd {x y X Y : Int} (h1 : -X ≤ x) (h2 : x ≤ X) (h3 : -Y ≤ y) (h4 : y ≤ Y) (hX : 0 ≤ X) : -(X * Y) ≤ x * y ∧ x * y ≤ X * Y := by
 have a1 : (X - x) * (Y + y) ≥ 0 := Int.mul_nonneg (by omega) (by omega)
 have a2 : (X + x) * (Y - y) ≥ 0 := Int.mul_nonneg (by omega) (by omega)
 have a3 : (X - x) * (Y - y) ≥ 0 := Int.mul_nonneg (by omega) (by omega)
 have a4 : (X + x) * (Y + y) ≥ 0 := Int.mul_nonneg (by omega) (by omega)
 simp only [Int.sub_mul, Int.add_mul, Int.mul_add, Int.mul_sub] at a1 a2 a3 a4
 constructor <;> omega
/-! ### terms -/
def takes (a : Int) : Nat := if 4 ≤ a ∧ a ≤ 10 then 2 else if a = 11 then 1 else 0
theorem takes_le (a : Int) : takes a ≤ 2 := by unfold takes; split <;> (try split) <;> omega
def mayB (a b : Int) : Bool := if a = 1 then inR b else if a = 2 then decide (0 ≤ b ∧ b < 64) else if a = 3 then decide (0 ≤ b ∧ b < 8) else decide (0 < takes a) && b == 0
theorem takes_f (k : Nat) (a b : Int) (hk : 0 < k) : term_Op_takes.f k a b = some (takes a : Int) := by
 obtain ⟨k, rfl⟩ : ∃ q, k = q + 1 := ⟨k - 1, by omega⟩
 unfold term_Op_takes.f takes
 simp only [term_Op_takes.j0, decide_eq_true_eq]
 repeat' split
 all_goals first | rfl | (exfalso; omega) | (simp at *; done) | (simp at *; omega)
theorem may_f (k : Nat) (a b : Int) (hk : 0 < k) : term_Op_may.f k a b = some (mayB a b) := by
 unfold term_Op_may.f mayB
 rw [takes_f _ _ _ hk, right_f]
 simp only [Option.bind_some]
 split
 · rfl
 · split
   · by_cases h : b ≥ 0 <;> simp [h]
   · split
     · by_cases h : b ≥ 0 <;> simp [h]
     · by_cases h : takes a = 0
       · simp [h]
       · rw [if_pos (by omega), decide_eq_true (by omega)]; simp
/-- How many numbers there are behind all, or none if there are too few. -/
def walkN : List S50 → Nat → Option Nat
 | [], n => some n
 | o :: os, n => if n < takes o.f0 then none else walkN os (n + 1 - takes o.f0)
def mostN : List S50 → Nat → Nat → Nat
 | [], _, m => m
 | o :: os, n, m => if n < takes o.f0 then 0 else mostN os (n + 1 - takes o.f0) (if m < n + 1 - takes o.f0 then n + 1 - takes o.f0 else m)
def walkI (t : List S50) (n : Nat) : Int := match walkN t n with | some m => (m : Int) | none => -1
theorem walk_l (t : List S50) (hm : t.length < 4398046511104) (d : Nat) : ∀ (k i n m : Nat), i ≤ t.length → t.length - i = d → d + 1 < k → n ≤ i → m ≤ i →
 term_walk.l0 k (n : Int) (m : Int) t (t.length : Int) (i : Int) = some (walkI (t.drop i) n, (mostN (t.drop i) n m : Int)) := by
 induction d with
 | zero =>
  intro k i n m hi hd hk hn hm'
  obtain ⟨k, rfl⟩ : ∃ q, k = q + 1 := ⟨k - 1, by omega⟩
  rw [List.drop_of_length_le (by omega)]
  simp only [term_walk.l0, walkI, walkN, mostN]
  rw [if_neg (by omega)]
 | succ d ih =>
  intro k i n m hi hd hk hn hm'
  obtain ⟨k, rfl⟩ : ∃ q, k = q + 1 := ⟨k - 1, by omega⟩
  rw [drop_cons t z50 i (by omega)]
  simp only [term_walk.l0]
  rw [if_pos (by omega), if_pos (by omega), if_pos (by omega), takes_f _ _ _ (by omega)]
  simp only [Option.bind_some]
  rw [show rd_T50 t (i : Int) = t.getD i z50 from rfl]
  have hlt := takes_le (t.getD i z50).f0
  unfold walkI
  simp only [walkN, mostN]
  by_cases h : n < takes (t.getD i z50).f0
  · rw [if_pos (by omega), if_pos h, if_pos h]; rfl
  · rw [if_neg (by omega), if_neg h, if_neg h, wrN (by omega)]
    have e1 : wrap64 ((n : Int) + wrap64 (1 - (takes (t.getD i z50).f0 : Int))) = ((n + 1 - takes (t.getD i z50).f0 : Nat) : Int) := by
     rw [wr (i := 1 - (takes (t.getD i z50).f0 : Int)) (by omega) (by omega), wr (by omega) (by omega)]; omega
    rw [e1]
    have e2 : mx (m : Int) ((n + 1 - takes (t.getD i z50).f0 : Nat) : Int) = ((if m < n + 1 - takes (t.getD i z50).f0 then n + 1 - takes (t.getD i z50).f0 else m : Nat) : Int) := by
     unfold mx
     by_cases h3 : m < n + 1 - takes (t.getD i z50).f0
     · rw [if_pos h3, if_pos (by omega)]
     · rw [if_neg h3, if_neg (by omega)]
    rw [e2, ih k (i + 1) _ _ (by omega) (by omega) (by omega) (by omega) (by split <;> omega)]
    rfl
theorem walk_f (k : Nat) (t : List S50) (hm : t.length < 4398046511104) (hk : t.length + 1 < k) : term_walk.f k t = some (walkI t 0, (mostN t 0 0 : Int)) := by
 unfold term_walk.f
 have := walk_l t hm t.length k 0 0 0 (by omega) (by omega) (by omega) (by omega) (by omega)
 simpa using this
def mayAll (t : List S50) : Bool := t.all fun o => mayB o.f0 o.f1
/-- Does it stand well? -/
def checkB (t : List S50) : Int := if 1 ≤ t.length ∧ t.length ≤ 12 ∧ mayAll t = true then (if walkN t 0 = some 1 then 0 else 2) else 1
theorem any_may (k : Nat) (t : List S50) (hk : 0 < k) : any_at_term_Check_1.f k t = some (!(mayAll t)) := by
 unfold any_at_term_Check_1.f mayAll
 rw [anyF_T (p := fun o => !(mayB o.f0 o.f1)) t (fun o _ => by unfold term_Check_1.f; rw [may_f _ _ _ hk]; rfl)]
 congr 1
 induction t with
 | nil => rfl
 | cons x xs ih => simp only [List.any_cons, List.all_cons, ih]; cases mayB x.f0 x.f1 <;> simp
theorem walkI_one (t : List S50) : walkI t 0 = 1 ↔ walkN t 0 = some 1 := by
 unfold walkI
 cases walkN t 0 with
 | none => simp
 | some m => simp; omega
theorem Check_f (k : Nat) (t : List S50) (hk : 20 ≤ k) : term_Check.f k t = some (checkB t) := by
 obtain ⟨k, rfl⟩ : ∃ q, k = q + 1 := ⟨k - 1, by omega⟩
 unfold term_Check.f checkB
 simp only [term_Check.j0]
 by_cases h1 : t.length < 1
 · rw [if_pos (by omega), if_pos trivial, if_neg (by omega)]
 · rw [if_neg (by omega)]
   by_cases h2 : t.length > 12
   · rw [if_pos (by omega), if_pos trivial, if_neg (by omega)]
   · rw [if_neg (by omega), any_may _ _ (by omega)]
     simp only [Option.bind_some]
     by_cases h3 : mayAll t = true
     · rw [h3, if_neg (by simp), if_pos ⟨by omega, by omega, rfl⟩, walk_f k t (by omega) (by omega)]
       simp only [Option.bind_some]
       by_cases h4 : walkN t 0 = some 1
       · rw [if_pos ((walkI_one t).2 h4), if_pos h4]
       · rw [if_neg (fun e => h4 ((walkI_one t).1 e)), if_neg h4]
     · rw [if_pos (by simpa using h3), if_neg (fun e => h3 e.2.2)]
theorem checkB_ok {t : List S50} (h : checkB t = 0) : 1 ≤ t.length ∧ t.length ≤ 12 ∧ (∀ o ∈ t, mayB o.f0 o.f1 = true) ∧ walkN t 0 = some 1 := by
 unfold checkB at h
 split at h
 · rename_i h1
   split at h
   · exact ⟨h1.1, h1.2.1, by simpa [mayAll] using h1.2.2, by assumption⟩
   · simp at h
 · simp at h
theorem checkB_of {t : List S50} (h1 : 1 ≤ t.length) (h2 : t.length ≤ 12) (h3 : ∀ o ∈ t, mayB o.f0 o.f1 = true) (h4 : walkN t 0 = some 1) : checkB t = 0 := by
 unfold checkB
 rw [if_pos ⟨h1, h2, by simpa [mayAll] using h3⟩, if_pos h4]
theorem walkN_app : ∀ (a b : List S50) (n : Nat), walkN (a ++ b) n = (walkN a n).bind (walkN b)
 | [], b, n => rfl
 | o :: os, b, n => by
  simp only [List.cons_append, walkN]
  split
  · rfl
  · exact walkN_app os b _
theorem walkN_frame : ∀ (a : List S50) (n m j : Nat), walkN a n = some m → walkN a (n + j) = some (m + j)
 | [], n, m, j, e => by simp only [walkN, Option.some.injEq] at e ⊢; omega
 | o :: os, n, m, j, e => by
  simp only [walkN] at e ⊢
  split at e
  · simp at e
  · have := takes_le o.f0
    rw [if_neg (by omega)]
    have := walkN_frame os _ m j e
    rw [show n + j + 1 - takes o.f0 = n + 1 - takes o.f0 + j from by omega]
    exact this
theorem take_sn (t : List S50) (i : Nat) (hi : i < t.length) : t.take (i + 1) = t.take i ++ [t.getD i z50] := by
 rw [List.take_add_one, List.getD_eq_getElem?_getD, List.getElem?_eq_getElem hi]; rfl
/-! the cells that a term names -/
def cellsL (t : List S50) : List Int := (t.filter fun o => o.f0 == 2).map fun o => o.f1
def cellsB (t : List S50) : List Int := if checkB t = 0 then Go.Lib.compact ((cellsL t).mergeSort fun x y => decide (x ≤ y)) else []
theorem cellsL_len (t : List S50) : (cellsL t).length ≤ t.length := by
 unfold cellsL
 rw [List.length_map]
 exact List.length_filter_le _ _
theorem Cells_l (t : List S50) (hm : t.length ≤ 12) (d : Nat) : ∀ (k i : Nat) (out : List Int), i ≤ t.length → t.length - i = d → d < k → out.length ≤ i →
 term_Cells.l0 k out t (t.length : Int) (i : Int) = some (Go.Lib.compact ((out ++ cellsL (t.drop i)).mergeSort fun x y => decide (x ≤ y))) := by
 induction d with
 | zero =>
  intro k i out hi hd hk ho
  obtain ⟨k, rfl⟩ : ∃ m, k = m + 1 := ⟨k - 1, by omega⟩
  rw [List.drop_of_length_le (by omega)]
  simp only [term_Cells.l0, slices_Sort.f, slices_Compact.f]
  rw [if_neg (by omega), if_pos (by omega)]
  simp only [Option.bind_some]
  rw [if_pos (by simp; omega)]
  simp [cellsL]
 | succ d ih =>
  intro k i out hi hd hk ho
  obtain ⟨k, rfl⟩ : ∃ m, k = m + 1 := ⟨k - 1, by omega⟩
  rw [drop_cons t z50 i (by omega)]
  simp only [term_Cells.l0]
  rw [if_pos (by omega), if_pos (by omega), if_pos (by omega), wrN (by omega)]
  rw [show rd_T50 t (i : Int) = t.getD i z50 from rfl]
  by_cases h2 : (t.getD i z50).f0 = 2
  · rw [if_pos h2, if_pos (by omega), ih k (i + 1) _ (by omega) (by omega) (by omega) (by simp; omega)]
    have : cellsL (t.getD i z50 :: t.drop (i + 1)) = (t.getD i z50).f1 :: cellsL (t.drop (i + 1)) := by
     unfold cellsL
     generalize t.getD i z50 = o at h2 ⊢
     simp [List.filter_cons, h2]
    rw [this]; simp
  · rw [if_neg h2, ih k (i + 1) _ (by omega) (by omega) (by omega) (by omega)]
    have : cellsL (t.getD i z50 :: t.drop (i + 1)) = cellsL (t.drop (i + 1)) := by
     unfold cellsL
     generalize t.getD i z50 = o at h2 ⊢
     simp [List.filter_cons, h2]
    rw [this]
theorem Cells_f (k : Nat) (t : List S50) (hk : 20 ≤ k) : term_Cells.f k t = some (cellsB t) := by
 unfold term_Cells.f cellsB
 rw [Check_f k t hk]
 simp only [Option.bind_some]
 by_cases h : checkB t = 0
 · rw [if_pos h, if_pos h]
   have := checkB_ok h
   exact Cells_l t (by omega) t.length k 0 [] (by omega) (by omega) (by omega) (by simp)
 · rw [if_neg h, if_neg h]
theorem comp_len (l : List Int) : (Go.Lib.compact l).length ≤ l.length := by
 unfold Go.Lib.compact Go.Lib.compactUpTo
 rw [List.length_map]
 refine Nat.le_trans (List.length_filter_le _ _) ?_
 simp
theorem cellsB_len (t : List S50) : (cellsB t).length ≤ 12 := by
 unfold cellsB
 split
 · rename_i h
   have := checkB_ok h
   have := cellsL_len t
   refine Nat.le_trans (comp_len _) ?_
   rw [List.length_mergeSort]; omega
 · simp
end Go.Proofs.Ytpeblomhhofhkaa.H
