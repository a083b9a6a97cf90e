/-
 PROVED: Plain lemmas on numbers and lists, of what the printed functions answer. No condition beside those of each lemma.
-/
import Derived.Test.YtpeblomhhofhkaaHShI
import Derived.Test.YtpeblomhhofhkaaHx2
import Derived.Test.YtpeblomhhofhkaaHx3
import Derived.Test.YtpeblomhhofhkaaHx4
import Derived.Test.YtpeblomhhofhkaaHx5
import Derived.Test.YtpeblomhhofhkaaHx7
import Derived.Test.YtpeblomhhofhkaaHx8
import Derived.Test.YtpeblomhhofhkaaHx10
import Derived.Test.YtpeblomhhofhkaaHx12
import Derived.Test.YtpeblomhhofhkaaHx13
import Derived.Test.YtpeblomhhofhkaaHx14
import Derived.Test.YtpeblomhhofhkaaHx15
import Derived.Test.YtpeblomhhofhkaaHx17
import Derived.Test.YtpeblomhhofhkaaHx18
namespace Go.Proofs.Ytpeblomhhofhkaa.H
open Go.RowKit Go.Proofs.YtpeblomhhofhkaaW.PrintWords Go.Proofs.YtpeblomhhofhkaaW.PrintLast Go.Proofs.YtpeblomhhofhkaaW.PrintMore Go.Proofs.Ytpeblomhhofhkaa.Ho
set_option linter.unusedVariables false
set_option linter.unusedSimpArgs false
theorem wr {i : Int} (h0 : -9223372036854775808 ≤ i) (h : i ≤ 9223372036854775807) : wrap64 i = i := by unfold wrap64; omega
theorem wrN {i : Nat} (h : i < 4611686018427387904) : wrap64 ((i : Int) + 1) = ((i + 1 : Nat) : Int) := by unfold wrap64; omega
theorem drop_cons {α : Type} (l : List α) (z : α) (i : Nat) (h : i < l.length) : l.drop i = l.getD i z :: l.drop (i + 1) := by
 rw [List.drop_eq_getElem_cons h]
 simp [List.getElem?_eq_getElem h]
/-- The first place at which p holds, from i on, or -1. -/
def idxT {α : Type} (p : α → Bool) : List α → Int → Int
 | [], _ => -1
 | x :: xs, i => if p x then i else idxT p xs (i + 1)
theorem anyF_T {α : Type} {f : α → Option Bool} {p : α → Bool} : ∀ (l : List α), (∀ x ∈ l, f x = some (p x)) → anyF f l = some (l.any p)
 | [], _ => rfl
 | x :: xs, h => by
  simp only [anyF, List.any_cons]
  rw [h x (by simp), anyF_T xs (fun y hy => h y (by simp [hy]))]
  simp only [Option.bind_some]
  cases p x <;> rfl
def inR (v : Int) : Bool := decide (-2147483648 ≤ v ∧ v ≤ 2147483647)
theorem right_f (a : Int) : span_Right.f a = some (inR a) := by
 unfold span_Right.f inR
 by_cases h : a ≥ (-2147483648)
 · rw [if_pos h]; simp [h]
 · rw [if_neg h]; simp [h]
theorem u64w (a : Int) : IntKind.u64.wrap a = a % 18446744073709551616 := by
 unfold IntKind.wrap
 simp [IntKind.bits, IntKind.signed]
theorem wrap_f (a : Int) : span_Wrap.f a = some (wrap32 a) := by
 unfold span_Wrap.f
 rw [u64w]; unfold wrap64 wrap32
 congr 1; omega
/-! ### terms -/
def takes (a : Int) : Nat := if 4 ≤ a ∧ a ≤ 10 then 2 else if a = 11 then 1 else 0
theorem takes_le (a : Int) : takes a ≤ 2 := by unfold takes; split <;> (try split) <;> omega
def mayB (a b : Int) : Bool := if a = 1 then inR b else if a = 2 then decide (0 ≤ b ∧ b < 64) else if a = 3 then decide (0 ≤ b ∧ b < 8) else decide (0 < takes a) && b == 0
theorem takes_f (k : Nat) (a b : Int) (hk : 0 < k) : term_Op_takes.f k a b = some (takes a : Int) := by
 obtain ⟨k, rfl⟩ : ∃ q, k = q + 1 := ⟨k - 1, by omega⟩
 unfold term_Op_takes.f takes
 simp only [term_Op_takes.j0, decide_eq_true_eq]
 repeat' split
 all_goals first | rfl | (exfalso; omega) | (simp at *; done) | (simp at *; omega)
theorem may_f (k : Nat) (a b : Int) (hk : 0 < k) : term_Op_may.f k a b = some (mayB a b) := by
 unfold term_Op_may.f mayB
 rw [takes_f _ _ _ hk, right_f]
 simp only [Option.bind_some]
 split
 · rfl
 · split
   · by_cases h : b ≥ 0 <;> simp [h]
   · split
     · by_cases h : b ≥ 0 <;> simp [h]
     · by_cases h : takes a = 0
       · simp [h]
       · rw [if_pos (by omega), decide_eq_true (by omega)]; simp
/-- How many numbers there are behind all, or none if there are too few. -/
def walkN : List S50 → Nat → Option Nat
 | [], n => some n
 | o :: os, n => if n < takes o.f0 then none else walkN os (n + 1 - takes o.f0)
def mostN : List S50 → Nat → Nat → Nat
 | [], _, m => m
 | o :: os, n, m => if n < takes o.f0 then 0 else mostN os (n + 1 - takes o.f0) (if m < n + 1 - takes o.f0 then n + 1 - takes o.f0 else m)
def walkI (t : List S50) (n : Nat) : Int := match walkN t n with | some m => (m : Int) | none => -1
theorem walk_l (t : List S50) (hm : t.length < 4398046511104) (d : Nat) : ∀ (k i n m : Nat), i ≤ t.length → t.length - i = d → d + 1 < k → n ≤ i → m ≤ i →
 term_walk.l0 k (n : Int) (m : Int) t (t.length : Int) (i : Int) = some (walkI (t.drop i) n, (mostN (t.drop i) n m : Int)) := by
 induction d with
 | zero =>
  intro k i n m hi hd hk hn hm'
  obtain ⟨k, rfl⟩ : ∃ q, k = q + 1 := ⟨k - 1, by omega⟩
  rw [List.drop_of_length_le (by omega)]
  simp only [term_walk.l0, walkI, walkN, mostN]
  rw [if_neg (by omega)]
 | succ d ih =>
  intro k i n m hi hd hk hn hm'
  obtain ⟨k, rfl⟩ : ∃ q, k = q + 1 := ⟨k - 1, by omega⟩
  rw [drop_cons t z50 i (by omega)]
  simp only [term_walk.l0]
  rw [if_pos (by omega), if_pos (by omega), if_pos (by omega), takes_f _ _ _ (by omega)]
  simp only [Option.bind_some]
  rw [show rd_T50 t (i : Int) = t.getD i z50 from rfl]
  have hlt := takes_le (t.getD i z50).f0
  unfold walkI
  simp only [walkN, mostN]
  by_cases h : n < takes (t.getD i z50).f0
  · rw [if_pos (by omega), if_pos h, if_pos h]; rfl
  · rw [if_neg (by omega), if_neg h, if_neg h, wrN (by omega)]
    have e1 : wrap64 ((n : Int) + wrap64 (1 - (takes (t.getD i z50).f0 : Int))) = ((n + 1 - takes (t.getD i z50).f0 : Nat) : Int) := by
     rw [wr (i := 1 - (takes (t.getD i z50).f0 : Int)) (by omega) (by omega), wr (by omega) (by omega)]; omega
    rw [e1]
    have e2 : mx (m : Int) ((n + 1 - takes (t.getD i z50).f0 : Nat) : Int) = ((if m < n + 1 - takes (t.getD i z50).f0 then n + 1 - takes (t.getD i z50).f0 else m : Nat) : Int) := by
     unfold mx
     by_cases h3 : m < n + 1 - takes (t.getD i z50).f0
     · rw [if_pos h3, if_pos (by omega)]
     · rw [if_neg h3, if_neg (by omega)]
    rw [e2, ih k (i + 1) _ _ (by omega) (by omega) (by omega) (by omega) (by split <;> omega)]
    rfl
theorem walk_f (k : Nat) (t : List S50) (hm : t.length < 4398046511104) (hk : t.length + 1 < k) : term_walk.f k t = some (walkI t 0, (mostN t 0 0 : Int)) := by
 unfold term_walk.f
 have := walk_l t hm t.length k 0 0 0 (by omega) (by omega) (by omega) (by omega) (by omega)
 simpa using this
def mayAll (t : List S50) : Bool := t.all fun o => mayB o.f0 o.f1
/-- Does it stand well? -/
def checkB (t : List S50) : Int := if 1 ≤ t.length ∧ t.length ≤ 12 ∧ mayAll t = true then (if walkN t 0 = some 1 then 0 else 2) else 1
theorem any_may (k : Nat) (t : List S50) (hk : 0 < k) : any_at_term_Check_1.f k t = some (!(mayAll t)) := by
 unfold any_at_term_Check_1.f mayAll
 rw [anyF_T (p := fun o => !(mayB o.f0 o.f1)) t (fun o _ => by unfold term_Check_1.f; rw [may_f _ _ _ hk]; rfl)]
 congr 1
 induction t with
 | nil => rfl
 | cons x xs ih => simp only [List.any_cons, List.all_cons, ih]; cases mayB x.f0 x.f1 <;> simp
theorem walkI_one (t : List S50) : walkI t 0 = 1 ↔ walkN t 0 = some 1 := by
 unfold walkI
 cases walkN t 0 with
 | none => simp
 | some m => simp; omega
theorem Check_f (k : Nat) (t : List S50) (hk : 20 ≤ k) : term_Check.f k t = some (checkB t) := by
 obtain ⟨k, rfl⟩ : ∃ q, k = q + 1 := ⟨k - 1, by omega⟩
 unfold term_Check.f checkB
 simp only [term_Check.j0]
 by_cases h1 : t.length < 1
 · rw [if_pos (by omega), if_pos trivial, if_neg (by omega)]
 · rw [if_neg (by omega)]
   by_cases h2 : t.length > 12
   · rw [if_pos (by omega), if_pos trivial, if_neg (by omega)]
   · rw [if_neg (by omega), any_may _ _ (by omega)]
     simp only [Option.bind_some]
     by_cases h3 : mayAll t = true
     · rw [h3, if_neg (by simp), if_pos ⟨by omega, by omega, rfl⟩, walk_f k t (by omega) (by omega)]
       simp only [Option.bind_some]
       by_cases h4 : walkN t 0 = some 1
       · rw [if_pos ((walkI_one t).2 h4), if_pos h4]
       · rw [if_neg (fun e => h4 ((walkI_one t).1 e)), if_neg h4]
     · rw [if_pos (by simpa using h3), if_neg (fun e => h3 e.2.2)]
theorem checkB_ok {t : List S50} (h : checkB t = 0) : 1 ≤ t.length ∧ t.length ≤ 12 ∧ (∀ o ∈ t, mayB o.f0 o.f1 = true) ∧ walkN t 0 = some 1 := by
 unfold checkB at h
 split at h
 · rename_i h1
   split at h
   · exact ⟨h1.1, h1.2.1, by simpa [mayAll] using h1.2.2, by assumption⟩
   · simp at h
 · simp at h
theorem walkN_app : ∀ (a b : List S50) (n : Nat), walkN (a ++ b) n = (walkN a n).bind (walkN b)
 | [], b, n => rfl
 | o :: os, b, n => by
  simp only [List.cons_append, walkN]
  split
  · rfl
  · exact walkN_app os b _
theorem take_sn (t : List S50) (i : Nat) (hi : i < t.length) : t.take (i + 1) = t.take i ++ [t.getD i z50] := by
 rw [List.take_add_one, List.getD_eq_getElem?_getD, List.getElem?_eq_getElem hi]; rfl
/-! the cells that a term names -/
def cellsL (t : List S50) : List Int := (t.filter fun o => o.f0 == 2).map fun o => o.f1
def cellsB (t : List S50) : List Int := if checkB t = 0 then Go.Lib.compact ((cellsL t).mergeSort fun x y => decide (x ≤ y)) else []
theorem Cells_l (t : List S50) (hm : t.length ≤ 12) (d : Nat) : ∀ (k i : Nat) (out : List Int), i ≤ t.length → t.length - i = d → d < k → out.length ≤ i →
 term_Cells.l0 k out t (t.length : Int) (i : Int) = some (Go.Lib.compact ((out ++ cellsL (t.drop i)).mergeSort fun x y => decide (x ≤ y))) := by
 induction d with
 | zero =>
  intro k i out hi hd hk ho
  obtain ⟨k, rfl⟩ : ∃ m, k = m + 1 := ⟨k - 1, by omega⟩
  rw [List.drop_of_length_le (by omega)]
  simp only [term_Cells.l0, slices_Sort.f, slices_Compact.f]
  rw [if_neg (by omega), if_pos (by omega)]
  simp only [Option.bind_some]
  rw [if_pos (by simp; omega)]
  simp [cellsL]
 | succ d ih =>
  intro k i out hi hd hk ho
  obtain ⟨k, rfl⟩ : ∃ m, k = m + 1 := ⟨k - 1, by omega⟩
  rw [drop_cons t z50 i (by omega)]
  simp only [term_Cells.l0]
  rw [if_pos (by omega), if_pos (by omega), if_pos (by omega), wrN (by omega)]
  rw [show rd_T50 t (i : Int) = t.getD i z50 from rfl]
  by_cases h2 : (t.getD i z50).f0 = 2
  · rw [if_pos h2, if_pos (by omega), ih k (i + 1) _ (by omega) (by omega) (by omega) (by simp; omega)]
    have : cellsL (t.getD i z50 :: t.drop (i + 1)) = (t.getD i z50).f1 :: cellsL (t.drop (i + 1)) := by
     unfold cellsL
     generalize t.getD i z50 = o at h2 ⊢
     simp [List.filter_cons, h2]
    rw [this]; simp
  · rw [if_neg h2, ih k (i + 1) _ (by omega) (by omega) (by omega) (by omega)]
    have : cellsL (t.getD i z50 :: t.drop (i + 1)) = cellsL (t.drop (i + 1)) := by
     unfold cellsL
     generalize t.getD i z50 = o at h2 ⊢
     simp [List.filter_cons, h2]
    rw [this]
theorem Cells_f (k : Nat) (t : List S50) (hk : 20 ≤ k) : term_Cells.f k t = some (cellsB t) := by
 unfold term_Cells.f cellsB
 rw [Check_f k t hk]
 simp only [Option.bind_some]
 by_cases h : checkB t = 0
 · rw [if_pos h, if_pos h]
   have := checkB_ok h
   exact Cells_l t (by omega) t.length k 0 [] (by omega) (by omega) (by omega) (by simp)
 · rw [if_neg h, if_neg h]
/-! ### codes -/
def reckB (t : List S50) : Bool := checkB t == 0 && ((cellsB t).length : Int) == 0
theorem reck_f (k : Nat) (t : List S50) (hk : 20 ≤ k) : code_reckons.f k t = some (reckB t) := by
 unfold code_reckons.f reckB
 rw [Check_f k t hk, Cells_f k t hk]
 simp only [Option.bind_some]
 by_cases h : checkB t = 0
 · rw [if_pos h, h]; simp
 · rw [if_neg h, show (checkB t == 0) = false from beq_eq_false_iff_ne.2 h]; rfl
def btw (a lo hi : Int) : Bool := decide (lo ≤ a ∧ a ≤ hi)
def mayC (s : S53) : Bool :=
 if s.f0 = 1 then s.f3.length == 0 && btw s.f1 0 7 && btw s.f2 0 63
 else if s.f0 = 2 then btw s.f1 0 7 && s.f2 == 0 && reckB s.f3
 else if s.f0 = 3 then btw s.f1 0 63 && s.f2 == 0 && reckB s.f3
 else if s.f0 = 4 then btw s.f1 1 24 && s.f2 == 0 && reckB s.f3
 else if s.f0 = 5 then s.f3.length == 0 && s.f1 == 0 && s.f2 == 0
 else if s.f0 = 6 then s.f3.length == 0 && btw s.f1 0 255 && s.f2 == 0
 else if s.f0 = 7 then s.f3.length == 0 && btw s.f1 1 24 && btw s.f2 1 24
 else false
theorem below_f (a m : Int) : code_below.f a m = some (btw a 0 (m - 1)) := by
 unfold code_below.f btw
 by_cases h : a ≥ 0
 · rw [if_pos h]; congr 1; rw [decide_eq_decide]; omega
 · rw [if_neg h]; congr 1; symm; rw [decide_eq_false_iff_not]; omega
theorem long_f (a : Int) : code_long.f a = some (btw a 1 24) := by
 unfold code_long.f btw
 by_cases h : a ≥ 1
 · rw [if_pos h]; congr 1; rw [decide_eq_decide]; omega
 · rw [if_neg h]; congr 1; symm; rw [decide_eq_false_iff_not]; omega
theorem len0 {α : Type} (l : List α) : ((l.length : Int) = 0) ↔ l.length == 0 := by simp
theorem mayC_f (k : Nat) (s : S53) (hk : 20 ≤ k) : code_may.f k s.f0 s.f1 s.f2 s.f3 = some (mayC s) := by
 unfold code_may.f mayC
 simp only [below_f, long_f, reck_f k s.f3 hk, Option.bind_some, len0, Int.reduceSub]
 generalize reckB s.f3 = r
 generalize (s.f3.length == 0) = z
 generalize btw s.f1 0 7 = b1
 generalize btw s.f2 0 63 = b2
 generalize btw s.f1 0 63 = b3
 generalize btw s.f1 1 24 = b4
 generalize btw s.f2 1 24 = b5
 generalize btw s.f1 0 255 = b6
 by_cases h1 : s.f0 = 1
 · rw [if_pos h1, if_pos h1]; cases z <;> cases b1 <;> rfl
 rw [if_neg h1, if_neg h1]
 by_cases h2 : s.f0 = 2
 · rw [if_pos h2, if_pos h2]; by_cases e2 : s.f2 = 0 <;> cases b1 <;> cases r <;> simp [e2]
 rw [if_neg h2, if_neg h2]
 by_cases h3 : s.f0 = 3
 · rw [if_pos h3, if_pos h3]; by_cases e2 : s.f2 = 0 <;> cases b3 <;> cases r <;> simp [e2]
 rw [if_neg h3, if_neg h3]
 by_cases h4 : s.f0 = 4
 · rw [if_pos h4, if_pos h4]; by_cases e2 : s.f2 = 0 <;> cases b4 <;> cases r <;> simp [e2]
 rw [if_neg h4, if_neg h4]
 by_cases h5 : s.f0 = 5
 · rw [if_pos h5, if_pos h5]; by_cases e1 : s.f1 = 0 <;> by_cases e2 : s.f2 = 0 <;> cases z <;> simp [e1, e2]
 rw [if_neg h5, if_neg h5]
 by_cases h6 : s.f0 = 6
 · rw [if_pos h6, if_pos h6]; by_cases e2 : s.f2 = 0 <;> cases z <;> cases b6 <;> simp [e2]
 rw [if_neg h6, if_neg h6]
 by_cases h7 : s.f0 = 7
 · rw [if_pos h7, if_pos h7]; cases z <;> cases b4 <;> cases b5 <;> rfl
 rw [if_neg h7, if_neg h7]
/-- Is a part well, and how deep? (none: it is not) -/
def deepT (c : List S53) : Option Nat :=
 match c with
 | [] => some 0
 | s :: r =>
  if s.f0 = 7 then
   if s.f1.toNat + s.f2.toNat > r.length then none
   else match deepT (r.take s.f1.toNat), deepT ((r.take (s.f1.toNat + s.f2.toNat)).drop s.f1.toNat), deepT (r.drop (s.f1.toNat + s.f2.toNat)) with
    | some a, some b, some n => some (max n (1 + max a b))
    | _, _, _ => none
  else if s.f0 = 4 ∧ s.f1.toNat > r.length then none
  else deepT r
termination_by c.length
decreasing_by all_goals (simp_wf; try omega)
theorem deepT_nil : deepT [] = some 0 := by rw [deepT]
theorem deepT_le : ∀ (n : Nat) (c : List S53) (m : Nat), c.length ≤ n → deepT c = some m → m ≤ c.length := by
 intro n
 induction n with
 | zero =>
  intro c m hc h
  have : c = [] := List.length_eq_zero_iff.1 (by omega)
  subst this
  rw [deepT_nil] at h; cases h; simp
 | succ n ih =>
  intro c m hc h
  cases c with
  | nil => rw [deepT_nil] at h; cases h; simp
  | cons s r =>
   simp only [List.length_cons] at hc ⊢
   rw [deepT] at h
   split at h
   · split at h
     · cases h
     · split at h
       · rename_i a b q e1 e2 e3
         cases h
         have h1 := ih _ _ (by simp; omega) e1
         have h2 := ih _ _ (by simp; omega) e2
         have h3 := ih _ _ (by simp; omega) e3
         simp at h1 h2 h3
         omega
       · cases h
   · split at h
     · cases h
     · have := ih r m (by omega) h; omega
theorem mayC_either {s : S53} (h : mayC s = true) (h7 : s.f0 = 7) : 1 ≤ s.f1 ∧ s.f1 ≤ 24 ∧ 1 ≤ s.f2 ∧ s.f2 ≤ 24 := by
 unfold mayC at h
 rw [if_neg (by omega), if_neg (by omega), if_neg (by omega), if_neg (by omega), if_neg (by omega), if_neg (by omega), if_pos h7] at h
 simp only [Bool.and_eq_true, btw, decide_eq_true_eq] at h
 omega
theorem mayC_skip {s : S53} (h : mayC s = true) (h4 : s.f0 = 4) : 1 ≤ s.f1 ∧ s.f1 ≤ 24 := by
 unfold mayC at h
 rw [if_neg (by omega), if_neg (by omega), if_neg (by omega), if_pos h4] at h
 simp only [Bool.and_eq_true, btw, decide_eq_true_eq] at h
 omega
def outB (d : Option Nat) : Int := match d with | some n => (n : Int) | none => -1
theorem deep_f : ∀ (n : Nat) (c : List S53) (k : Nat), c.length ≤ n → c.length ≤ 24 → (∀ s ∈ c, mayC s = true) → 2 * c.length + 2 ≤ k → code_deep.f k c = some (outB (deepT c)) := by
 intro n
 induction n with
 | zero =>
  intro c k hc _ _ hk
  have : c = [] := List.length_eq_zero_iff.1 (by omega)
  subst this
  obtain ⟨k, rfl⟩ : ∃ m, k = m + 2 := ⟨k - 2, by omega⟩
  simp only [code_deep.f, code_deep.l0]
  rw [if_neg (by simp), deepT_nil]; rfl
 | succ n ih =>
  intro c k hc h24 hm hk
  -- the loop
  have loop : ∀ (d k i o : Nat), i ≤ c.length → c.length - i ≤ d → 2 * (c.length - i) + 1 ≤ k → o ≤ 24 →
   code_deep.l0 k c (o : Int) (i : Int) = some (match deepT (c.drop i) with | some q => ((max o q : Nat) : Int) | none => -1) := by
   intro d
   induction d with
   | zero =>
    intro k i o hi hd hk ho
    obtain ⟨k, rfl⟩ : ∃ m, k = m + 1 := ⟨k - 1, by omega⟩
    rw [List.drop_of_length_le (by omega), deepT_nil]
    simp only [code_deep.l0]
    rw [if_neg (by omega)]; simp
   | succ d ihd =>
    intro k i o hi hd hk ho
    obtain ⟨k, rfl⟩ : ∃ m, k = m + 1 := ⟨k - 1, by omega⟩
    by_cases hlt : i < c.length
    · have hms : mayC (c.getD i z53) = true := hm _ (by
       rw [List.getD_eq_getElem?_getD, List.getElem?_eq_getElem hlt]; exact List.getElem_mem _)
      rw [drop_cons c z53 i hlt, deepT]
      simp only [code_deep.l0]
      rw [if_pos (by omega), if_pos (by omega), wrN (by omega), if_pos (by omega), if_pos (by omega)]
      simp only [Option.bind_some]
      rw [show rd_T53 c (i : Int) = c.getD i z53 from rfl, show (((i + 1 : Nat) : Int)).toNat = i + 1 from by simp]
      generalize c.getD i z53 = s at *
      have hrl : (c.drop (i + 1)).length = c.length - (i + 1) := by simp
      have hmr : ∀ q ∈ c.drop (i + 1), mayC q = true := fun q hq => hm q (List.mem_of_mem_drop hq)
      by_cases h7 : s.f0 = 7
      · obtain ⟨a1, a2, b1, b2⟩ := mayC_either hms h7
        have ew : wrap64 (s.f1 + s.f2) = s.f1 + s.f2 := wr (by omega) (by omega)
        rw [if_pos h7, if_pos h7, ew]
        by_cases hlen : s.f1.toNat + s.f2.toNat > (c.drop (i + 1)).length
        · rw [if_pos (by omega), if_pos hlen]
        · rw [if_neg (by omega), if_neg hlen, if_pos (by omega), if_pos (by omega), show (s.f1 + s.f2).toNat = s.f1.toNat + s.f2.toNat from by omega]
          rw [ih ((c.drop (i + 1)).take s.f1.toNat) k (by simp; omega) (by simp; omega) (fun q hq => hmr q (List.mem_of_mem_take hq)) (by simp; omega)]
          simp only [Option.bind_some]
          rw [if_pos (by omega), if_pos (by omega)]
          rw [ih (((c.drop (i + 1)).take (s.f1.toNat + s.f2.toNat)).drop s.f1.toNat) k (by simp; omega) (by simp; omega) (fun q hq => hmr q (List.mem_of_mem_take (List.mem_of_mem_drop hq))) (by simp; omega)]
          simp only [Option.bind_some]
          have la := fun m => deepT_le _ ((c.drop (i + 1)).take s.f1.toNat) m (Nat.le_refl _)
          have lb := fun m => deepT_le _ (((c.drop (i + 1)).take (s.f1.toNat + s.f2.toNat)).drop s.f1.toNat) m (Nat.le_refl _)
          cases ea : deepT ((c.drop (i + 1)).take s.f1.toNat) with
          | none => rw [if_pos (by simp [outB])]
          | some a =>
           rw [if_neg (by simp [outB])]
           have la := la a ea
           cases eb : deepT (((c.drop (i + 1)).take (s.f1.toNat + s.f2.toNat)).drop s.f1.toNat) with
           | none => rw [if_pos (by simp [outB])]
           | some b =>
            rw [if_neg (by simp [outB])]
            have lb := lb b eb
            simp at la lb
            simp only [outB]
            have em : mx (o : Int) (wrap64 (1 + mx (a : Int) (b : Int))) = ((max o (1 + max a b) : Nat) : Int) := by
             have e1 : mx (a : Int) (b : Int) = ((max a b : Nat) : Int) := by unfold mx; split <;> omega
             rw [e1, wr (by omega) (by omega)]
             unfold mx; split <;> omega
            have ei : wrap64 (wrap64 ((i : Int) + (s.f1 + s.f2)) + 1) = ((i + 1 + (s.f1.toNat + s.f2.toNat) : Nat) : Int) := by
             rw [wr (i := (i : Int) + (s.f1 + s.f2)) (by omega) (by omega), wr (by omega) (by omega)]; omega
            rw [em, ei, ihd k _ _ (by omega) (by omega) (by omega) (by omega), List.drop_drop]
            cases deepT (c.drop (i + 1 + (s.f1.toNat + s.f2.toNat))) with
            | none => rfl
            | some q => simp only; congr 2; omega
      · rw [if_neg h7, if_neg h7]
        have next := ihd k (i + 1) o (by omega) (by omega) (by omega) ho
        by_cases h4 : s.f0 = 4
        · obtain ⟨a1, a2⟩ := mayC_skip hms h4
          rw [if_pos h4]
          by_cases hlen : s.f1.toNat > (c.drop (i + 1)).length
          · rw [if_pos (by omega), if_pos ⟨h4, hlen⟩]
          · rw [if_neg (by omega), if_neg (fun e => hlen e.2)]; exact next
        · rw [if_neg h4, if_neg (fun e => h4 e.1)]; exact next
    · rw [List.drop_of_length_le (by omega), deepT_nil]
      simp only [code_deep.l0]
      rw [if_neg (by omega)]; simp
  obtain ⟨k, rfl⟩ : ∃ m, k = m + 1 := ⟨k - 1, by omega⟩
  simp only [code_deep.f]
  have := loop c.length k 0 0 (by omega) (by omega) (by omega) (by omega)
  rw [List.drop_zero] at this
  rw [show (0 : Int) = ((0 : Nat) : Int) from rfl, this]
  cases deepT c with
  | none => rfl
  | some q => simp [outB]
def mayAllC (c : List S53) : Bool := c.all mayC
def checkC (c : List S53) : Int := if c.length ≤ 24 ∧ mayAllC c = true then (match deepT c with | some n => if n > 6 then 5 else 0 | none => 2) else 1
theorem CheckC_f (k : Nat) (c : List S53) (hk : 60 ≤ k) : code_Check.f k c = some (checkC c) := by
 obtain ⟨k, rfl⟩ : ∃ q, k = q + 1 := ⟨k - 1, by omega⟩
 unfold code_Check.f checkC any_at_code_Check_1.f
 simp only [code_Check.j0]
 by_cases h2 : c.length > 24
 · rw [if_pos (by omega), if_pos trivial, if_neg (by omega)]
 · rw [if_neg (by omega), anyF_T (p := fun s => !(mayC s)) c (fun s _ => by unfold code_Check_1.f; rw [mayC_f _ _ (by omega)]; rfl)]
   simp only [Option.bind_some]
   have ea : (c.any fun s => !(mayC s)) = !(mayAllC c) := by
    unfold mayAllC
    clear h2
    induction c with
    | nil => rfl
    | cons x xs ih => simp only [List.any_cons, List.all_cons, ih]; cases mayC x <;> simp
   rw [ea]
   by_cases h3 : mayAllC c = true
   · rw [h3, if_neg (by simp), if_pos ⟨by omega, rfl⟩, deep_f c.length c k (by omega) (by omega) (List.all_eq_true.1 h3) (by omega)]
     simp only [Option.bind_some]
     cases deepT c with
     | none => rw [if_pos (by simp [outB])]
     | some n =>
      rw [if_neg (by simp [outB]), show outB (some n) = (n : Int) from rfl]
      by_cases h6 : n > 6
      · simp only; rw [if_pos (by omega), if_pos h6]
      · simp only; rw [if_neg (by omega), if_neg h6]
   · rw [if_pos (by simpa using h3), if_neg (fun e => h3 e.2)]
theorem checkC_ok {c : List S53} (h : checkC c = 0) : c.length ≤ 24 ∧ (∀ s ∈ c, mayC s = true) ∧ ∃ n, deepT c = some n := by
 unfold checkC at h
 split at h
 · rename_i h1
   refine ⟨h1.1, List.all_eq_true.1 h1.2, ?_⟩
   cases e : deepT c with
   | none => rw [e] at h; simp at h
   | some n => exact ⟨n, rfl⟩
 · simp at h
/-! ### the bytes of codes -/
abbrev Stp := S53
abbrev TOp := S50
theorem mayC_len {s : Stp} (h : mayC s = true) : s.f3.length ≤ 12 := by
 have r : reckB s.f3 = true → s.f3.length ≤ 12 := fun h => by
  unfold reckB at h
  simp only [Bool.and_eq_true, beq_iff_eq] at h
  exact (checkB_ok h.1).2.1
 have z : (s.f3.length == 0) = true → s.f3.length ≤ 12 := fun h => by have := beq_iff_eq.1 h; omega
 unfold mayC at h
 repeat' split at h
 all_goals try simp only [Bool.and_eq_true] at h
 all_goals first | exact z h.1.1 | exact r h.2 | exact absurd h (by decide)
theorem flat_len {α : Type} (f : α → List Int) (m : Nat) : ∀ l : List α, (∀ x ∈ l, (f x).length ≤ m) → (l.flatMap f).length ≤ m * l.length
 | [], _ => by simp
 | x :: l, h => by
  have a := h x (by simp)
  have b := flat_len f m l (fun y hy => h y (by simp [hy]))
  rw [List.flatMap_cons, List.length_append, List.length_cons, Nat.mul_succ]
  omega
theorem b4_len (n : Int) : (b4 n).length = 4 := rfl
theorem opB_len (o : TOp) : (opB o).length = 5 := rfl
theorem flat_op : ∀ l : List TOp, (l.flatMap opB).length = 5 * l.length
 | [] => rfl
 | x :: l => by rw [List.flatMap_cons, List.length_append, flat_op l, opB_len, List.length_cons]; omega
theorem stepB_len (s : Stp) : (stepB s).length = 4 + 5 * s.f3.length := by
 unfold stepB
 rw [List.length_append, flat_op]
 rfl
theorem codeB_len {c : List Stp} (h : checkC c = 0) : (codeB c).length ≤ 2000 := by
 obtain ⟨h1, h2, _⟩ := checkC_ok h
 have := flat_len stepB 64 c (fun s hs => by rw [stepB_len]; have := mayC_len (h2 s hs); omega)
 unfold codeB
 rw [List.length_cons]
 omega
def sizeB (c : List Stp) : Int := if checkC c = 0 then ((codeB c).length : Int) else 0
theorem Size_f (k : Nat) (c : List Stp) (hk : 60 ≤ k) : shape_Size.f k c = some (sizeB c) := by
 unfold shape_Size.f sizeB
 rw [CheckC_f k c hk, Option.bind_some]
 by_cases h : checkC c = 0
 · have := codeB_len h
   rw [if_pos h, if_pos h, if_pos (by omega)]
 · rw [if_neg h, if_neg h]
def okL (l : List (List Stp)) : Bool := l.all fun c => checkC c == 0
theorem okL_iff (l : List (List Stp)) : okL l = true ↔ ∀ c ∈ l, checkC c = 0 := by
 unfold okL
 rw [List.all_eq_true]
 exact ⟨fun h c hc => beq_iff_eq.1 (h c hc), fun h c hc => beq_iff_eq.2 (h c hc)⟩
def bytesL (l : List (List Stp)) : List Int := ((l.length : Int) % 256) :: l.flatMap codeB
def writeB (l : List (List Stp)) : List Int × Int := if l.length ≤ 8 ∧ okL l = true then (bytesL l, 0) else ([], 1)
theorem wr_f (k : Nat) (hk : 60 ≤ k) : ∀ (l : List (List Stp)) (acc : List Int), acc.length + 2000 * l.length ≤ 100000 → shape_wr k acc l = some (if okL l = true then (acc ++ l.flatMap codeB, 0) else ([], 1))
 | [], acc, _ => by simp [shape_wr, okL]
 | c :: l, acc, h => by
  rw [List.length_cons] at h
  simp only [shape_wr]
  rw [CheckC_f k c hk, Option.bind_some]
  by_cases hc : checkC c = 0
  · have hl := codeB_len hc
    rw [if_pos hc, if_pos (by omega), wr_f k hk l (acc ++ codeB c) (by rw [List.length_append]; omega)]
    have : okL (c :: l) = okL l := by unfold okL; rw [List.all_cons, beq_iff_eq.2 hc, Bool.true_and]
    rw [this, List.flatMap_cons, List.append_assoc]
  · rw [if_neg hc, if_neg]
    intro g
    exact hc ((okL_iff _).1 g c (by simp))
theorem Write_f (k : Nat) (l : List (List Stp)) (hk : 60 ≤ k) : shape_Write.f k l = some (writeB l) := by
 unfold shape_Write.f writeB
 by_cases h : (l.length : Int) > 8
 · rw [if_pos h, if_neg (fun g => by omega)]
 · rw [if_neg h, wr_f k hk l _ (by simp; omega)]
   by_cases g : okL l = true
   · rw [if_pos g, if_pos ⟨by omega, g⟩]; rfl
   · rw [if_neg g, if_neg (fun e => g e.2)]
theorem awake9 (k : Nat) (hk : 80 ≤ k) : handshakerlaw09_awake.f k = some true :=
 at_rounds (g := handshakerlaw09_awake.f) handshakerlaw09_awake.mono hk (by decide +kernel)
theorem SmallG_l (c : List S53) (hm : c.length ≤ 9223372036854775807) (d : Nat) : ∀ (k i : Nat), i ≤ c.length → c.length - i = d → d < k → (∀ s ∈ c.take i, s.f3.length ≤ 20) →
 handshakerlaw08_Small.l0 k c c (c.length : Int) (i : Int) = some (-1) ∨ (c.length ≤ 40 ∧ (∀ s ∈ c, s.f3.length ≤ 20) ∧ handshakerlaw08_Small.l0 k c c (c.length : Int) (i : Int) = some (c.length : Int)) := by
 induction d with
 | zero =>
  intro k i hi hd hk hs
  obtain ⟨k, rfl⟩ : ∃ m, k = m + 1 := ⟨k - 1, by omega⟩
  rw [List.take_of_length_le (by omega)] at hs
  simp only [handshakerlaw08_Small.l0]
  rw [if_neg (by omega)]
  by_cases h : c.length > 40
  · rw [if_pos (by omega)]; exact .inl rfl
  · rw [if_neg (by omega)]; exact .inr ⟨by omega, hs, rfl⟩
 | succ d ih =>
  intro k i hi hd hk hs
  obtain ⟨k, rfl⟩ : ∃ m, k = m + 1 := ⟨k - 1, by omega⟩
  simp only [handshakerlaw08_Small.l0]
  rw [if_pos (by omega), if_pos (by omega), if_pos (by omega), show wrap64 ((i : Int) + 1) = ((i + 1 : Nat) : Int) by unfold wrap64; omega, show rd_T53 c (i : Int) = c.getD i z53 from rfl]
  by_cases h : (c.getD i z53).f3.length > 20
  · rw [if_pos (by omega)]; exact .inl rfl
  · rw [if_neg (by omega)]
    refine ih k (i + 1) (by omega) (by omega) (by omega) fun s hs' => ?_
    rw [List.take_add_one, List.getElem?_eq_getElem (by omega)] at hs'
    rcases List.mem_append.1 hs' with h' | h'
    · exact hs s h'
    · have : s = c.getD i z53 := by
       rw [List.getD_eq_getElem?_getD, List.getElem?_eq_getElem (by omega)]
       simpa using h'
      rw [this]; omega
theorem SmallG_f (k : Nat) (c : List S53) (hm : c.length ≤ 9223372036854775807) (hk : c.length < k) :
 handshakerlaw08_Small.f k c = some (-1) ∨ (c.length ≤ 40 ∧ (∀ s ∈ c, s.f3.length ≤ 20) ∧ handshakerlaw08_Small.f k c = some (c.length : Int)) := by
 unfold handshakerlaw08_Small.f
 exact SmallG_l c hm c.length k 0 (by omega) (by omega) (by omega) (by simp)
theorem small_l (l : List (List Stp)) (hm : l.length < 9000000000000000000) (hs : ∀ c ∈ l, c.length ≤ 9223372036854775807) (M : Nat) (hM : ∀ c ∈ l, c.length < M) (d : Nat) : ∀ (k i : Nat), i ≤ l.length → l.length - i = d → d + M < k → (∀ c ∈ l.take i, c.length ≤ 40 ∧ ∀ s ∈ c, s.f3.length ≤ 20) →
 ∃ b, handshakerlaw09_small.l0 k l l (l.length : Int) (i : Int) = some b ∧ (b = true → l.length ≤ 12 ∧ ∀ c ∈ l, c.length ≤ 40 ∧ ∀ s ∈ c, s.f3.length ≤ 20) := by
 induction d with
 | zero =>
  intro k i hi hd hk h
  obtain ⟨k, rfl⟩ : ∃ m, k = m + 1 := ⟨k - 1, by omega⟩
  rw [List.take_of_length_le (by omega)] at h
  simp only [handshakerlaw09_small.l0]
  rw [if_neg (by omega)]
  exact ⟨_, rfl, fun g => ⟨by have := of_decide_eq_true g; omega, h⟩⟩
 | succ d ih =>
  intro k i hi hd hk h
  obtain ⟨k, rfl⟩ : ∃ m, k = m + 1 := ⟨k - 1, by omega⟩
  have hmem : l.getD i [] ∈ l := by rw [List.getD_eq_getElem?_getD, List.getElem?_eq_getElem (by omega)]; exact List.getElem_mem _
  simp only [handshakerlaw09_small.l0]
  rw [if_pos (by omega), if_pos (by omega), if_pos (by omega), show rd_L5 l (i : Int) = l.getD i [] from rfl, show wrap64 ((i : Int) + 1) = ((i + 1 : Nat) : Int) by unfold wrap64; omega]
  rcases SmallG_f k (l.getD i []) (by have := hs _ hmem; omega) (by have := hM _ hmem; omega) with e | ⟨h1, h2, e⟩
  · rw [e, Option.bind_some, if_pos (by decide)]
    exact ⟨false, rfl, fun g => absurd g (by decide)⟩
  · rw [e, Option.bind_some, if_neg (by omega)]
    refine ih k (i + 1) (by omega) (by omega) (by omega) (fun c hc => ?_)
    rw [List.take_add_one, List.getElem?_eq_getElem (by omega)] at hc
    rcases List.mem_append.1 hc with hc | hc
    · exact h c hc
    · have e2 : c = l.getD i [] := by rw [List.getD_eq_getElem?_getD, List.getElem?_eq_getElem (by omega)]; simpa using hc
      rw [e2]; exact ⟨h1, h2⟩
/-! ### what is written is read -/
theorem str_inj : ∀ {a b : List Int}, byts a → byts b → (strOfNums a).toList = (strOfNums b).toList → a = b := by
 intro a b ha hb h
 rw [ByteArray.toList_eq, ByteArray.toList_eq, strOfNums_data, strOfNums_data] at h
 induction a generalizing b with
 | nil => cases b with
  | nil => rfl
  | cons y b => simp at h
 | cons x a ih => cases b with
  | nil => simp at h
  | cons y b =>
   simp only [List.map_cons, List.cons.injEq] at h
   have hx := ha x (by simp)
   have hy := hb y (by simp)
   rw [ih (fun z hz => ha z (by simp [hz])) (fun z hz => hb z (by simp [hz])) h.2]
   congr 1
   have e := congrArg UInt8.toNat h.1
   simp only [UInt8.toNat_ofNat'] at e
   omega
theorem wrapN_eq (n : Int) : wrapN n = wrap32 n := Option.some.inj (show some (wrapN n) = some (wrap32 n) from wrap_f n)
abbrev i32R (n : Int) : Prop := -2147483648 ≤ n ∧ n ≤ 2147483647
abbrev by8 (n : Int) : Prop := 0 ≤ n ∧ n ≤ 255
abbrev fineO (o : TOp) : Prop := by8 o.f0 ∧ i32R o.f1
abbrev fineS (s : Stp) : Prop := by8 s.f0 ∧ by8 s.f1 ∧ by8 s.f2 ∧ s.f3.length ≤ 255 ∧ ∀ o ∈ s.f3, fineO o
abbrev fineC (c : List Stp) : Prop := c.length ≤ 255 ∧ ∀ s ∈ c, fineS s
theorem four_read (n : Int) (r : List Int) (h : i32R n) : ∃ m, four_go 4 0 (b4 n ++ r) = some (m, r) ∧ wrapN m = n := by
 refine ⟨_, rfl, ?_⟩
 rw [wrapN_eq]
 unfold wrap32
 omega
theorem four_back (bs : List Int) (hb : byts bs) (n : Int) (r : List Int) (h : four_go 4 0 bs = some (n, r)) : bs = b4 (wrapN n) ++ r ∧ i32R (wrapN n) := by
 rcases bs with _ | ⟨b0, _ | ⟨b1, _ | ⟨b2, _ | ⟨b3, bs⟩⟩⟩⟩
 · simp [four_go] at h
 · simp [four_go] at h
 · simp [four_go] at h
 · simp [four_go] at h
 · have h0 := hb b0 (by simp)
   have h1 := hb b1 (by simp)
   have h2 := hb b2 (by simp)
   have h3 := hb b3 (by simp)
   simp only [four_go, Option.some.injEq, Prod.mk.injEq] at h
   obtain ⟨hn, rfl⟩ := h
   rw [wrapN_eq]
   refine ⟨?_, by unfold wrap32; omega⟩
   unfold b4
   have e0 : (wrap32 n / 16777216) % 256 = b0 := by unfold wrap32; omega
   have e1 : (wrap32 n / 65536) % 256 = b1 := by unfold wrap32; omega
   have e2 : (wrap32 n / 256) % 256 = b2 := by unfold wrap32; omega
   have e3 : wrap32 n % 256 = b3 := by unfold wrap32; omega
   rw [e0, e1, e2, e3]; rfl
theorem ops_read : ∀ (us : List TOp) (ts : List TOp) (r : List Int), (∀ o ∈ us, fineO o) → ops_go us.length ts (us.flatMap opB ++ r) = some (ts ++ us, r)
 | [], ts, r, _ => by simp [ops_go]
 | o :: us, ts, r, h => by
  have ho := h o (by simp)
  rw [List.flatMap_cons, List.append_assoc]
  show ops_go (us.length + 1) ts (o.f0 % 256 :: (b4 o.f1 ++ (us.flatMap opB ++ r))) = _
  obtain ⟨m, e, em⟩ := four_read o.f1 (us.flatMap opB ++ r) ho.2
  simp only [ops_go]
  rw [e]
  show ops_go us.length (ts ++ [⟨o.f0 % 256, wrapN m⟩]) (us.flatMap opB ++ r) = _
  rw [em, show o.f0 % 256 = o.f0 by have := ho.1; omega, ops_read us _ r (fun x hx => h x (by simp [hx]))]
  simp
theorem ops_back : ∀ (m : Nat) (ts : List TOp) (bs : List Int) (q : List TOp × List Int), byts bs → ops_go m ts bs = some q → ∃ us, q.1 = ts ++ us ∧ us.length = m ∧ bs = us.flatMap opB ++ q.2 ∧ ∀ o ∈ us, fineO o
 | 0, ts, bs, q, _, h => by
  simp only [ops_go, Option.some.injEq] at h
  subst h
  exact ⟨[], by simp, rfl, by simp, fun o ho => absurd ho (by simp)⟩
 | m + 1, ts, [], q, _, h => by simp [ops_go] at h
 | m + 1, ts, k :: bs, q, hb, h => by
  simp only [ops_go] at h
  cases h4 : four_go 4 0 bs with
  | none => rw [h4] at h; simp at h
  | some p =>
   obtain ⟨n, r⟩ := p
   rw [h4] at h
   have hb2 : byts bs := fun y hy => hb y (by simp [hy])
   obtain ⟨e, hn⟩ := four_back bs hb2 n r h4
   obtain ⟨us, h1, h2, h3, h5⟩ := ops_back m _ r q (fun y hy => hb2 y (four_mem 4 0 bs n r h4 y hy)) h
   have hk := hb k (by simp)
   refine ⟨⟨k, wrapN n⟩ :: us, by rw [h1]; simp, by simp [h2], ?_, fun o ho => ?_⟩
   · rw [List.flatMap_cons, List.append_assoc, ← h3]
     show _ = (k % 256) :: (b4 (wrapN n) ++ r)
     rw [← e, show k % 256 = k by omega]
   · rcases List.mem_cons.1 ho with rfl | ho
     · exact ⟨hk, hn⟩
     · exact h5 o ho
theorem step_read (s : Stp) (r : List Int) (h : fineS s) : step_go (stepB s ++ r) = some (s, r) := by
 obtain ⟨h0, h1, h2, h3, h4⟩ := h
 unfold stepB
 rw [List.append_assoc]
 show step_go (s.f0 % 256 :: s.f1 % 256 :: s.f2 % 256 :: (s.f3.length : Int) % 256 :: (s.f3.flatMap opB ++ r)) = _
 rw [step_ops, show ((s.f3.length : Int) % 256).toNat = s.f3.length by omega, ops_read _ _ _ h4, show s.f0 % 256 = s.f0 by omega, show s.f1 % 256 = s.f1 by omega, show s.f2 % 256 = s.f2 by omega]
 rfl
theorem step_back (bs : List Int) (hb : byts bs) (s : Stp) (r : List Int) (h : step_go bs = some (s, r)) : bs = stepB s ++ r ∧ fineS s := by
 rcases bs with _ | ⟨a, _ | ⟨b, _ | ⟨c_, _ | ⟨n, bs⟩⟩⟩⟩
 · simp [step_go] at h
 · simp [step_go] at h
 · simp [step_go] at h
 · simp [step_go] at h
 · rw [step_ops] at h
   have ha := hb a (by simp)
   have hb' := hb b (by simp)
   have hc := hb c_ (by simp)
   have hn := hb n (by simp)
   cases ho : ops_go n.toNat [] bs with
   | none => rw [ho] at h; simp at h
   | some q =>
    rw [ho] at h
    simp only [Option.map_some, Option.some.injEq, Prod.mk.injEq] at h
    obtain ⟨rfl, rfl⟩ := h
    obtain ⟨us, h1, h2, h3, h4⟩ := ops_back _ _ bs q (fun y hy => hb y (by simp [hy])) ho
    rw [List.nil_append] at h1
    refine ⟨?_, ha, hb', hc, by show q.1.length ≤ 255; rw [h1]; omega, by show ∀ o ∈ q.1, fineO o; rw [h1]; exact h4⟩
    unfold stepB
    rw [List.append_assoc]
    show _ = a % 256 :: b % 256 :: c_ % 256 :: (q.1.length : Int) % 256 :: (q.1.flatMap opB ++ q.2)
    rw [h1, ← h3, h2, show a % 256 = a by omega, show b % 256 = b by omega, show c_ % 256 = c_ by omega, show ((n.toNat : Nat) : Int) % 256 = n by omega]
theorem steps_read : ∀ (us : List Stp) (cs : List Stp) (r : List Int), (∀ s ∈ us, fineS s) → steps_go us.length cs (us.flatMap stepB ++ r) = some (cs ++ us, r)
 | [], cs, r, _ => by simp [steps_go]
 | s :: us, cs, r, h => by
  rw [List.flatMap_cons, List.append_assoc, List.length_cons]
  simp only [steps_go]
  rw [step_read s _ (h s (by simp))]
  show steps_go us.length (cs ++ [s]) (us.flatMap stepB ++ r) = _
  rw [steps_read us _ r (fun x hx => h x (by simp [hx]))]
  simp
theorem steps_back : ∀ (m : Nat) (cs : List Stp) (bs : List Int) (q : List Stp × List Int), byts bs → steps_go m cs bs = some q → ∃ us, q.1 = cs ++ us ∧ us.length = m ∧ bs = us.flatMap stepB ++ q.2 ∧ ∀ s ∈ us, fineS s
 | 0, cs, bs, q, _, h => by
  simp only [steps_go, Option.some.injEq] at h
  subst h
  exact ⟨[], by simp, rfl, by simp, fun o ho => absurd ho (by simp)⟩
 | m + 1, cs, bs, q, hb, h => by
  simp only [steps_go] at h
  cases h4 : step_go bs with
  | none => rw [h4] at h; simp at h
  | some p =>
   obtain ⟨s, r⟩ := p
   rw [h4] at h
   obtain ⟨e, hs⟩ := step_back bs hb s r h4
   obtain ⟨us, h1, h2, h3, h5⟩ := steps_back m _ r q (fun y hy => hb y (step_mem bs s r h4 y hy)) h
   refine ⟨s :: us, by rw [h1]; simp, by simp [h2], ?_, fun o ho => ?_⟩
   · rw [List.flatMap_cons, List.append_assoc, ← h3, ← e]
   · rcases List.mem_cons.1 ho with rfl | ho
     · exact hs
     · exact h5 o ho
theorem codes_read : ∀ (us : List (List Stp)) (l : List (List Stp)) (r : List Int), (∀ c ∈ us, fineC c) → codes_go us.length l (us.flatMap codeB ++ r) = some (l ++ us, r)
 | [], l, r, _ => by simp [codes_go]
 | c :: us, l, r, h => by
  have hc := h c (by simp)
  rw [List.flatMap_cons, List.append_assoc, List.length_cons]
  show codes_go (us.length + 1) l ((c.length : Int) % 256 :: (c.flatMap stepB ++ (us.flatMap codeB ++ r))) = _
  simp only [codes_go]
  rw [show ((c.length : Int) % 256).toNat = c.length by omega, steps_read c [] _ hc.2]
  show codes_go us.length (l ++ [[] ++ c]) (us.flatMap codeB ++ r) = _
  rw [List.nil_append, codes_read us _ r (fun x hx => h x (by simp [hx]))]
  simp
theorem codes_back : ∀ (m : Nat) (l : List (List Stp)) (bs : List Int) (q : List (List Stp) × List Int), byts bs → codes_go m l bs = some q → ∃ us, q.1 = l ++ us ∧ us.length = m ∧ bs = us.flatMap codeB ++ q.2 ∧ ∀ c ∈ us, fineC c
 | 0, l, bs, q, _, h => by
  simp only [codes_go, Option.some.injEq] at h
  subst h
  exact ⟨[], by simp, rfl, by simp, fun o ho => absurd ho (by simp)⟩
 | m + 1, l, [], q, _, h => by simp [codes_go] at h
 | m + 1, l, k :: bs, q, hb, h => by
  simp only [codes_go] at h
  cases h4 : steps_go k.toNat [] bs with
  | none => rw [h4] at h; simp at h
  | some p =>
   obtain ⟨c, r⟩ := p
   rw [h4] at h
   have hk := hb k (by simp)
   have hb2 : byts bs := fun y hy => hb y (by simp [hy])
   obtain ⟨cs, h6, h7, h8, h9⟩ := steps_back _ _ bs _ hb2 h4
   have h6' : c = cs := h6
   subst h6'
   obtain ⟨us, h1, h2, h3, h5⟩ := codes_back m _ r q (fun y hy => hb2 y (steps_mem _ _ bs _ h4 y hy)) h
   refine ⟨c :: us, by rw [h1]; simp, by simp [h2], ?_, fun o ho => ?_⟩
   · rw [List.flatMap_cons, List.append_assoc, ← h3]
     show _ = (c.length : Int) % 256 :: (c.flatMap stepB ++ r)
     rw [h7, show ((k.toNat : Nat) : Int) % 256 = k by omega]
     exact congrArg (k :: ·) h8
   · rcases List.mem_cons.1 ho with rfl | ho
     · exact ⟨by omega, h9⟩
     · exact h5 o ho
theorem all_read (l : List (List Stp)) (r : List Int) (hl : l.length ≤ 255) (h : ∀ c ∈ l, fineC c) : all_go (bytesL l ++ r) = some (l, r) := by
 show codes_go ((l.length : Int) % 256).toNat [] (l.flatMap codeB ++ r) = _
 rw [show ((l.length : Int) % 256).toNat = l.length by omega, codes_read l [] r h, List.nil_append]
theorem all_back (bs : List Int) (hb : byts bs) (l : List (List Stp)) (r : List Int) (h : all_go bs = some (l, r)) : bs = bytesL l ++ r ∧ l.length ≤ 255 ∧ ∀ c ∈ l, fineC c := by
 rcases bs with _ | ⟨n, bs⟩
 · simp [all_go] at h
 · have hn := hb n (by simp)
   have h' : codes_go n.toNat [] bs = some (l, r) := h
   obtain ⟨us, h1, h2, h3, h5⟩ := codes_back _ _ bs _ (fun y hy => hb y (by simp [hy])) h'
   have h1' : l = us := h1
   subst h1'
   refine ⟨?_, by omega, h5⟩
   show _ = (l.length : Int) % 256 :: (l.flatMap codeB ++ r)
   rw [h2, show ((n.toNat : Nat) : Int) % 256 = n by omega]
   exact congrArg (n :: ·) h3
theorem may_fine {s : Stp} (h : mayC s = true) : fineS s := by
 have hl := mayC_len h
 have r : reckB s.f3 = true → ∀ o ∈ s.f3, fineO o := fun h o ho => by
  unfold reckB at h
  simp only [Bool.and_eq_true, beq_iff_eq] at h
  have hm := (checkB_ok h.1).2.2.1 o ho
  unfold mayB at hm
  unfold fineO by8 i32R
  split at hm
  · rename_i e; unfold inR at hm; have := of_decide_eq_true hm; omega
  · split at hm
    · rename_i e; have := of_decide_eq_true hm; omega
    · split at hm
      · rename_i e; have := of_decide_eq_true hm; omega
      · rw [Bool.and_eq_true, decide_eq_true_eq, beq_iff_eq] at hm
        obtain ⟨ht, hz⟩ := hm
        unfold takes at ht
        repeat' split at ht
        all_goals omega
 have z : (s.f3.length == 0) = true → ∀ o ∈ s.f3, fineO o := fun h o ho => by
  have : s.f3 = [] := List.length_eq_zero_iff.1 (beq_iff_eq.1 h)
  rw [this] at ho
  exact absurd ho (by simp)
 have B : ∀ {a lo hi : Int}, btw a lo hi = true → lo ≤ a ∧ a ≤ hi := fun h => of_decide_eq_true h
 unfold mayC at h
 unfold fineS by8
 repeat' split at h
 all_goals try simp only [Bool.and_eq_true, beq_iff_eq] at h
 all_goals first
  | exact absurd h (by decide)
  | (have a := B h.1.2; have b := B h.2; exact ⟨by omega, by omega, by omega, by omega, z (beq_iff_eq.2 h.1.1)⟩)
  | (have a := B h.1.1; have b := h.1.2; exact ⟨by omega, by omega, by omega, by omega, r h.2⟩)
  | (have a := B h.1.2; have b := h.2; exact ⟨by omega, by omega, by omega, by omega, z (beq_iff_eq.2 h.1.1)⟩)
  | (have a := h.1.2; have b := h.2; exact ⟨by omega, by omega, by omega, by omega, z (beq_iff_eq.2 h.1.1)⟩)
theorem check_fine {c : List Stp} (h : checkC c = 0) : fineC c := by
 obtain ⟨h1, h2, _⟩ := checkC_ok h
 exact ⟨by omega, fun s hs => may_fine (h2 s hs)⟩
theorem byts_b4 (n : Int) : byts (b4 n) := by
 intro b hb
 unfold b4 at hb
 simp only [List.mem_cons, List.not_mem_nil, or_false] at hb
 omega
theorem byts_flat {α : Type} (f : α → List Int) (l : List α) (h : ∀ x ∈ l, byts (f x)) : byts (l.flatMap f) := by
 intro b hb
 obtain ⟨x, hx, h2⟩ := List.mem_flatMap.1 hb
 exact h x hx b h2
theorem byts_op (o : TOp) : byts (opB o) := by
 intro b hb
 unfold opB at hb
 rcases List.mem_cons.1 hb with rfl | hb
 · omega
 · exact byts_b4 _ b hb
theorem byts_step (s : Stp) : byts (stepB s) := by
 intro b hb
 unfold stepB at hb
 rcases List.mem_append.1 hb with hb | hb
 · simp only [List.mem_cons, List.not_mem_nil, or_false] at hb; omega
 · exact byts_flat opB _ (fun o _ => byts_op o) b hb
theorem byts_code (c : List Stp) : byts (codeB c) := by
 intro b hb
 unfold codeB at hb
 rcases List.mem_cons.1 hb with rfl | hb
 · omega
 · exact byts_flat stepB _ (fun o _ => byts_step o) b hb
theorem byts_all (l : List (List Stp)) : byts (bytesL l) := by
 intro b hb
 unfold bytesL at hb
 rcases List.mem_cons.1 hb with rfl | hb
 · omega
 · exact byts_flat codeB _ (fun o _ => byts_code o) b hb
def readB (b : List Int) : List (List Stp) × Int := match all_go b with | none => ([], 2) | some (l, r) => if (writeB l).2 = 0 ∧ r = [] then (l, 0) else ([], 2)
theorem Read_f (k : Nat) (b : List Int) (hb : byts b) (hk : 60 ≤ k) : shape_Read.f k b = some (readB b) := by
 unfold shape_Read.f readB
 rw [if_pos (List.all_eq_true.2 fun x hx => decide_eq_true (hb x hx))]
 cases all_go b with
 | none => rfl
 | some q =>
  obtain ⟨l, r⟩ := q
  show ((shape_Write.f k l).bind _) = _
  rw [Write_f k l hk, Option.bind_some]
  by_cases h : (writeB l).2 = 0
  · rw [if_pos h]
    cases r with
    | nil => rw [if_neg (by simp)]; simp [h]
    | cons x r => rw [if_pos (by rw [List.length_cons]; omega)]; simp
  · rw [if_neg h]; simp [h]
theorem write_ok {l : List (List Stp)} (h : (writeB l).2 = 0) : l.length ≤ 8 ∧ (∀ c ∈ l, checkC c = 0) ∧ writeB l = (bytesL l, 0) := by
 unfold writeB at h ⊢
 split at h
 · rename_i g
   rw [if_pos g]
   exact ⟨g.1, (okL_iff l).1 g.2, rfl⟩
 · exact absurd h (by decide)
theorem read_ok {b : List Int} (hb : byts b) (h : (readB b).2 = 0) : ∃ l, readB b = (l, 0) ∧ (writeB l).2 = 0 ∧ b = bytesL l := by
 unfold readB at h ⊢
 cases ha : all_go b with
 | none => rw [ha] at h; exact absurd h (by decide)
 | some q =>
  obtain ⟨l, r⟩ := q
  rw [ha] at h
  dsimp only at h ⊢
  split at h
  · rename_i g
    rw [if_pos g]
    obtain ⟨e, _⟩ := all_back b hb l r ha
    rw [g.2, List.append_nil] at e
    exact ⟨l, rfl, g.1, e⟩
  · exact absurd h (by decide)
theorem read_no {b : List Int} (h : (readB b).2 ≠ 0) : readB b = ([], 2) := by
 unfold readB at h ⊢
 cases ha : all_go b with
 | none => rfl
 | some q =>
  rw [ha] at h
  dsimp only at h ⊢
  split at h
  · exact absurd rfl h
  · rename_i g; rw [if_neg g]
theorem read_write {l : List (List Stp)} (h : (writeB l).2 = 0) (r : List Int) : readB (bytesL l ++ r) = if r = [] then (l, 0) else ([], 2) := by
 obtain ⟨h1, h2, _⟩ := write_ok h
 unfold readB
 rw [all_read l r (by omega) (fun c hc => check_fine (h2 c hc))]
 dsimp only
 by_cases hr : r = []
 · rw [if_pos ⟨h, hr⟩, if_pos hr]
 · rw [if_neg (fun g => hr g.2), if_neg hr]
/-! ### the document's term -/
abbrev cv (o : S50) : S66 := ⟨o.f0, o.f1⟩
def refT (t : List S50) : List S66 := t.map cv
theorem Ref_l (t : List S50) (hm : t.length < 4398046511104) (d : Nat) : ∀ (k i : Nat) (out : List S66), i ≤ t.length → t.length - i = d → d < k → out.length ≤ i →
 handshakerlaw07_Ref.l0 k out t (t.length : Int) (i : Int) = some (out ++ refT (t.drop i)) := by
 induction d with
 | zero =>
  intro k i out hi hd hk ho
  obtain ⟨k, rfl⟩ : ∃ m, k = m + 1 := ⟨k - 1, by omega⟩
  rw [List.drop_of_length_le (by omega)]
  simp only [handshakerlaw07_Ref.l0]
  rw [if_neg (by omega)]
  simp [refT]
 | succ d ih =>
  intro k i out hi hd hk ho
  obtain ⟨k, rfl⟩ : ∃ m, k = m + 1 := ⟨k - 1, by omega⟩
  rw [drop_cons t z50 i (by omega)]
  simp only [handshakerlaw07_Ref.l0]
  rw [if_pos (by omega), if_pos (by omega), if_pos (by omega), if_pos (by omega), wrN (by omega), ih k (i + 1) _ (by omega) (by omega) (by omega) (by simp; omega)]
  simp only [refT, List.map_cons, List.append_assoc, List.singleton_append]
  rfl
theorem Ref_f (k : Nat) (t : List S50) (hm : t.length < 4398046511104) (hk : t.length < k) : handshakerlaw07_Ref.f k t = some (refT t) := by
 unfold handshakerlaw07_Ref.f
 exact Ref_l t hm t.length k 0 [] (by omega) (by omega) (by omega) (by simp)
theorem ref_len (t : List S50) : (refT t).length = t.length := by simp [refT]
theorem ref_at (t : List S50) (i : Nat) (hi : i < t.length) : rd_T66 (refT t) (i : Int) = cv (t.getD i z50) := by
 unfold rd_T66 refT
 rw [List.getD_eq_getElem?_getD, List.getD_eq_getElem?_getD, List.getElem?_map]
 simp [List.getElem?_eq_getElem hi]
theorem one_f (a b : Int) : handshakerref07_one.f a b = some (mayB a b) := by
 unfold handshakerref07_one.f mayB
 rw [show handshakerref01_Right.f b = some (inR b) from by
  unfold handshakerref01_Right.f inR
  by_cases h : b ≥ (-2147483648)
  · rw [if_pos h]; simp [h]
  · rw [if_neg h]; simp [h]]
 simp only [Option.bind_some]
 split
 · rfl
 · split
   · by_cases h : b ≥ 0
     · rw [if_pos h]; congr 1; rw [decide_eq_decide]; omega
     · rw [if_neg h]; congr 1; symm; rw [decide_eq_false_iff_not]; omega
   · split
     · by_cases h : b ≥ 0
       · rw [if_pos h]; congr 1; rw [decide_eq_decide]; omega
       · rw [if_neg h]; congr 1; symm; rw [decide_eq_false_iff_not]; omega
     · by_cases h : takes a = 0
       · have : ¬ (a ≥ 4 ∧ a ≤ 11) := by
          unfold takes at h
          split at h
          · omega
          · split at h <;> omega
         rw [h]
         by_cases h4 : a ≥ 4
         · rw [if_pos h4, if_neg (fun e => this ⟨h4, e⟩)]; simp
         · rw [if_neg h4]; simp
       · have : a ≥ 4 ∧ a ≤ 11 := by
          unfold takes at h
          split at h
          · omega
          · split at h <;> omega
         rw [if_pos this.1, if_pos this.2, decide_eq_true (by omega)]; simp
/-- So many terms off the end (the last operation first): what is left. -/
def need : List S50 → Nat → Option (List S50)
 | r, 0 => some r
 | [], _ + 1 => none
 | o :: r, c + 1 => need r (c + takes o.f0)
theorem need_zero (r : List S50) : need r 0 = some r := by cases r <;> rfl
theorem need_add : ∀ (r : List S50) (a b : Nat), need r (a + b) = (need r a).bind fun s => need s b
 | r, 0, b => by rw [need_zero, Nat.zero_add]; rfl
 | [], a + 1, b => by rw [show a + 1 + b = (a + b) + 1 from by omega]; rfl
 | o :: r, a + 1, b => by
  rw [show a + 1 + b = (a + b) + 1 from by omega]
  simp only [need]
  rw [show a + b + takes o.f0 = (a + takes o.f0) + b from by omega]
  exact need_add r _ b
/-- What is left is a head of the row. -/
theorem need_suf : ∀ (r : List S50) (c : Nat) (s : List S50), need r c = some s → ∃ q, r = q ++ s ∧ c ≤ q.length
 | r, 0, s, h => by rw [need_zero] at h; cases h; exact ⟨[], rfl, by simp⟩
 | [], c + 1, s, h => by cases h
 | o :: r, c + 1, s, h => by
  obtain ⟨q, h1, h2⟩ := need_suf r _ s h
  exact ⟨o :: q, by rw [h1]; rfl, by simp; omega⟩
theorem walk_need (t : List S50) : ∀ m, walkN t 0 = some m ↔ need t.reverse m = some [] := by
 suffices ∀ (r t : List S50), t.reverse = r → ∀ m, walkN t 0 = some m ↔ need r m = some [] from this _ t rfl
 intro r
 induction r with
 | nil =>
  intro t ht m
  have : t = [] := by simpa using ht
  subst this
  cases m with
  | zero => simp [walkN, need]
  | succ m => simp [walkN, need]
 | cons o r ih =>
  intro t ht m
  have e : t = r.reverse ++ [o] := by rw [← List.reverse_reverse t, ht]; simp
  subst e
  have hi := ih r.reverse (by simp)
  rw [walkN_app]
  cases hw : walkN r.reverse 0 with
  | none =>
   simp only [Option.bind_none]
   cases m with
   | zero => simp [need]
   | succ m =>
    simp only [need]
    have := hi (m + takes o.f0)
    rw [hw] at this
    simpa using this
  | some n =>
   simp only [Option.bind_some, walkN]
   cases m with
   | zero =>
    have := takes_le o.f0
    simp only [need]
    split
    · simp
    · simp; omega
   | succ m =>
    simp only [need]
    have := hi (m + takes o.f0)
    rw [hw] at this
    rw [← this]
    split
    · simp; omega
    · simp; omega
/-- Where the term begins that ends ahead of i, or -1. -/
def startI (t : List S50) (i : Nat) : Int := match need (t.take i).reverse 1 with | some s => (s.length : Int) | none => -1
theorem take_rev (t : List S50) (i : Nat) (hi : i < t.length) : (t.take (i + 1)).reverse = t.getD i z50 :: (t.take i).reverse := by
 rw [List.take_add_one, List.getD_eq_getElem?_getD, List.getElem?_eq_getElem hi]
 simp
/-- What is left of the first i is the first so many. -/
theorem need_take {t : List S50} {i c : Nat} {s : List S50} (hi : i ≤ t.length) (h : need (t.take i).reverse c = some s) : s = (t.take s.length).reverse ∧ s.length + c ≤ i := by
 obtain ⟨q, h1, h2⟩ := need_suf _ _ _ h
 have h3 : t.take i = s.reverse ++ q.reverse := by rw [← List.reverse_reverse (t.take i), h1]; simp
 have hl : i = s.length + q.length := by
  have := congrArg List.length h3
  simp at this; omega
 refine ⟨?_, by omega⟩
 have : t.take s.length = s.reverse := by
  have e : (t.take i).take s.length = t.take s.length := by rw [List.take_take]; congr 1; omega
  rw [← e, h3]
  exact List.take_left' (by simp)
 rw [this]; simp
theorem start_f (t : List S50) (hm : t.length ≤ 12) (hmay : ∀ o ∈ t, mayB o.f0 o.f1 = true) : ∀ (n i k : Nat), i ≤ n → i ≤ t.length → i < k → handshakerref07_start.f k (refT t) ((i : Int) - 1) = some (startI t i) := by
 intro n
 induction n with
 | zero =>
  intro i k hi hl hk
  obtain ⟨k, rfl⟩ : ∃ m, k = m + 1 := ⟨k - 1, by omega⟩
  have : i = 0 := by omega
  subst this
  simp only [handshakerref07_start.f]
  rw [if_pos (by omega)]
  simp [startI, need]
 | succ n ih =>
  intro i k hi hl hk
  obtain ⟨k, rfl⟩ : ∃ m, k = m + 1 := ⟨k - 1, by omega⟩
  cases i with
  | zero =>
   simp only [handshakerref07_start.f]
   rw [if_pos (by omega)]
   simp [startI, need]
  | succ i =>
   have ei : (((i + 1 : Nat) : Int) - 1) = (i : Int) := by omega
   rw [ei]
   simp only [handshakerref07_start.f]
   rw [if_neg (by omega), if_pos (by omega), if_pos (by rw [ref_len]; omega), ref_at t i (by omega), wr (by omega) (by omega), ih i k (by omega) (by omega) (by omega)]
   simp only [Option.bind_some]
   have hmo : mayB (t.getD i z50).f0 (t.getD i z50).f1 = true := hmay _ (by
    rw [List.getD_eq_getElem?_getD, List.getElem?_eq_getElem (by omega)]; exact List.getElem_mem _)
   have e1 : startI t (i + 1) = match need (t.take i).reverse (takes (t.getD i z50).f0) with | some s => (s.length : Int) | none => -1 := by
    unfold startI
    rw [take_rev t i (by omega)]
    simp only [need, Nat.zero_add]
   rw [e1]
   have htl : ((t.take i).reverse).length = i := by simp; omega
   generalize t.getD i z50 = o at hmo ⊢
   by_cases h3 : o.f0 ≤ 3
   · have ht : takes o.f0 = 0 := by unfold takes; rw [if_neg (by omega), if_neg (by omega)]
     rw [if_pos h3, ht, need_zero]
     simp only [htl]
   · rw [if_neg h3]
     have h11 : o.f0 ≤ 11 := by
      unfold mayB at hmo
      rw [if_neg (by omega), if_neg (by omega), if_neg (by omega)] at hmo
      have ht : takes o.f0 ≠ 0 := by
       intro e; rw [e] at hmo; simp at hmo
      unfold takes at ht
      split at ht
      · omega
      · split at ht
        · omega
        · simp at ht
     by_cases h : o.f0 = 11
     · have ht : takes o.f0 = 1 := by rw [h]; decide
       rw [ht, if_pos h]
       have : startI t i = match need (t.take i).reverse 1 with | some s => (s.length : Int) | none => -1 := rfl
       rw [← this]
       split <;> rfl
     · have ht : takes o.f0 = 2 := by unfold takes; rw [if_pos (by omega)]
       rw [ht, if_neg h, show (2 : Nat) = 1 + 1 from rfl, need_add]
       unfold startI
       cases hn : need (t.take i).reverse 1 with
       | none => simp
       | some s =>
        obtain ⟨e2, e3⟩ := need_take (by omega) hn
        simp only [Option.bind_some]
        rw [if_neg (by omega), wr (by omega) (by omega), ih s.length k (by omega) (by omega) (by omega)]
        simp only [Option.bind_some]
        have e4 : startI t s.length = match need s 1 with | some s => (s.length : Int) | none => -1 := by
         unfold startI
         rw [← e2]
        rw [e4]
theorem rCheck_l (t : List S50) (hm1 : 1 ≤ t.length) (hm : t.length ≤ 12) (d : Nat) : ∀ (k i : Nat), i ≤ t.length → t.length - i = d → d + 14 < k → (∀ o ∈ t.take i, mayB o.f0 o.f1 = true) →
 handshakerref07_Check.l0 k (refT t) (i : Int) = some (checkB t) := by
 induction d with
 | zero =>
  intro k i hi hd hk hma
  obtain ⟨k, rfl⟩ : ∃ m, k = m + 1 := ⟨k - 1, by omega⟩
  rw [List.take_of_length_le (by omega)] at hma
  simp only [handshakerref07_Check.l0]
  rw [if_neg (by rw [ref_len]; omega), ref_len, wr (by omega) (by omega), start_f t hm hma t.length t.length k (by omega) (by omega) (by omega)]
  simp only [Option.bind_some]
  have hall : mayAll t = true := by unfold mayAll; exact List.all_eq_true.2 hma
  have ec : checkB t = if walkN t 0 = some 1 then 0 else 2 := by
   unfold checkB
   rw [if_pos ⟨hm1, hm, hall⟩]
  rw [ec]
  unfold startI
  rw [List.take_of_length_le (by omega)]
  have hwn := walk_need t 1
  by_cases hw : walkN t 0 = some 1
  · rw [if_pos hw, hwn.1 hw]; rfl
  · rw [if_neg hw]
    have h2 : need t.reverse 1 ≠ some [] := fun e => hw (hwn.2 e)
    cases hn : need t.reverse 1 with
    | none => rw [if_neg (by decide)]
    | some s =>
     rw [hn] at h2
     have : s ≠ [] := fun e => h2 (by rw [e])
     have : 0 < s.length := List.length_pos_iff.2 this
     rw [if_neg (by simp only; omega)]
 | succ d ih =>
  intro k i hi hd hk hma
  obtain ⟨k, rfl⟩ : ∃ m, k = m + 1 := ⟨k - 1, by omega⟩
  simp only [handshakerref07_Check.l0]
  rw [if_pos (by rw [ref_len]; omega), if_pos (by omega), ref_at t i (by omega), one_f, wrN (by omega)]
  simp only [Option.bind_some, cv]
  have hmem : t.getD i z50 ∈ t := by
   rw [List.getD_eq_getElem?_getD, List.getElem?_eq_getElem (by omega)]; exact List.getElem_mem _
  by_cases ho : mayB (t.getD i z50).f0 (t.getD i z50).f1 = true
  · rw [if_pos ho]
    refine ih k (i + 1) (by omega) (by omega) (by omega) fun o h => ?_
    rw [List.take_add_one, List.getElem?_eq_getElem (by omega)] at h
    rcases List.mem_append.1 h with h | h
    · exact hma o h
    · have : o = t.getD i z50 := by
       rw [List.getD_eq_getElem?_getD, List.getElem?_eq_getElem (by omega)]
       simpa using h
      rw [this]; exact ho
  · rw [if_neg ho]
    unfold checkB
    rw [if_neg]
    intro e
    exact ho (List.all_eq_true.1 e.2.2 _ hmem)
theorem rCheck_f (k : Nat) (t : List S50) (hk : 40 ≤ k) : handshakerref07_Check.f k (refT t) = some (checkB t) := by
 obtain ⟨k, rfl⟩ : ∃ q, k = q + 1 := ⟨k - 1, by omega⟩
 unfold handshakerref07_Check.f
 simp only [handshakerref07_Check.j0]
 rw [ref_len]
 by_cases h1 : t.length < 1
 · rw [if_pos (by omega), if_pos trivial]
   unfold checkB
   rw [if_neg (by omega)]
 · rw [if_neg (by omega)]
   by_cases h2 : t.length > 12
   · rw [if_pos (by simp; omega)]
     unfold checkB
     rw [if_neg (by omega)]
   · rw [if_neg (by simp; omega)]
     exact rCheck_l t (by omega) (by omega) t.length k 0 (by omega) (by omega) (by omega) (by simp)
/-! ### the cells that the document names -/
def refCells (t : List S50) : List Int := ((List.range 64).filter fun c => t.any fun o => o.f0 == 2 && o.f1 == ((c : Nat) : Int)).map fun c => ((c : Nat) : Int)
theorem rCells_l1 (t : List S50) (hm : t.length ≤ 12) (c K : Nat) (out : List Int) (r : Option (List Int)) (ho : out.length < 4611686018427) (he : ∀ k, K < k → handshakerref07_Cells.l0 k (refT t) (if (t.any fun o => o.f0 == 2 && o.f1 == (c : Int)) = true then out ++ [(c : Int)] else out) (wrap64 ((c : Int) + 1)) = r) (d : Nat) : ∀ (k i : Nat) (b : Bool), i ≤ t.length → t.length - i = d → d + K + 1 < k → b = ((t.take i).any fun o => o.f0 == 2 && o.f1 == (c : Int)) →
 handshakerref07_Cells.l1 k (refT t) out (c : Int) b (i : Int) = r := by
 induction d with
 | zero =>
  intro k i b hi hd hk hb
  obtain ⟨k, rfl⟩ : ∃ m, k = m + 1 := ⟨k - 1, by omega⟩
  rw [List.take_of_length_le (by omega)] at hb
  have he' := he k (by omega)
  simp only [handshakerref07_Cells.l1]
  rw [if_neg (by rw [ref_len]; omega)]
  cases b with
  | true =>
   rw [if_pos hb.symm] at he'
   rw [if_pos rfl, if_pos (by omega)]
   exact he'
  | false =>
   rw [if_neg (by rw [← hb]; decide)] at he'
   rw [if_neg (by decide)]
   exact he'
 | succ d ih =>
  intro k i b hi hd hk hb
  obtain ⟨k, rfl⟩ : ∃ m, k = m + 1 := ⟨k - 1, by omega⟩
  have et := take_sn t i (by omega)
  have en : ((t.take (i + 1)).any fun o => o.f0 == 2 && o.f1 == (c : Int)) = (b || ((t.getD i z50).f0 == 2 && (t.getD i z50).f1 == (c : Int))) := by
   rw [et, List.any_append, ← hb]; simp
  simp only [handshakerref07_Cells.l1]
  rw [if_pos (by rw [ref_len]; omega), wrN (by omega), ref_at t i (by omega)]
  generalize t.getD i z50 = o at *
  cases b with
  | true =>
   rw [if_pos rfl]
   exact ih k (i + 1) true (by omega) (by omega) (by omega) (by rw [en]; rfl)
  | false =>
   rw [if_neg (by decide), if_pos (by omega)]
   by_cases h2 : o.f0 = 2
   · rw [if_pos (show (cv o).f0 = 2 from h2)]
     exact ih k (i + 1) _ (by omega) (by omega) (by omega) (by rw [en, h2]; simp)
   · rw [if_neg (show ¬ (cv o).f0 = 2 from h2)]
     exact ih k (i + 1) _ (by omega) (by omega) (by omega) (by rw [en, show (o.f0 == 2) = false from beq_eq_false_iff_ne.2 h2]; rfl)
theorem rCells_l0 (t : List S50) (hm : t.length ≤ 12) (d : Nat) : ∀ (k c : Nat), c ≤ 64 → 64 - c = d → 20 * d + 20 < k →
 handshakerref07_Cells.l0 k (refT t) (((List.range c).filter fun c => t.any fun o => o.f0 == 2 && o.f1 == ((c : Nat) : Int)).map fun c => ((c : Nat) : Int)) (c : Int) = some (refCells t) := by
 induction d with
 | zero =>
  intro k c hc hd hk
  obtain ⟨k, rfl⟩ : ∃ m, k = m + 1 := ⟨k - 1, by omega⟩
  have : c = 64 := by omega
  subst this
  simp only [handshakerref07_Cells.l0]
  rw [if_neg (by omega)]
  rfl
 | succ d ih =>
  intro k c hc hd hk
  obtain ⟨k, rfl⟩ : ∃ m, k = m + 1 := ⟨k - 1, by omega⟩
  simp only [handshakerref07_Cells.l0]
  rw [if_pos (by omega)]
  refine rCells_l1 t hm c (20 * d + 20) _ _ ?_ (fun k hk => ?_) t.length k 0 false (by omega) (by omega) (by omega) (by simp)
  · rw [List.length_map]
    refine Nat.lt_of_le_of_lt (List.length_filter_le _ _) ?_
    rw [List.length_range]; omega
  · rw [wrN (by omega), ← ih k (c + 1) (by omega) (by omega) hk, List.range_succ, List.filter_append, List.map_append]
    by_cases hx : (t.any fun o => o.f0 == 2 && o.f1 == (c : Int)) = true
    · rw [if_pos hx]; simp only [List.filter_cons, hx, if_true, List.filter_nil, List.map_cons, List.map_nil]
    · rw [if_neg hx]; simp only [List.filter_cons, hx, List.filter_nil, List.map_nil, List.append_nil, if_false, Bool.false_eq_true]
theorem rCells_f (k : Nat) (t : List S50) (hk : 1400 < k) : handshakerref07_Cells.f k (refT t) = some (if checkB t = 0 then refCells t else []) := by
 unfold handshakerref07_Cells.f
 rw [rCheck_f k t (by omega)]
 simp only [Option.bind_some]
 by_cases h1 : checkB t = 0
 · rw [if_pos h1, if_pos h1]
   obtain ⟨c1, c2, c3, c4⟩ := checkB_ok h1
   exact rCells_l0 t c2 64 k 0 (by omega) (by omega) (by omega)
 · rw [if_neg h1, if_neg h1]
/-- Rows that rise and have the same elements are the same. -/
theorem rise_ext : ∀ (a b : List Int), a.Pairwise (· < ·) → b.Pairwise (· < ·) → (∀ x, x ∈ a ↔ x ∈ b) → a = b
 | [], [], _, _, _ => rfl
 | [], y :: b, _, _, h => by have := (h y).2 (by simp); simp at this
 | x :: a, [], _, _, h => by have := (h x).1 (by simp); simp at this
 | x :: a, y :: b, ha, hb, h => by
  obtain ⟨a1, a2⟩ := List.pairwise_cons.1 ha
  obtain ⟨b1, b2⟩ := List.pairwise_cons.1 hb
  have exy : x = y := by
   rcases List.mem_cons.1 ((h x).1 (by simp)) with e | e
   · exact e
   · rcases List.mem_cons.1 ((h y).2 (by simp)) with e2 | e2
     · exact e2.symm
     · have := a1 y e2
       have := b1 x e
       omega
  subst exy
  rw [rise_ext a b a2 b2 fun z => ?_]
  constructor
  · intro hz
    rcases List.mem_cons.1 ((h z).1 (by simp [hz])) with e | e
    · have := a1 z hz; omega
    · exact e
  · intro hz
    rcases List.mem_cons.1 ((h z).2 (by simp [hz])) with e | e
    · have := b1 z hz; omega
    · exact e
theorem mem_comp (l : List Int) (x : Int) : x ∈ Go.Lib.compact l ↔ x ∈ l := by
 constructor
 · intro h
   unfold Go.Lib.compact Go.Lib.compactUpTo at h
   obtain ⟨i, hi, rfl⟩ := List.mem_map.1 h
   have hi' : i < l.length := List.mem_range.1 (List.mem_filter.1 hi).1
   simp [getElem!_pos, hi']
 intro h
 have key : ∀ i : Nat, i < l.length → ∃ j, j ≤ i ∧ Go.Lib.keeps l.toArray j = true ∧ l.toArray[j]! = l.toArray[i]! := by
  intro i
  induction i with
  | zero => intro _; exact ⟨0, by omega, by simp [Go.Lib.keeps], rfl⟩
  | succ i ih =>
   intro hi
   by_cases e : l.toArray[i + 1]! = l.toArray[i]!
   · obtain ⟨j, h1, h2, h3⟩ := ih (by omega)
     exact ⟨j, by omega, h2, h3.trans e.symm⟩
   · exact ⟨i + 1, by omega, by unfold Go.Lib.keeps; exact decide_eq_true (.inr (by simpa using e)), rfl⟩
 obtain ⟨i, hi, rfl⟩ := List.mem_iff_getElem.1 h
 obtain ⟨j, h1, h2, h3⟩ := key i hi
 unfold Go.Lib.compact Go.Lib.compactUpTo
 refine List.mem_map.2 ⟨j, List.mem_filter.2 ⟨List.mem_range.2 (by omega), h2⟩, ?_⟩
 rw [h3]
 simp [getElem!_pos, hi]
theorem comp_rise (l : List Int) (hs : l.Pairwise (· ≤ ·)) : (Go.Lib.compact l).Pairwise (· < ·) := by
 unfold Go.Lib.compact Go.Lib.compactUpTo
 rw [List.pairwise_map]
 have hp : (List.range l.length).Pairwise (· < ·) := List.pairwise_lt_range
 have hp2 := List.Pairwise.filter (Go.Lib.keeps l.toArray) hp
 refine List.Pairwise.imp_of_mem ?_ hp2
 intro i j hi hj hij
 have hi1 : i < l.length := List.mem_range.1 (List.mem_filter.1 hi).1
 have hj1 : j < l.length := List.mem_range.1 (List.mem_filter.1 hj).1
 have hk := (List.mem_filter.1 hj).2
 unfold Go.Lib.keeps at hk
 have hk := of_decide_eq_true hk
 have hne : l.toArray[j]! ≠ l.toArray[j - 1]! := by
  rcases hk with h | h
  · omega
  · exact h
 have hget := List.pairwise_iff_getElem.1 hs
 have e1 : ∀ q, (hq : q < l.length) → l.toArray[q]! = l[q] := fun q hq => by simp [getElem!_pos, hq]
 rw [e1 j hj1, e1 (j - 1) (by omega)] at hne
 rw [e1 i hi1, e1 j hj1]
 have h1 : l[j - 1] ≤ l[j] := hget (j - 1) j (by omega) hj1 (by omega)
 have h2 : l[i] ≤ l[j - 1] := by
  by_cases e : i = j - 1
  · subst e; exact Int.le_refl _
  · exact hget i (j - 1) hi1 (by omega) (by omega)
 omega
theorem cells_same (t : List S50) : cellsB t = if checkB t = 0 then refCells t else [] := by
 unfold cellsB
 by_cases h1 : checkB t = 0
 · rw [if_pos h1, if_pos h1]
   obtain ⟨c1, c2, c3, c4⟩ := checkB_ok h1
   refine rise_ext _ _ (comp_rise _ ?_) ?_ fun x => ?_
   · have := List.pairwise_mergeSort (le := fun x y : Int => decide (x ≤ y)) (by intro a b c; simp; omega) (by intro a b; simp; omega) (cellsL t)
     exact this.imp fun h => of_decide_eq_true h
   · unfold refCells
     rw [List.pairwise_map]
     exact (List.Pairwise.filter _ List.pairwise_lt_range).imp fun h => by omega
   · rw [mem_comp, List.mem_mergeSort]
     unfold cellsL refCells
     simp only [List.mem_map, List.mem_filter, List.mem_range, List.any_eq_true, Bool.and_eq_true, beq_iff_eq]
     constructor
     · rintro ⟨o, ⟨h2, h3⟩, rfl⟩
       have hmo := c3 o h2
       unfold mayB at hmo
       rw [if_neg (by omega), if_pos h3] at hmo
       have hmo := of_decide_eq_true hmo
       exact ⟨o.f1.toNat, ⟨by omega, o, h2, h3, by omega⟩, by omega⟩
     · rintro ⟨c, ⟨h2, o, h3, h4, h5⟩, rfl⟩
       exact ⟨o, ⟨h3, h4⟩, h5⟩
 · rw [if_neg h1, if_neg h1]
/-! the cells that a code names -/
def nameC (s : S53) : Option Int := if s.f0 = 1 then some s.f2 else if s.f0 = 3 then some s.f1 else none
def cellsLC (c : List S53) : List Int := c.filterMap nameC
def cellsC (c : List S53) : List Int := if checkC c = 0 then Go.Lib.compact ((cellsLC c).mergeSort fun x y => decide (x ≤ y)) else []
/-! ### the document's code -/
abbrev cvC (s : S53) : S62 := ⟨s.f0, s.f1, s.f2, refT s.f3⟩
def refC (c : List S53) : List S62 := c.map cvC
theorem RefC_l (c : List S53) (hm : c.length ≤ 40) (hs : ∀ s ∈ c, s.f3.length ≤ 20) (d : Nat) : ∀ (k i : Nat) (out : List S62), i ≤ c.length → c.length - i = d → d + 30 < k → out.length ≤ i →
 handshakerlaw08_Ref.l0 k out c (c.length : Int) (i : Int) = some (out ++ refC (c.drop i)) := by
 induction d with
 | zero =>
  intro k i out hi hd hk ho
  obtain ⟨k, rfl⟩ : ∃ m, k = m + 1 := ⟨k - 1, by omega⟩
  rw [List.drop_of_length_le (by omega)]
  simp only [handshakerlaw08_Ref.l0]
  rw [if_neg (by omega)]
  simp [refC]
 | succ d ih =>
  intro k i out hi hd hk ho
  obtain ⟨k, rfl⟩ : ∃ m, k = m + 1 := ⟨k - 1, by omega⟩
  have hl := hs (c.getD i z53) (by
   rw [List.getD_eq_getElem?_getD, List.getElem?_eq_getElem (by omega)]; exact List.getElem_mem _)
  rw [drop_cons c z53 i (by omega)]
  simp only [handshakerlaw08_Ref.l0]
  rw [if_pos (by omega), if_pos (by omega), if_pos (by omega), show rd_T53 c (i : Int) = c.getD i z53 from rfl, Ref_f k _ (by omega) (by omega)]
  simp only [Option.bind_some]
  rw [if_pos (by omega), wrN (by omega), ih k (i + 1) _ (by omega) (by omega) (by omega) (by simp; omega)]
  simp only [refC, List.map_cons, List.append_assoc, List.singleton_append]
theorem RefC_f (k : Nat) (c : List S53) (hm : c.length ≤ 40) (hs : ∀ s ∈ c, s.f3.length ≤ 20) (hk : 80 < k) : handshakerlaw08_Ref.f k c = some (refC c) := by
 unfold handshakerlaw08_Ref.f
 exact RefC_l c hm hs c.length k 0 [] (by omega) (by omega) (by omega) (by simp)
theorem refC_len (c : List S53) : (refC c).length = c.length := by simp [refC]
theorem refC_at (c : List S53) (i : Nat) (hi : i < c.length) : rd_T62 (refC c) (i : Int) = cvC (c.getD i z53) := by
 unfold rd_T62 refC
 rw [List.getD_eq_getElem?_getD, List.getD_eq_getElem?_getD, List.getElem?_map]
 simp [List.getElem?_eq_getElem hi]
theorem rreck_f (k : Nat) (t : List S50) (hk : 1400 < k) : handshakerref08_reckons.f k (refT t) = some (reckB t) := by
 unfold handshakerref08_reckons.f reckB
 rw [rCheck_f k t (by omega), rCells_f k t hk, ← cells_same]
 simp only [Option.bind_some]
 by_cases h : checkB t = 0
 · rw [if_pos h, h]; simp
 · rw [if_neg h, show (checkB t == 0) = false from beq_eq_false_iff_ne.2 h]; rfl
theorem ge_le (a lo hi : Int) (x : Option Bool) : (if a ≥ lo then (if a ≤ hi then x else some false) else some false) = if btw a lo hi = true then x else some false := by
 unfold btw
 by_cases h1 : a ≥ lo
 · by_cases h2 : a ≤ hi
   · rw [if_pos h1, if_pos h2, if_pos (decide_eq_true ⟨h1, h2⟩)]
   · rw [if_pos h1, if_neg h2, if_neg (by simp; omega)]
 · rw [if_neg h1, if_neg (by simp; omega)]
theorem ge_leD (a lo hi : Int) : (if a ≥ lo then some (decide (a ≤ hi)) else some false) = some (btw a lo hi) := by
 unfold btw
 by_cases h1 : a ≥ lo
 · rw [if_pos h1]; congr 1; rw [decide_eq_decide]; omega
 · rw [if_neg h1]; congr 1; symm; rw [decide_eq_false_iff_not]; omega
theorem rone_f (k : Nat) (s : S53) (hk : 1400 < k) : handshakerref08_one.f k s.f0 s.f1 s.f2 (refT s.f3) = some (mayC s) := by
 unfold handshakerref08_one.f mayC
 simp only [rreck_f k s.f3 hk, Option.bind_some, len0, ref_len, ge_le, ge_leD]
 generalize reckB s.f3 = r
 generalize (s.f3.length == 0) = z
 generalize btw s.f1 0 7 = b1
 generalize btw s.f2 0 63 = b2
 generalize btw s.f1 0 63 = b3
 generalize btw s.f1 1 24 = b4
 generalize btw s.f2 1 24 = b5
 generalize btw s.f1 0 255 = b6
 by_cases h1 : s.f0 = 1
 · rw [if_pos h1, if_pos h1]; cases z <;> cases b1 <;> rfl
 rw [if_neg h1, if_neg h1]
 by_cases h2 : s.f0 = 2
 · rw [if_pos h2, if_pos h2]; by_cases e2 : s.f2 = 0 <;> cases b1 <;> cases r <;> simp [e2]
 rw [if_neg h2, if_neg h2]
 by_cases h3 : s.f0 = 3
 · rw [if_pos h3, if_pos h3]; by_cases e2 : s.f2 = 0 <;> cases b3 <;> cases r <;> simp [e2]
 rw [if_neg h3, if_neg h3]
 by_cases h4 : s.f0 = 4
 · rw [if_pos h4, if_pos h4]; by_cases e2 : s.f2 = 0 <;> cases b4 <;> cases r <;> simp [e2]
 rw [if_neg h4, if_neg h4]
 by_cases h5 : s.f0 = 5
 · rw [if_pos h5, if_pos h5]; by_cases e1 : s.f1 = 0 <;> by_cases e2 : s.f2 = 0 <;> cases z <;> simp [e1, e2]
 rw [if_neg h5, if_neg h5]
 by_cases h6 : s.f0 = 6
 · rw [if_pos h6, if_pos h6]; by_cases e2 : s.f2 = 0 <;> cases z <;> cases b6 <;> simp [e2]
 rw [if_neg h6, if_neg h6]
 by_cases h7 : s.f0 = 7
 · rw [if_pos h7, if_pos h7]; cases z <;> cases b4 <;> cases b5 <;> rfl
 rw [if_neg h7, if_neg h7]
/-- A part of a code. -/
def part (c : List S53) (a b : Nat) : List S53 := (c.take b).drop a
theorem part_len (c : List S53) (a b : Nat) (hb : b ≤ c.length) : (part c a b).length = b - a := by unfold part; simp; omega
theorem part_cons (c : List S53) (a b : Nat) (h : a < b) (hb : b ≤ c.length) : part c a b = c.getD a z53 :: part c (a + 1) b := by
 unfold part
 rw [drop_cons (c.take b) z53 a (by simp; omega)]
 congr 1
 rw [List.getD_eq_getElem?_getD, List.getD_eq_getElem?_getD, List.getElem?_take, if_pos h]
theorem part_nil (c : List S53) (a b : Nat) (h : b ≤ a) : part c a b = [] := by
 unfold part
 rw [List.drop_of_length_le (by simp; omega)]
theorem part_take (c : List S53) (a b m : Nat) (h : a + m ≤ b) : (part c a b).take m = part c a (a + m) := by
 unfold part
 rw [List.take_drop, List.take_take, Nat.min_eq_left h]
theorem part_drop (c : List S53) (a b m : Nat) : (part c a b).drop m = part c (a + m) b := by
 unfold part
 rw [List.drop_drop]
theorem well_f (c : List S53) (h24 : c.length ≤ 24) (hm : ∀ s ∈ c, mayC s = true) : ∀ (n a b k : Nat), b - a ≤ n → a ≤ b → b ≤ c.length → 2 * (b - a) + 2 ≤ k →
 ∃ v : Nat, v ≤ b - a ∧ handshakerref08_well.f k (refC c) (a : Int) (b : Int) = some ((match deepT (part c a b) with | some q => (q : Int) | none => (v : Int)), (deepT (part c a b)).isSome) := by
 intro n
 induction n with
 | zero =>
  intro a b k hn hab hb hk
  obtain ⟨k, rfl⟩ : ∃ m, k = m + 1 := ⟨k - 1, by omega⟩
  simp only [handshakerref08_well.f]
  rw [if_pos (by omega), part_nil c a b (by omega), deepT_nil]
  exact ⟨0, by omega, rfl⟩
 | succ n ih =>
  intro a b k hn hab hb hk
  obtain ⟨k, rfl⟩ : ∃ m, k = m + 2 := ⟨k - 2, by omega⟩
  by_cases e : a = b
  · simp only [handshakerref08_well.f]
    rw [if_pos (by omega), part_nil c a b (by omega), deepT_nil]
    exact ⟨0, by omega, rfl⟩
  · have hms : mayC (c.getD a z53) = true := hm _ (by
     rw [List.getD_eq_getElem?_getD, List.getElem?_eq_getElem (by omega)]; exact List.getElem_mem _)
    have pl := part_len c (a + 1) b hb
    rw [part_cons c a b (by omega) hb, deepT]
    simp only [handshakerref08_well.f]
    rw [if_neg (by omega), if_pos (by omega), if_pos (by rw [refC_len]; omega), refC_at c a (by omega), wrN (by omega)]
    generalize c.getD a z53 = s at *
    by_cases h4 : s.f0 = 4
    · obtain ⟨a1, a2⟩ := mayC_skip hms h4
      rw [if_pos (show (cvC s).f0 = 4 from h4), if_neg (by omega)]
      have ew : wrap64 (((a + 1 : Nat) : Int) + (cvC s).f1) = ((a + 1 : Nat) : Int) + s.f1 := wr (by simp only; omega) (by simp only; omega)
      rw [ew]
      simp only [handshakerref08_well.j0]
      by_cases hl : s.f1.toNat > (part c (a + 1) b).length
      · rw [if_pos (by simp; omega), if_pos ⟨h4, hl⟩]
        exact ⟨0, by omega, rfl⟩
      · rw [if_neg (by simp; omega), if_neg (show ¬ s.f0 = 7 by omega), if_neg (fun e => hl e.2), wrN (by omega)]
        obtain ⟨v, hv, ev⟩ := ih (a + 1) b k (by omega) (by omega) hb (by omega)
        rw [ev]
        exact ⟨v, by omega, rfl⟩
    · rw [if_neg (show ¬ (cvC s).f0 = 4 from h4)]
      simp only [handshakerref08_well.j0]
      rw [if_neg (by decide)]
      by_cases h7 : s.f0 = 7
      · obtain ⟨a1, a2, b1, b2⟩ := mayC_either hms h7
        rw [if_pos h7, if_pos h7, wrN (by omega)]
        have ew1 : wrap64 (((a + 1 : Nat) : Int) + s.f1) = ((a + 1 + s.f1.toNat : Nat) : Int) := by rw [wr (by omega) (by omega)]; omega
        have ew2 : wrap64 (((a + 1 + s.f1.toNat : Nat) : Int) + s.f2) = ((a + 1 + (s.f1.toNat + s.f2.toNat) : Nat) : Int) := by rw [wr (by omega) (by omega)]; omega
        rw [ew1, ew2]
        by_cases hl : s.f1.toNat + s.f2.toNat > (part c (a + 1) b).length
        · rw [if_pos (by omega), if_pos hl]
          exact ⟨0, by omega, rfl⟩
        · rw [if_neg (by omega), if_neg hl]
          obtain ⟨v1, hv1, ev1⟩ := ih (a + 1) (a + 1 + s.f1.toNat) k (by omega) (by omega) (by omega) (by omega)
          obtain ⟨v2, hv2, ev2⟩ := ih (a + 1 + s.f1.toNat) (a + 1 + (s.f1.toNat + s.f2.toNat)) k (by omega) (by omega) (by omega) (by omega)
          obtain ⟨v3, hv3, ev3⟩ := ih (a + 1 + (s.f1.toNat + s.f2.toNat)) b k (by omega) (by omega) hb (by omega)
          rw [ev1, ev2, ev3]
          simp only [Option.bind_some]
          rw [part_take c (a + 1) b s.f1.toNat (by omega), part_take c (a + 1) b (s.f1.toNat + s.f2.toNat) (by omega), part_drop, part_drop]
          have l1 := fun m => deepT_le _ (part c (a + 1) (a + 1 + s.f1.toNat)) m (Nat.le_refl _)
          have l2 := fun m => deepT_le _ (part c (a + 1 + s.f1.toNat) (a + 1 + (s.f1.toNat + s.f2.toNat))) m (Nat.le_refl _)
          have l3 := fun m => deepT_le _ (part c (a + 1 + (s.f1.toNat + s.f2.toNat)) b) m (Nat.le_refl _)
          rw [part_len _ _ _ (by omega)] at l1 l2 l3
          have key : ∀ x y z : Nat, x ≤ 24 → y ≤ 24 → z ≤ 24 → mx (mx (z : Int) (wrap64 (1 + (x : Int)))) (wrap64 (1 + (y : Int))) = ((max z (1 + max x y) : Nat) : Int) := by
           intro x y z hx hy hz
           rw [wr (i := 1 + (x : Int)) (by omega) (by omega), wr (i := 1 + (y : Int)) (by omega) (by omega)]
           have e1 : mx (z : Int) (1 + (x : Int)) = ((max z (1 + x) : Nat) : Int) := by unfold mx; split <;> omega
           rw [e1]
           unfold mx; split <;> omega
          cases e1 : deepT (part c (a + 1) (a + 1 + s.f1.toNat)) with
          | none =>
           simp only [Option.isSome_none]
           rw [if_neg (by decide)]
           cases e2 : deepT (part c (a + 1 + s.f1.toNat) (a + 1 + (s.f1.toNat + s.f2.toNat))) with
           | none =>
            cases e3 : deepT (part c (a + 1 + (s.f1.toNat + s.f2.toNat)) b) with
            | none => exact ⟨max v3 (1 + max v1 v2), by omega, by simp only; rw [key v1 v2 v3 (by omega) (by omega) (by omega)]; try rfl⟩
            | some q3 => have := l3 q3 e3; exact ⟨max q3 (1 + max v1 v2), by omega, by simp only; rw [key v1 v2 q3 (by omega) (by omega) (by omega)]; try rfl⟩
           | some q2 =>
            have := l2 q2 e2
            cases e3 : deepT (part c (a + 1 + (s.f1.toNat + s.f2.toNat)) b) with
            | none => exact ⟨max v3 (1 + max v1 q2), by omega, by simp only; rw [key v1 q2 v3 (by omega) (by omega) (by omega)]; try rfl⟩
            | some q3 => have := l3 q3 e3; exact ⟨max q3 (1 + max v1 q2), by omega, by simp only; rw [key v1 q2 q3 (by omega) (by omega) (by omega)]; try rfl⟩
          | some q1 =>
           have := l1 q1 e1
           simp only [Option.isSome_some, if_true]
           cases e2 : deepT (part c (a + 1 + s.f1.toNat) (a + 1 + (s.f1.toNat + s.f2.toNat))) with
           | none =>
            simp only [Option.isSome_none]
            rw [if_neg (by decide)]
            cases e3 : deepT (part c (a + 1 + (s.f1.toNat + s.f2.toNat)) b) with
            | none => exact ⟨max v3 (1 + max q1 v2), by omega, by simp only; rw [key q1 v2 v3 (by omega) (by omega) (by omega)]; try rfl⟩
            | some q3 => have := l3 q3 e3; exact ⟨max q3 (1 + max q1 v2), by omega, by simp only; rw [key q1 v2 q3 (by omega) (by omega) (by omega)]; try rfl⟩
           | some q2 =>
            have := l2 q2 e2
            simp only [Option.isSome_some, if_true]
            cases e3 : deepT (part c (a + 1 + (s.f1.toNat + s.f2.toNat)) b) with
            | none => exact ⟨max v3 (1 + max q1 q2), by omega, by simp only; rw [key q1 q2 v3 (by omega) (by omega) (by omega)]; try rfl⟩
            | some q3 => have := l3 q3 e3; exact ⟨0, by omega, by simp only; rw [key q1 q2 q3 (by omega) (by omega) (by omega)]; try rfl⟩
      · rw [if_neg h7, if_neg h7, if_neg (fun e => h4 e.1), wrN (by omega)]
        obtain ⟨v, hv, ev⟩ := ih (a + 1) b k (by omega) (by omega) hb (by omega)
        rw [ev]
        exact ⟨v, by omega, rfl⟩
theorem rCheckC_l (c : List S53) (hm : c.length ≤ 24) (d : Nat) : ∀ (k i : Nat), i ≤ c.length → c.length - i = d → d + 1500 < k → (∀ s ∈ c.take i, mayC s = true) →
 handshakerref08_Check.l0 k (refC c) (i : Int) = some (checkC c) := by
 induction d with
 | zero =>
  intro k i hi hd hk hma
  obtain ⟨k, rfl⟩ : ∃ m, k = m + 1 := ⟨k - 1, by omega⟩
  rw [List.take_of_length_le (by omega)] at hma
  obtain ⟨v, hv, ev⟩ := well_f c hm hma c.length 0 c.length k (by omega) (by omega) (by omega) (by omega)
  have ep : part c 0 c.length = c := by unfold part; simp
  rw [ep] at ev
  simp only [handshakerref08_Check.l0]
  rw [if_neg (by rw [refC_len]; omega), refC_len, show (0 : Int) = ((0 : Nat) : Int) from rfl, ev]
  simp only [Option.bind_some]
  have ec : checkC c = match deepT c with | some n => if n > 6 then 5 else 0 | none => 2 := by
   unfold checkC
   rw [if_pos ⟨hm, List.all_eq_true.2 hma⟩]
   all_goals (cases deepT c <;> rfl)
  refine Eq.trans ?_ (congrArg some ec.symm)
  cases deepT c with
  | none => rfl
  | some n =>
   simp only [Option.isSome_some, if_true]
   by_cases h6 : n > 6
   · rw [if_pos (by omega), if_pos h6]
   · rw [if_neg (by omega), if_neg h6]; rfl
 | succ d ih =>
  intro k i hi hd hk hma
  obtain ⟨k, rfl⟩ : ∃ m, k = m + 1 := ⟨k - 1, by omega⟩
  simp only [handshakerref08_Check.l0]
  rw [if_pos (by rw [refC_len]; omega), if_pos (by omega), refC_at c i (by omega), wrN (by omega)]
  have hmem : c.getD i z53 ∈ c := by
   rw [List.getD_eq_getElem?_getD, List.getElem?_eq_getElem (by omega)]; exact List.getElem_mem _
  have r1 := rone_f k (c.getD i z53) (by omega)
  have er : handshakerref08_one.f k (cvC (c.getD i z53)).f0 (cvC (c.getD i z53)).f1 (cvC (c.getD i z53)).f2 (cvC (c.getD i z53)).f3 = some (mayC (c.getD i z53)) := r1
  rw [er]
  simp only [Option.bind_some]
  by_cases ho : mayC (c.getD i z53) = true
  · rw [if_pos ho]
    refine ih k (i + 1) (by omega) (by omega) (by omega) fun o h => ?_
    rw [List.take_add_one, List.getElem?_eq_getElem (by omega)] at h
    rcases List.mem_append.1 h with h | h
    · exact hma o h
    · have : o = c.getD i z53 := by
       rw [List.getD_eq_getElem?_getD, List.getElem?_eq_getElem (by omega)]
       simpa using h
      rw [this]; exact ho
  · rw [if_neg ho]
    unfold checkC
    rw [if_neg]
    intro e
    exact ho (List.all_eq_true.1 e.2 _ hmem)
theorem rCheckC_f (k : Nat) (c : List S53) (hk : 1600 ≤ k) : handshakerref08_Check.f k (refC c) = some (checkC c) := by
 unfold handshakerref08_Check.f
 rw [refC_len]
 by_cases h2 : c.length > 24
 · rw [if_pos (by omega)]
   unfold checkC
   rw [if_neg (by omega)]
 · rw [if_neg (by omega)]
   exact rCheckC_l c (by omega) c.length k 0 (by omega) (by omega) (by omega) (by simp)
/-! ### codes together -/
theorem len_sum : ∀ (l : List (List Stp)) (c : List Stp), c ∈ l → c.length < (l.map List.length).sum + 1
 | x :: l, c, h => by
  rw [List.map_cons, List.sum_cons]
  rcases List.mem_cons.1 h with rfl | h
  · omega
  · have := len_sum l c h; omega
theorem small_f (l : List (List Stp)) (k : Nat) (hm : l.length < 9000000000000000000) (hs : ∀ c ∈ l, c.length ≤ 9223372036854775807) (hk : l.length + (l.map List.length).sum + 2 < k) :
 ∃ b, handshakerlaw09_small.f k l = some b ∧ (b = true → l.length ≤ 12 ∧ ∀ c ∈ l, c.length ≤ 40 ∧ ∀ s ∈ c, s.f3.length ≤ 20) := by
 unfold handshakerlaw09_small.f
 exact small_l l hm hs ((l.map List.length).sum + 1) (len_sum l) l.length k 0 (by omega) (by omega) (by omega) (by simp)
/-! ### the document's codes -/
abbrev RStp := S62
abbrev ROp := S66
abbrev smallC (c : List Stp) : Prop := c.length ≤ 40 ∧ ∀ s ∈ c, s.f3.length ≤ 20
def refCs (l : List (List Stp)) : List (List RStp) := l.map refC
theorem refCs_len (l : List (List Stp)) : (refCs l).length = l.length := by simp [refCs]
theorem getD_mem {α : Type} (l : List α) (z : α) (i : Nat) (h : i < l.length) : l.getD i z ∈ l := by
 rw [List.getD_eq_getElem?_getD, List.getElem?_eq_getElem h]; exact List.getElem_mem _
theorem refCs_at (l : List (List Stp)) (i : Nat) (hi : i < l.length) : rd_L12 (refCs l) (i : Int) = refC (l.getD i []) := by
 unfold rd_L12 refCs
 rw [List.getD_eq_getElem?_getD, List.getD_eq_getElem?_getD, List.getElem?_map]
 simp [List.getElem?_eq_getElem hi]
theorem Refs_l (l : List (List Stp)) (hm : l.length ≤ 12) (hs : ∀ c ∈ l, smallC c) (d : Nat) : ∀ (k i : Nat) (out : List (List RStp)), i ≤ l.length → l.length - i = d → d + 100 < k → out.length ≤ i →
 handshakerlaw09_Refs.l0 k out l (l.length : Int) (i : Int) = some (out ++ refCs (l.drop i)) := by
 induction d with
 | zero =>
  intro k i out hi hd hk ho
  obtain ⟨k, rfl⟩ : ∃ m, k = m + 1 := ⟨k - 1, by omega⟩
  rw [List.drop_of_length_le (by omega)]
  simp only [handshakerlaw09_Refs.l0]
  rw [if_neg (by omega)]
  simp [refCs]
 | succ d ih =>
  intro k i out hi hd hk ho
  obtain ⟨k, rfl⟩ : ∃ m, k = m + 1 := ⟨k - 1, by omega⟩
  have hl := hs _ (getD_mem l [] i (by omega))
  rw [drop_cons l [] i (by omega)]
  simp only [handshakerlaw09_Refs.l0]
  rw [if_pos (by omega), if_pos (by omega), if_pos (by omega), show rd_L5 l (i : Int) = l.getD i [] from rfl, RefC_f k _ hl.1 hl.2 (by omega)]
  simp only [Option.bind_some]
  rw [if_pos (by omega), wrN (by omega), ih k (i + 1) _ (by omega) (by omega) (by omega) (by simp; omega)]
  simp only [refCs, List.map_cons, List.append_assoc, List.singleton_append]
theorem Refs_f (k : Nat) (l : List (List Stp)) (hm : l.length ≤ 12) (hs : ∀ c ∈ l, smallC c) (hk : 120 < k) : handshakerlaw09_Refs.f k l = some (refCs l) := by
 unfold handshakerlaw09_Refs.f
 exact Refs_l l hm hs l.length k 0 [] (by omega) (by omega) (by omega) (by simp)
theorem same7_l (t : List ROp) (hm : t.length ≤ 1000) (d : Nat) : ∀ (k i : Nat), i ≤ t.length → t.length - i = d → d < k → handshakerref07_Same.l0 k t t (i : Int) = some true := by
 induction d with
 | zero =>
  intro k i hi hd hk
  obtain ⟨k, rfl⟩ : ∃ m, k = m + 1 := ⟨k - 1, by omega⟩
  simp only [handshakerref07_Same.l0]
  rw [if_neg (by omega)]
 | succ d ih =>
  intro k i hi hd hk
  obtain ⟨k, rfl⟩ : ∃ m, k = m + 1 := ⟨k - 1, by omega⟩
  simp only [handshakerref07_Same.l0]
  rw [if_pos (by omega), if_pos (by omega), if_pos (by omega), if_neg (by simp), wrN (by omega), ih k (i + 1) (by omega) (by omega) (by omega)]
theorem same7_f (k : Nat) (t : List ROp) (hm : t.length ≤ 1000) (hk : t.length < k) : handshakerref07_Same.f k t t = some true := by
 unfold handshakerref07_Same.f
 rw [if_pos rfl]
 exact same7_l t hm t.length k 0 (by omega) (by omega) (by omega)
theorem same8_l (c : List RStp) (hm : c.length ≤ 1000) (hs : ∀ s ∈ c, s.f3.length ≤ 1000) (d : Nat) : ∀ (k i : Nat), i ≤ c.length → c.length - i = d → d + 1000 < k → handshakerref08_Same.l0 k c c (i : Int) = some true := by
 induction d with
 | zero =>
  intro k i hi hd hk
  obtain ⟨k, rfl⟩ : ∃ m, k = m + 1 := ⟨k - 1, by omega⟩
  simp only [handshakerref08_Same.l0]
  rw [if_neg (by omega)]
 | succ d ih =>
  intro k i hi hd hk
  obtain ⟨k, rfl⟩ : ∃ m, k = m + 1 := ⟨k - 1, by omega⟩
  have hl : (rd_T62 c (i : Int)).f3.length ≤ 1000 := hs _ (getD_mem c z62 i (by omega))
  simp only [handshakerref08_Same.l0]
  rw [if_pos (by omega), if_pos (by omega), if_pos (by omega), same7_f k _ hl (by omega), wrN (by omega)]
  simp only [Option.bind_some, if_true]
  exact ih k (i + 1) (by omega) (by omega) (by omega)
theorem same8_f (k : Nat) (c : List RStp) (hm : c.length ≤ 1000) (hs : ∀ s ∈ c, s.f3.length ≤ 1000) (hk : c.length + 1000 < k) : handshakerref08_Same.f k c c = some true := by
 unfold handshakerref08_Same.f
 rw [if_pos rfl]
 exact same8_l c hm hs c.length k 0 (by omega) (by omega) (by omega)
theorem same9_l (l : List (List RStp)) (hm : l.length ≤ 1000) (hs : ∀ c ∈ l, c.length ≤ 1000 ∧ ∀ s ∈ c, s.f3.length ≤ 1000) (d : Nat) : ∀ (k i : Nat), i ≤ l.length → l.length - i = d → d + 2000 < k → handshakerref09_Same.l0 k l l (i : Int) = some true := by
 induction d with
 | zero =>
  intro k i hi hd hk
  obtain ⟨k, rfl⟩ : ∃ m, k = m + 1 := ⟨k - 1, by omega⟩
  simp only [handshakerref09_Same.l0]
  rw [if_neg (by omega)]
 | succ d ih =>
  intro k i hi hd hk
  obtain ⟨k, rfl⟩ : ∃ m, k = m + 1 := ⟨k - 1, by omega⟩
  have hl := hs _ (getD_mem l [] i (by omega))
  simp only [handshakerref09_Same.l0]
  rw [if_pos (by omega), if_pos (by omega), if_pos (by omega), show rd_L12 l (i : Int) = l.getD i [] from rfl, same8_f k _ hl.1 hl.2 (by omega), wrN (by omega)]
  simp only [Option.bind_some, if_true]
  exact ih k (i + 1) (by omega) (by omega) (by omega)
theorem same9_f (k : Nat) (l : List (List RStp)) (hm : l.length ≤ 1000) (hs : ∀ c ∈ l, c.length ≤ 1000 ∧ ∀ s ∈ c, s.f3.length ≤ 1000) (hk : 3000 < k) : handshakerref09_Same.f k l l = some true := by
 unfold handshakerref09_Same.f
 rw [if_pos rfl]
 exact same9_l l hm hs l.length k 0 (by omega) (by omega) (by omega)
theorem same_refs (k : Nat) (l : List (List Stp)) (hm : l.length ≤ 12) (hs : ∀ c ∈ l, smallC c) (hk : 3000 < k) : handshakerref09_Same.f k (refCs l) (refCs l) = some true := by
 refine same9_f k _ (by rw [refCs_len]; omega) (fun c hc => ?_) hk
 obtain ⟨c', hc', rfl⟩ := List.mem_map.1 hc
 obtain ⟨h1, h2⟩ := hs c' hc'
 refine ⟨by rw [refC_len]; omega, fun s hs => ?_⟩
 obtain ⟨s', hs', rfl⟩ := List.mem_map.1 hs
 have := h2 s' hs'
 show (refT s'.f3).length ≤ 1000
 rw [ref_len]; omega
theorem ok_small {c : List Stp} (h : checkC c = 0) : smallC c := by
 obtain ⟨h1, h2, _⟩ := checkC_ok h
 exact ⟨by omega, fun s hs => by have := mayC_len (h2 s hs); omega⟩
/-! ### how the document writes -/
theorem rfour_f (n : Int) (h : i32R n) : handshakerref09_four.f n = some (b4 n) := by
 have key : ∀ m : Int, 0 ≤ m → m < 4294967296 → wrap64 (Int.tdiv m 16777216) = m / 16777216 ∧ Int.tmod (wrap64 (Int.tdiv m 65536)) 256 = (m / 65536) % 256 ∧ Int.tmod (wrap64 (Int.tdiv m 256)) 256 = (m / 256) % 256 ∧ Int.tmod m 256 = m % 256 := by
  intro m h0 h1
  rw [Int.tdiv_eq_ediv_of_nonneg h0, Int.tdiv_eq_ediv_of_nonneg h0, Int.tdiv_eq_ediv_of_nonneg h0, wr (i := m / 16777216) (by omega) (by omega), wr (i := m / 65536) (by omega) (by omega), wr (i := m / 256) (by omega) (by omega)]
  exact ⟨rfl, Int.tmod_eq_emod_of_nonneg (by omega), Int.tmod_eq_emod_of_nonneg (by omega), Int.tmod_eq_emod_of_nonneg h0⟩
 unfold handshakerref09_four.f b4
 by_cases hn : n < 0
 · rw [if_pos hn, wr (i := n + 4294967296) (by omega) (by omega)]
   obtain ⟨a, b, c, d⟩ := key (n + 4294967296) (by omega) (by omega)
   rw [a, b, c, d, show (n + 4294967296) / 16777216 % 256 = n / 16777216 % 256 by omega, show (n + 4294967296) / 65536 % 256 % 256 = n / 65536 % 256 by omega, show (n + 4294967296) / 256 % 256 % 256 = n / 256 % 256 by omega, show (n + 4294967296) % 256 % 256 = n % 256 by omega]
 · rw [if_neg hn]
   obtain ⟨a, b, c, d⟩ := key n (by omega) (by omega)
   rw [a, b, c, d, show n / 65536 % 256 % 256 = n / 65536 % 256 by omega, show n / 256 % 256 % 256 = n / 256 % 256 by omega, show n % 256 % 256 = n % 256 by omega]
theorem rCode_l1 (c : List Stp) (s : Stp) (hs : s.f3.length ≤ 255) (ho : ∀ o ∈ s.f3, i32R o.f1) (i : Int) (K : Nat) (acc : List Int) (ha : acc.length ≤ 100000) (r : Option (List Int)) (he : ∀ k, K < k → handshakerref09_Code.l0 k (refC c) (acc ++ s.f3.flatMap opB) (wrap64 (i + 1)) = r) (d : Nat) : ∀ (k j : Nat), j ≤ s.f3.length → s.f3.length - j = d → d + K + 1 < k →
 handshakerref09_Code.l1 k (refC c) (acc ++ (s.f3.take j).flatMap opB) i (j : Int) s.f0 s.f1 s.f2 (refT s.f3) = r := by
 induction d with
 | zero =>
  intro k j hj hd hk
  obtain ⟨k, rfl⟩ : ∃ m, k = m + 1 := ⟨k - 1, by omega⟩
  rw [List.take_of_length_le (by omega)]
  simp only [handshakerref09_Code.l1]
  rw [if_neg (by rw [ref_len]; omega)]
  exact he k (by omega)
 | succ d ih =>
  intro k j hj hd hk
  obtain ⟨k, rfl⟩ : ∃ m, k = m + 1 := ⟨k - 1, by omega⟩
  have next := ih k (j + 1) (by omega) (by omega) (by omega)
  rw [flat_sn s.f3 z50 opB j (by omega)] at next
  have hl : (acc ++ (s.f3.take j).flatMap opB).length ≤ 200000 := by
   rw [List.length_append, flat_op, List.length_take]; omega
  have h1 := ho _ (getD_mem s.f3 z50 j (by omega))
  simp only [handshakerref09_Code.l1]
  rw [if_pos (by rw [ref_len]; omega), if_pos (by omega), if_pos (by omega), ref_at s.f3 j (by omega), Option.bind_some]
  generalize s.f3.getD j z50 = o at *
  rw [rfour_f _ h1, Option.bind_some, if_pos (by rw [List.length_append, b4_len, List.length_singleton]; omega), wrN (by omega)]
  rw [← List.append_assoc] at next
  rw [List.append_assoc _ [_] (b4 o.f1)]
  exact next
theorem rCode_l0 (c : List Stp) (hm : c.length ≤ 255) (hs : ∀ s ∈ c, s.f3.length ≤ 12 ∧ ∀ o ∈ s.f3, i32R o.f1) (d : Nat) : ∀ (k i : Nat) (acc : List Int), i ≤ c.length → c.length - i = d → 20 * d + 20 < k → acc.length ≤ 10 + 64 * i →
 handshakerref09_Code.l0 k (refC c) acc (i : Int) = some (acc ++ (c.drop i).flatMap stepB) := by
 induction d with
 | zero =>
  intro k i acc hi hd hk ha
  obtain ⟨k, rfl⟩ : ∃ m, k = m + 1 := ⟨k - 1, by omega⟩
  rw [List.drop_of_length_le (by omega)]
  simp only [handshakerref09_Code.l0]
  rw [if_neg (by rw [refC_len]; omega)]
  simp
 | succ d ih =>
  intro k i acc hi hd hk ha
  obtain ⟨k, rfl⟩ : ∃ m, k = m + 1 := ⟨k - 1, by omega⟩
  obtain ⟨h1, h2⟩ := hs _ (getD_mem c z53 i (by omega))
  rw [drop_cons c z53 i (by omega)]
  simp only [handshakerref09_Code.l0]
  rw [if_pos (by rw [refC_len]; omega), if_pos (by omega), refC_at c i (by omega), Option.bind_some]
  generalize c.getD i z53 = s at *
  have e3 : ((cvC s).f3.length : Int) = (s.f3.length : Int) := by show ((refT s.f3).length : Int) = _; rw [ref_len]
  rw [e3, if_pos (by simp; omega)]
  have h := rCode_l1 c s (by omega) h2 (i : Int) (20 * d + 20) (acc ++ [s.f0 % 256, s.f1 % 256, s.f2 % 256, (s.f3.length : Int) % 256]) (by simp; omega) (some (acc ++ (s :: c.drop (i + 1)).flatMap stepB)) (fun k hk => ?_) s.f3.length k 0 (by omega) (by omega) (by omega)
  · rw [show (s.f3.take 0).flatMap opB = [] by simp, List.append_nil] at h
    exact h
  · rw [wrN (by omega), ih k (i + 1) _ (by omega) (by omega) (by omega) (by rw [List.length_append, List.length_append, flat_op]; simp; omega)]
    rw [List.flatMap_cons, List.append_assoc, List.append_assoc]
    unfold stepB
    rw [List.append_assoc]
theorem rCode_f (k : Nat) (c : List Stp) (h : checkC c = 0) (hk : 600 < k) : handshakerref09_Code.f k (refC c) = some (codeB c) := by
 obtain ⟨h1, h2, _⟩ := checkC_ok h
 obtain ⟨f1, f2⟩ := check_fine h
 unfold handshakerref09_Code.f
 rw [refC_len, show (0 : Int) = ((0 : Nat) : Int) from rfl, rCode_l0 c (by omega) (fun s hs => ⟨mayC_len (h2 s hs), fun o ho => ((f2 s hs).2.2.2.2 o ho).2⟩) c.length k 0 _ (by omega) (by omega) (by omega) (by simp)]
 rfl
theorem rWrite_l (l : List (List Stp)) (hm : l.length ≤ 8) (d : Nat) : ∀ (k i : Nat) (acc : List Int), i ≤ l.length → l.length - i = d → d + 2000 < k → acc.length ≤ 10 + 2000 * i →
 handshakerref09_Write.l0 k (refCs l) acc (i : Int) = some (if okL (l.drop i) = true then (acc ++ (l.drop i).flatMap codeB, true) else ([], false)) := by
 induction d with
 | zero =>
  intro k i acc hi hd hk ha
  obtain ⟨k, rfl⟩ : ∃ m, k = m + 1 := ⟨k - 1, by omega⟩
  rw [List.drop_of_length_le (by omega)]
  simp only [handshakerref09_Write.l0]
  rw [if_neg (by rw [refCs_len]; omega)]
  simp [okL]
 | succ d ih =>
  intro k i acc hi hd hk ha
  obtain ⟨k, rfl⟩ : ∃ m, k = m + 1 := ⟨k - 1, by omega⟩
  rw [drop_cons l [] i (by omega)]
  simp only [handshakerref09_Write.l0]
  rw [if_pos (by rw [refCs_len]; omega), if_pos (by omega), refCs_at l i (by omega), rCheckC_f k _ (by omega), Option.bind_some]
  generalize l.getD i [] = c at *
  by_cases hc : checkC c = 0
  · have hl := codeB_len hc
    rw [if_pos hc, rCode_f k c hc (by omega), Option.bind_some, if_pos (by omega), wrN (by omega), ih k (i + 1) _ (by omega) (by omega) (by omega) (by rw [List.length_append]; omega)]
    have : okL (c :: l.drop (i + 1)) = okL (l.drop (i + 1)) := by unfold okL; rw [List.all_cons, beq_iff_eq.2 hc, Bool.true_and]
    rw [this, List.flatMap_cons, List.append_assoc]
  · rw [if_neg hc, if_neg]
    intro g
    exact hc ((okL_iff _).1 g c (by simp))
theorem rWrite_f (k : Nat) (l : List (List Stp)) (hk : 3000 < k) : handshakerref09_Write.f k (refCs l) = some ((writeB l).1, decide ((writeB l).2 = 0)) := by
 unfold handshakerref09_Write.f writeB
 rw [refCs_len]
 by_cases h : (l.length : Int) > 8
 · rw [if_pos h, if_neg (fun g => by omega)]; rfl
 · rw [if_neg h, show (0 : Int) = ((0 : Nat) : Int) from rfl, rWrite_l l (by omega) l.length k 0 _ (by omega) (by omega) (by omega) (by simp)]
   rw [List.drop_zero]
   by_cases g : okL l = true
   · rw [if_pos g, if_pos ⟨by omega, g⟩]; rfl
   · rw [if_neg g, if_neg (fun e => g e.2)]; rfl
end Go.Proofs.Ytpeblomhhofhkaa.H
