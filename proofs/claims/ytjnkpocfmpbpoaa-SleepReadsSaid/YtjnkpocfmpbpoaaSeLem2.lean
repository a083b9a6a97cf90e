/-
 PROVED: Plain lemmas on numbers and lists, of what the printed functions answer. No condition beside those of each lemma.
-/
import Derived.Test.YtjnkpocfmpbpoaaSeLem
import Derived.Test.YtjnkpocfmpbpoaaSex2
import Derived.Test.YtjnkpocfmpbpoaaSex3
namespace Go.Proofs.Ytjnkpocfmpbpoaa.Se
open Go.RowKit Go.Proofs.YtjnkpocfmpbpoaaW.PrintWords Go.Proofs.YtjnkpocfmpbpoaaW.PrintLast Go.Proofs.YtjnkpocfmpbpoaaW.PrintMore Go.Proofs.Ytjnkpocfmpbpoaa.Ho
set_option linter.unusedVariables false
set_option linter.unusedSimpArgs false
/-! ### terms -/
def takes (a : Int) : Nat := if 4 ≤ a ∧ a ≤ 10 then 2 else if a = 11 then 1 else 0
theorem takes_le (a : Int) : takes a ≤ 2 := by unfold takes; split <;> (try split) <;> omega
def mayB (a b : Int) : Bool := if a = 1 then inR b else if a = 2 then decide (0 ≤ b ∧ b < 64) else if a = 3 then decide (0 ≤ b ∧ b < 8) else decide (0 < takes a) && b == 0
theorem takes_f (k : Nat) (a b : Int) (hk : 0 < k) : term_Op_takes.f k a b = some (takes a : Int) := by
 obtain ⟨k, rfl⟩ : ∃ q, k = q + 1 := ⟨k - 1, by omega⟩
 unfold term_Op_takes.f takes
 simp only [term_Op_takes.j0, decide_eq_true_eq]
 repeat' split
 all_goals first | rfl | (exfalso; omega) | (simp at *; done) | (simp at *; omega)
theorem may_f (k : Nat) (a b : Int) (hk : 0 < k) : term_Op_may.f k a b = some (mayB a b) := by
 unfold term_Op_may.f mayB
 rw [takes_f _ _ _ hk, right_f]
 simp only [Option.bind_some]
 split
 · rfl
 · split
   · by_cases h : b ≥ 0 <;> simp [h]
   · split
     · by_cases h : b ≥ 0 <;> simp [h]
     · by_cases h : takes a = 0
       · simp [h]
       · rw [if_pos (by omega), decide_eq_true (by omega)]; simp
/-- How many numbers there are behind all, or none if there are too few. -/
def walkN : List S80 → Nat → Option Nat
 | [], n => some n
 | o :: os, n => if n < takes o.f0 then none else walkN os (n + 1 - takes o.f0)
def mostN : List S80 → Nat → Nat → Nat
 | [], _, m => m
 | o :: os, n, m => if n < takes o.f0 then 0 else mostN os (n + 1 - takes o.f0) (if m < n + 1 - takes o.f0 then n + 1 - takes o.f0 else m)
def walkI (t : List S80) (n : Nat) : Int := match walkN t n with | some m => (m : Int) | none => -1
theorem walk_l (t : List S80) (hm : t.length < 4398046511104) (d : Nat) : ∀ (k i n m : Nat), i ≤ t.length → t.length - i = d → d + 1 < k → n ≤ i → m ≤ i →
 term_walk.l0 k (n : Int) (m : Int) t (t.length : Int) (i : Int) = some (walkI (t.drop i) n, (mostN (t.drop i) n m : Int)) := by
 induction d with
 | zero =>
  intro k i n m hi hd hk hn hm'
  obtain ⟨k, rfl⟩ : ∃ q, k = q + 1 := ⟨k - 1, by omega⟩
  rw [List.drop_of_length_le (by omega)]
  simp only [term_walk.l0, walkI, walkN, mostN]
  rw [if_neg (by omega)]
 | succ d ih =>
  intro k i n m hi hd hk hn hm'
  obtain ⟨k, rfl⟩ : ∃ q, k = q + 1 := ⟨k - 1, by omega⟩
  rw [drop_cons t z80 i (by omega)]
  simp only [term_walk.l0]
  rw [if_pos (by omega), if_pos (by omega), if_pos (by omega), takes_f _ _ _ (by omega)]
  simp only [Option.bind_some]
  rw [show rd_T80 t (i : Int) = t.getD i z80 from rfl]
  have hlt := takes_le (t.getD i z80).f0
  unfold walkI
  simp only [walkN, mostN]
  by_cases h : n < takes (t.getD i z80).f0
  · rw [if_pos (by omega), if_pos h, if_pos h]; rfl
  · rw [if_neg (by omega), if_neg h, if_neg h, wrN (by omega)]
    have e1 : wrap64 ((n : Int) + wrap64 (1 - (takes (t.getD i z80).f0 : Int))) = ((n + 1 - takes (t.getD i z80).f0 : Nat) : Int) := by
     rw [wr (i := 1 - (takes (t.getD i z80).f0 : Int)) (by omega) (by omega), wr (by omega) (by omega)]; omega
    rw [e1]
    have e2 : mx (m : Int) ((n + 1 - takes (t.getD i z80).f0 : Nat) : Int) = ((if m < n + 1 - takes (t.getD i z80).f0 then n + 1 - takes (t.getD i z80).f0 else m : Nat) : Int) := by
     unfold mx
     by_cases h3 : m < n + 1 - takes (t.getD i z80).f0
     · rw [if_pos h3, if_pos (by omega)]
     · rw [if_neg h3, if_neg (by omega)]
    rw [e2, ih k (i + 1) _ _ (by omega) (by omega) (by omega) (by omega) (by split <;> omega)]
    rfl
theorem walk_f (k : Nat) (t : List S80) (hm : t.length < 4398046511104) (hk : t.length + 1 < k) : term_walk.f k t = some (walkI t 0, (mostN t 0 0 : Int)) := by
 unfold term_walk.f
 have := walk_l t hm t.length k 0 0 0 (by omega) (by omega) (by omega) (by omega) (by omega)
 simpa using this
def mayAll (t : List S80) : Bool := t.all fun o => mayB o.f0 o.f1
/-- Does it stand well? -/
def checkB (t : List S80) : Int := if 1 ≤ t.length ∧ t.length ≤ 12 ∧ mayAll t = true then (if walkN t 0 = some 1 then 0 else 2) else 1
theorem any_may (k : Nat) (t : List S80) (hk : 0 < k) : any_at_term_Check_1.f k t = some (!(mayAll t)) := by
 unfold any_at_term_Check_1.f mayAll
 rw [anyF_T (p := fun o => !(mayB o.f0 o.f1)) t (fun o _ => by unfold term_Check_1.f; rw [may_f _ _ _ hk]; rfl)]
 congr 1
 induction t with
 | nil => rfl
 | cons x xs ih => simp only [List.any_cons, List.all_cons, ih]; cases mayB x.f0 x.f1 <;> simp
theorem walkI_one (t : List S80) : walkI t 0 = 1 ↔ walkN t 0 = some 1 := by
 unfold walkI
 cases walkN t 0 with
 | none => simp
 | some m => simp; omega
theorem Check_f (k : Nat) (t : List S80) (hk : 20 ≤ k) : term_Check.f k t = some (checkB t) := by
 obtain ⟨k, rfl⟩ : ∃ q, k = q + 1 := ⟨k - 1, by omega⟩
 unfold term_Check.f checkB
 simp only [term_Check.j0]
 by_cases h1 : t.length < 1
 · rw [if_pos (by omega), if_pos trivial, if_neg (by omega)]
 · rw [if_neg (by omega)]
   by_cases h2 : t.length > 12
   · rw [if_pos (by omega), if_pos trivial, if_neg (by omega)]
   · rw [if_neg (by omega), any_may _ _ (by omega)]
     simp only [Option.bind_some]
     by_cases h3 : mayAll t = true
     · rw [h3, if_neg (by simp), if_pos ⟨by omega, by omega, rfl⟩, walk_f k t (by omega) (by omega)]
       simp only [Option.bind_some]
       by_cases h4 : walkN t 0 = some 1
       · rw [if_pos ((walkI_one t).2 h4), if_pos h4]
       · rw [if_neg (fun e => h4 ((walkI_one t).1 e)), if_neg h4]
     · rw [if_pos (by simpa using h3), if_neg (fun e => h3 e.2.2)]
theorem checkB_ok {t : List S80} (h : checkB t = 0) : 1 ≤ t.length ∧ t.length ≤ 12 ∧ (∀ o ∈ t, mayB o.f0 o.f1 = true) ∧ walkN t 0 = some 1 := by
 unfold checkB at h
 split at h
 · rename_i h1
   split at h
   · exact ⟨h1.1, h1.2.1, by simpa [mayAll] using h1.2.2, by assumption⟩
   · simp at h
 · simp at h
/-! the cells that a term names -/
def cellsL (t : List S80) : List Int := (t.filter fun o => o.f0 == 2).map fun o => o.f1
def cellsB (t : List S80) : List Int := if checkB t = 0 then Go.Lib.compact ((cellsL t).mergeSort fun x y => decide (x ≤ y)) else []
theorem Cells_l (t : List S80) (hm : t.length ≤ 12) (d : Nat) : ∀ (k i : Nat) (out : List Int), i ≤ t.length → t.length - i = d → d < k → out.length ≤ i →
 term_Cells.l0 k out t (t.length : Int) (i : Int) = some (Go.Lib.compact ((out ++ cellsL (t.drop i)).mergeSort fun x y => decide (x ≤ y))) := by
 induction d with
 | zero =>
  intro k i out hi hd hk ho
  obtain ⟨k, rfl⟩ : ∃ m, k = m + 1 := ⟨k - 1, by omega⟩
  rw [List.drop_of_length_le (by omega)]
  simp only [term_Cells.l0, slices_Sort.f, slices_Compact.f]
  rw [if_neg (by omega), if_pos (by omega)]
  simp only [Option.bind_some]
  rw [if_pos (by simp; omega)]
  simp [cellsL]
 | succ d ih =>
  intro k i out hi hd hk ho
  obtain ⟨k, rfl⟩ : ∃ m, k = m + 1 := ⟨k - 1, by omega⟩
  rw [drop_cons t z80 i (by omega)]
  simp only [term_Cells.l0]
  rw [if_pos (by omega), if_pos (by omega), if_pos (by omega), wrN (by omega)]
  rw [show rd_T80 t (i : Int) = t.getD i z80 from rfl]
  by_cases h2 : (t.getD i z80).f0 = 2
  · rw [if_pos h2, if_pos (by omega), ih k (i + 1) _ (by omega) (by omega) (by omega) (by simp; omega)]
    have : cellsL (t.getD i z80 :: t.drop (i + 1)) = (t.getD i z80).f1 :: cellsL (t.drop (i + 1)) := by
     unfold cellsL
     generalize t.getD i z80 = o at h2 ⊢
     simp [List.filter_cons, h2]
    rw [this]; simp
  · rw [if_neg h2, ih k (i + 1) _ (by omega) (by omega) (by omega) (by omega)]
    have : cellsL (t.getD i z80 :: t.drop (i + 1)) = cellsL (t.drop (i + 1)) := by
     unfold cellsL
     generalize t.getD i z80 = o at h2 ⊢
     simp [List.filter_cons, h2]
    rw [this]
theorem Cells_f (k : Nat) (t : List S80) (hk : 20 ≤ k) : term_Cells.f k t = some (cellsB t) := by
 unfold term_Cells.f cellsB
 rw [Check_f k t hk]
 simp only [Option.bind_some]
 by_cases h : checkB t = 0
 · rw [if_pos h, if_pos h]
   have := checkB_ok h
   exact Cells_l t (by omega) t.length k 0 [] (by omega) (by omega) (by omega) (by simp)
 · rw [if_neg h, if_neg h]
end Go.Proofs.Ytjnkpocfmpbpoaa.Se
