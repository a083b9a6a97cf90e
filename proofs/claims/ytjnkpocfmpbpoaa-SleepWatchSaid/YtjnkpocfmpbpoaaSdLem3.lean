/-
 PROVED: Plain lemmas on numbers and lists, of what the printed functions answer. No condition beside those of each lemma.
-/
import Derived.Test.YtjnkpocfmpbpoaaSdLem
import Derived.Test.YtjnkpocfmpbpoaaSdLem2
import Derived.Test.YtjnkpocfmpbpoaaSdx2
import Derived.Test.YtjnkpocfmpbpoaaSdx3
import Derived.Test.YtjnkpocfmpbpoaaSdx4
import Derived.Test.YtjnkpocfmpbpoaaSdx5
import Derived.Test.YtjnkpocfmpbpoaaSdx6
import Derived.Test.YtjnkpocfmpbpoaaSdx9
namespace Go.Proofs.Ytjnkpocfmpbpoaa.Sd
open Go.RowKit Go.Proofs.YtjnkpocfmpbpoaaW.PrintWords Go.Proofs.YtjnkpocfmpbpoaaW.PrintLast Go.Proofs.YtjnkpocfmpbpoaaW.PrintMore Go.Proofs.Ytjnkpocfmpbpoaa.Ho
set_option linter.unusedVariables false
set_option linter.unusedSimpArgs false
/-- The first place whose version is not below v: below it all are below. -/
def Cut (p : List S26) (v : Int) (i : Nat) : Prop := i ≤ p.length ∧ (∀ j, j < i → (p.getD j z26).f0 < v) ∧ (∀ j, i ≤ j → j < p.length → v ≤ (p.getD j z26).f0)
/-! ### who sleeps -/
abbrev Sp := S26
abbrev Wr := S62
theorem getD_in {α : Type} (l : List α) (z : α) (i : Nat) (h : i < l.length) : l.getD i z ∈ l := by
 rw [List.getD_eq_getElem?_getD, List.getElem?_eq_getElem h]; exact List.getElem_mem _
theorem take_snG {α : Type} (l : List α) (z : α) (i : Nat) (hi : i < l.length) : l.take (i + 1) = l.take i ++ [l.getD i z] := by
 rw [List.take_add_one, List.getD_eq_getElem?_getD, List.getElem?_eq_getElem hi]; rfl
theorem mem_takeG {α : Type} (l : List α) (z : α) (i : Nat) (x : α) (hi : i ≤ l.length) (h : x ∈ l.take i) : ∃ m, m < i ∧ l.getD m z = x := by
 obtain ⟨m, hm, rfl⟩ := List.mem_iff_getElem.1 h
 rw [List.length_take] at hm
 refine ⟨m, by omega, ?_⟩
 rw [List.getD_eq_getElem?_getD, List.getElem?_eq_getElem (by omega), List.getElem_take]; rfl
def tickB (a : Int) : Bool := decide (0 ≤ a ∧ a ≤ 2147483647)
theorem tick_f (a : Int) : tick_Right.f a = some (tickB a) := by
 unfold tick_Right.f tickB
 by_cases h : a ≥ 0
 · rw [if_pos h]; congr 1; rw [decide_eq_decide]; omega
 · rw [if_neg h]; congr 1; symm; rw [decide_eq_false_iff_not]; omega
def okW (w : List Wr) (i : Nat) : Prop := (0 ≤ (w.getD i z62).f0 ∧ (w.getD i z62).f0 < 64) ∧ inR (w.getD i z62).f1 = true ∧ (0 < i → (w.getD (i - 1) z62).f0 < (w.getD i z62).f0)
instance (w : List Wr) (i : Nat) : Decidable (okW w i) := by unfold okW; infer_instance
def watchB (w : List Wr) : Bool := decide (w.length ≤ 24 ∧ ∀ i, i < w.length → okW w i)
def maySp (s : Sp) : Bool := decide (1 ≤ s.f0 ∧ s.f0 ≤ 8) && (tickB s.f2 && (watchB s.f3 && (if s.f1 = 3 then (if checkB s.f4 = 0 then (if (s.f4.any fun o => o.f0 == 3) = true then false else decide ((s.f3.map fun x => x.f0) = cellsB s.f4)) else false) else if s.f1 = 1 then s.f4.length == 0 else if s.f1 = 2 then s.f4.length == 0 else false)))
abbrev Lt (a b : Sp) : Prop := a.f0 < b.f0
abbrev RS (l : List Sp) : Prop := (∀ x ∈ l, maySp x = true) ∧ l.Pairwise Lt
def rightS (l : List Sp) : Bool := decide (RS l)
theorem awake15 (k : Nat) (hk : 2100 ≤ k) : handshakerlaw15_awake.f k = some true :=
 at_rounds (g := handshakerlaw15_awake.f) handshakerlaw15_awake.mono (Nat.le_trans (by decide : 80 ≤ 2100) hk) (by decide +kernel)
abbrev FewS (l : List Sp) : Prop := l.length ≤ 30 ∧ ∀ x ∈ l, x.f3.length ≤ 40 ∧ x.f4.length ≤ 20
end Go.Proofs.Ytjnkpocfmpbpoaa.Sd
