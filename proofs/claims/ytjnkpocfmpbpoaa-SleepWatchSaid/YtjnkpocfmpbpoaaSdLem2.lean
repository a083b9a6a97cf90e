/-
 PROVED: Plain lemmas on numbers and lists, of what the printed functions answer. No condition beside those of each lemma.
-/
import Derived.Test.YtjnkpocfmpbpoaaSdLem
import Derived.Test.YtjnkpocfmpbpoaaSdx2
import Derived.Test.YtjnkpocfmpbpoaaSdx3
namespace Go.Proofs.Ytjnkpocfmpbpoaa.Sd
open Go.RowKit Go.Proofs.YtjnkpocfmpbpoaaW.PrintWords Go.Proofs.YtjnkpocfmpbpoaaW.PrintLast Go.Proofs.YtjnkpocfmpbpoaaW.PrintMore Go.Proofs.Ytjnkpocfmpbpoaa.Ho
set_option linter.unusedVariables false
set_option linter.unusedSimpArgs false
/-! ### terms -/
def takes (a : Int) : Nat := if 4 ≤ a ∧ a ≤ 10 then 2 else if a = 11 then 1 else 0
def mayB (a b : Int) : Bool := if a = 1 then inR b else if a = 2 then decide (0 ≤ b ∧ b < 64) else if a = 3 then decide (0 ≤ b ∧ b < 8) else decide (0 < takes a) && b == 0
/-- How many numbers there are behind all, or none if there are too few. -/
def walkN : List S80 → Nat → Option Nat
 | [], n => some n
 | o :: os, n => if n < takes o.f0 then none else walkN os (n + 1 - takes o.f0)
def mostN : List S80 → Nat → Nat → Nat
 | [], _, m => m
 | o :: os, n, m => if n < takes o.f0 then 0 else mostN os (n + 1 - takes o.f0) (if m < n + 1 - takes o.f0 then n + 1 - takes o.f0 else m)
def walkI (t : List S80) (n : Nat) : Int := match walkN t n with | some m => (m : Int) | none => -1
def mayAll (t : List S80) : Bool := t.all fun o => mayB o.f0 o.f1
/-- Does it stand well? -/
def checkB (t : List S80) : Int := if 1 ≤ t.length ∧ t.length ≤ 12 ∧ mayAll t = true then (if walkN t 0 = some 1 then 0 else 2) else 1
/-! the cells that a term names -/
def cellsL (t : List S80) : List Int := (t.filter fun o => o.f0 == 2).map fun o => o.f1
def cellsB (t : List S80) : List Int := if checkB t = 0 then Go.Lib.compact ((cellsL t).mergeSort fun x y => decide (x ≤ y)) else []
end Go.Proofs.Ytjnkpocfmpbpoaa.Sd
