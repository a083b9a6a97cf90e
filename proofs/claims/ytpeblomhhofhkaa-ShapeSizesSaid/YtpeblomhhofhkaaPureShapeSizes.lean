/-
 PROVED: of two codes, one behind the other, the size is both sizes together, less one, for every two lists of steps. Condition: each argument is of its kind; nothing else.
-/
import Derived.Test.YtpeblomhhofhkaaHSha
import Derived.Test.YtpeblomhhofhkaaHx9
namespace Go.Proofs.Ytpeblomhhofhkaa.H
open Go.RowKit Go.Proofs.YtpeblomhhofhkaaW.PrintWords Go.Proofs.YtpeblomhhofhkaaW.PrintLast Go.Proofs.YtpeblomhhofhkaaW.PrintMore Go.Proofs.Ytpeblomhhofhkaa.Ho
set_option linter.unusedVariables false
set_option linter.unusedSimpArgs false
theorem wr_sub (A B C : Nat) (ha : A ≤ 2000) (hb : B ≤ 2000) (hc : C + 1 = A + B) : (C : Int) = wrap64 (wrap64 ((A : Int) + (B : Int)) - 1) := by
 rw [wr (i := (A : Int) + (B : Int)) (by omega) (by omega), wr (by omega) (by omega)]
 omega
theorem wr_four (A n : Nat) (ha : A ≤ 2000) (h : 1 + 4 * n ≤ A) : (A : Int) ≥ wrap64 (1 + wrap64 (4 * (n : Int))) := by
 rw [wr (i := 4 * (n : Int)) (by omega) (by omega), wr (by omega) (by omega)]
 omega
theorem ShapeSizes : handshakerlaw09_ShapeSizes.Pure := by
 intro a b ha1 ha2
 intros
 refine ⟨a.length + b.length + 3000, ?_⟩
 generalize hK : a.length + b.length + 3000 = K
 unfold handshakerlaw09_ShapeSizes.f
 obtain ⟨K, rfl⟩ : ∃ m, K = m + 1 := ⟨K - 1, by omega⟩
 have aw : handshakerlaw09_ShapeSizes.j0 (K + 1) a b true = some true := by
  simp only [handshakerlaw09_ShapeSizes.j0]
  rw [if_pos trivial, awake9 K (by omega)]; rfl
 rcases Small_f (K + 1) a (by omega) (by omega) with e | ⟨h1, h2, e⟩
 · rw [e, Option.bind_some, if_pos (by decide)]; exact aw
 rw [e, Option.bind_some, if_neg (by omega)]
 rcases Small_f (K + 1) b (by omega) (by omega) with e2 | ⟨g1, g2, e2⟩
 · rw [e2, Option.bind_some, show decide ((-1 : Int) < 0) = true by decide]; exact aw
 rw [e2, Option.bind_some, decide_eq_false (by omega)]
 simp only [handshakerlaw09_ShapeSizes.j0]
 rw [if_neg (by decide), Option.bind_some, if_pos (show ([] : List Stp).length + a.length < 2932031007402 by rw [List.length_nil]; omega), Option.bind_some, if_pos (show (([] : List Stp) ++ a).length + b.length < 2932031007402 by rw [List.nil_append]; omega), Option.bind_some, List.nil_append, CheckC_f K a (by omega), Option.bind_some]
 by_cases ca : checkC a = 0
 · rw [if_pos ca, CheckC_f K b (by omega), Option.bind_some]
   obtain ⟨K, rfl⟩ : ∃ m, K = m + 1 := ⟨K - 1, by omega⟩
   have aw1 : handshakerlaw09_ShapeSizes.j1 (K + 1) a b (a ++ b) true = some true := by
    simp only [handshakerlaw09_ShapeSizes.j1]
    rw [if_pos trivial, awake9 K (by omega)]; rfl
   by_cases cb : checkC b = 0
   · rw [if_pos cb, CheckC_f (K + 1) (a ++ b) (by omega), Option.bind_some]
     by_cases cc : checkC (a ++ b) = 0
     · rw [show (checkC (a ++ b) != 0) = false by rw [cc]; rfl]
       simp only [handshakerlaw09_ShapeSizes.j1]
       rw [if_neg (by decide), Size_f K (a ++ b) (by omega), Size_f K a (by omega), Size_f K b (by omega)]
       simp only [Option.bind_some]
       have la := codeB_len ca
       have lb := codeB_len cb
       have lc : (codeB (a ++ b)).length + 1 = (codeB a).length + (codeB b).length := by
        unfold codeB
        rw [List.flatMap_append]
        simp only [List.length_cons, List.length_append]
        omega
       have l4 : 1 + 4 * a.length ≤ (codeB a).length := by
        have : ∀ l : List Stp, 4 * l.length ≤ (l.flatMap stepB).length := fun l => by
         induction l with
         | nil => simp
         | cons x l ih => rw [List.flatMap_cons, List.length_append, stepB_len, List.length_cons]; omega
        have := this a
        unfold codeB
        rw [List.length_cons]; omega
       have sa : sizeB a = ((codeB a).length : Int) := if_pos ca
       have sb : sizeB b = ((codeB b).length : Int) := if_pos cb
       have sc : sizeB (a ++ b) = ((codeB (a ++ b)).length : Int) := if_pos cc
       have e1 := wr_sub _ _ _ la lb lc
       have e2 := wr_four _ _ la l4
       rw [sa, sb, sc, if_pos e1, if_pos e2, awake9 K (by omega)]
       rfl
     · rw [show (checkC (a ++ b) != 0) = true by rw [bne_iff_ne]; exact cc]; exact aw1
   · rw [if_neg cb]; exact aw1
 · rw [if_neg ca, Size_f K a (by omega), Option.bind_some, if_pos (show sizeB a = 0 from if_neg ca), awake9 K (by omega)]; rfl
end Go.Proofs.Ytpeblomhhofhkaa.H
namespace Go.Proofs.Ytpeblomhhofhkaa.Pure
theorem ShapeSizes : Go.Proofs.Ytpeblomhhofhkaa.H.handshakerlaw09_ShapeSizes.Pure := Go.Proofs.Ytpeblomhhofhkaa.H.ShapeSizes
end Go.Proofs.Ytpeblomhhofhkaa.Pure
