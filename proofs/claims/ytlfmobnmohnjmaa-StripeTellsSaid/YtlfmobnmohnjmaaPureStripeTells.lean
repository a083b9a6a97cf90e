/-
 PROVED: whether any records are a table, which ones any cells have, what anybody holds, and it locked, let and stamped, are what the document says, for every table, two numbers and list of cells. Condition: each argument is of its kind; nothing else.
-/
import Derived.Test.YtlfmobnmohnjmaaTLem
import Derived.Test.YtlfmobnmohnjmaaTLem3
import Derived.Test.YtlfmobnmohnjmaaTRef
import Derived.Test.YtlfmobnmohnjmaaTx4
import Derived.Test.YtlfmobnmohnjmaaTx8
namespace Go.Proofs.Ytlfmobnmohnjmaa.T
open Go.RowKit Go.Proofs.YtlfmobnmohnjmaaW.PrintWords Go.Proofs.YtlfmobnmohnjmaaW.PrintLast Go.Proofs.YtlfmobnmohnjmaaW.PrintMore Go.Proofs.Ytlfmobnmohnjmaa.Ho
set_option linter.unusedVariables false
set_option linter.unusedSimpArgs false
theorem Tells_j1 (t : List S67) (who v : Int) (cells : List Int) (ht : t.length ≤ 30) (hm : cells.length ≤ 60) (k : Nat) (hk : 700 < k) :
 handshakerlaw03_StripeTells.j1 (k + 1) t who cells (lockT t who cells).1 (lockT t who cells).2 (lockT t who cells).1 (lockT t who cells).2 (stampT t who v).1 (stampT t who v).2 (stampT t who v).1 (stampT t who v).2 false = some true := by
 have aw : (handshakerlaw03_awake.f k).bind (fun t => some t) = some true := by rw [awake3 k (by omega)]; rfl
 have l1 := lockT_len t who cells
 have l2 : (stampT t who v).1.length = t.length := by
  unfold stampT
  split
  · split
    · simp only [upd_len]
    · rfl
  · rfl
 have l3 : (ofT t cells).length ≤ 60 := by
  unfold ofT
  split
  · have := ofL_len t.length cells; omega
  · simp
 have l4 := heldT_len t who
 have l5 := letT_len t who
 simp only [handshakerlaw03_StripeTells.j1]
 rw [if_neg (by decide), RightT_f, rRightT_f k t (by omega) (by omega), Of_f k t cells (by omega) (by omega), rOf_f k t cells ht (by omega) (by omega), Held_f k t who (by omega) (by omega), rHeld_f k t who ht (by omega), Let_f k t who (by omega) (by omega), rLet_f k t who ht (by omega), SameT_f k (lockT t who cells).1 (by omega) (by omega), SameT_f k (stampT t who v).1 (by omega) (by omega)]
 simp only [Option.bind_some]
 rw [Numbers_f k (ofT t cells) (by omega) (by omega), Numbers_f k (heldT t who) (by omega) (by omega), SameT_f k (letT t who) (by omega) (by omega)]
 simp only [Option.bind_some, if_true]
 cases rightT t with
 | true => simp only [if_true]; exact aw
 | false => simp only [Bool.false_eq_true, if_false]; exact aw
theorem StripeTells : handshakerlaw03_StripeTells.Pure := by
 intro t who v cells _ _ _ _ _ _ _ _
 obtain ⟨K, hK⟩ : ∃ K, t.length + cells.length + 9000 = K := ⟨_, rfl⟩
 refine ⟨K + 2, ?_⟩
 have hj : handshakerlaw03_StripeTells.j0 (K + 2) t who v cells true = some true := by
  simp only [handshakerlaw03_StripeTells.j0, if_true]; rw [awake3 (K + 1) (by omega)]; rfl
 unfold handshakerlaw03_StripeTells.f
 by_cases h1 : (t.length : Int) > 30
 · rw [if_pos h1]; exact hj
 rw [if_neg h1]
 by_cases h2 : (cells.length : Int) > 60
 · rw [decide_eq_true h2]; exact hj
 rw [decide_eq_false h2]
 have fin := Tells_j1 t who v cells (by omega) (by omega) K (by omega)
 simp only [handshakerlaw03_StripeTells.j0]
 rw [if_neg (by decide), Lock_f (K + 1) t who cells (by omega) (by omega), rLock_f (K + 1) t who cells (by omega) (by omega) (by omega), Stamp_f (K + 1) t who v (by omega) (by omega), rStamp_f (K + 1) t who v (by omega) (by omega), New_f]
 simp only [Option.bind_some]
 by_cases g1 : v ≥ 1
 · rw [if_pos g1]
   by_cases g2 : v ≤ 16
   · rw [if_pos (show 1 ≤ v ∧ v ≤ 16 from ⟨by omega, g2⟩)]
     simp only [if_true]
     rw [if_pos g2, if_pos (by simp; omega)]
     exact fin
   · rw [if_neg (show ¬ (1 ≤ v ∧ v ≤ 16) by omega), if_neg (by decide), if_neg g2, if_pos (by simp), show ((1 : Int) != 1) = false from rfl]
     exact fin
 · rw [if_neg g1, if_neg (show ¬ (1 ≤ v ∧ v ≤ 16) by omega), if_neg (by decide), if_pos (by simp), show ((1 : Int) != 1) = false from rfl]
   exact fin
end Go.Proofs.Ytlfmobnmohnjmaa.T
namespace Go.Proofs.Ytlfmobnmohnjmaa.Pure
theorem StripeTells : Go.Proofs.Ytlfmobnmohnjmaa.T.handshakerlaw03_StripeTells.Pure := Go.Proofs.Ytlfmobnmohnjmaa.T.StripeTells
end Go.Proofs.Ytlfmobnmohnjmaa.Pure
