/-
 PROVED: whether codes are written, the bytes, and the size of each are what the document says, for all codes. Condition: the argument is of its kind; nothing else.
-/
import Derived.Test.YtpeblomhhofhkaaHAllLem
import Derived.Test.YtpeblomhhofhkaaHx16
namespace Go.Proofs.Ytpeblomhhofhkaa.H
open Go.RowKit Go.Proofs.YtpeblomhhofhkaaW.PrintWords Go.Proofs.YtpeblomhhofhkaaW.PrintLast Go.Proofs.YtpeblomhhofhkaaW.PrintMore Go.Proofs.Ytpeblomhhofhkaa.Ho
set_option linter.unusedVariables false
set_option linter.unusedSimpArgs false
theorem Writes_l (l : List (List Stp)) (hm : l.length ≤ 12) (hs : ∀ c ∈ l, smallC c) (d : Nat) : ∀ (k i : Nat), i ≤ l.length → l.length - i = d → d + 3000 < k →
 handshakerlaw09_ShapeWrites.l0 k (writeB l).1 (writeB l).2 (writeB l).1 (decide ((writeB l).2 = 0)) l (l.length : Int) (i : Int) = some true := by
 induction d with
 | zero =>
  intro k i hi hd hk
  obtain ⟨k, rfl⟩ : ∃ m, k = m + 1 := ⟨k - 1, by omega⟩
  simp only [handshakerlaw09_ShapeWrites.l0]
  rw [if_neg (by omega), if_pos trivial, awake9 k (by omega)]
  by_cases h : (writeB l).2 = 0
  · rw [if_pos h, if_pos (decide_eq_true h)]; rfl
  · have e : (writeB l).2 = 1 := by
     unfold writeB at h ⊢
     split at h
     · exact absurd rfl h
     · rename_i g; rw [if_neg g]
    rw [if_neg h, if_neg (by rw [decide_eq_false h]; decide), if_pos e]; rfl
 | succ d ih =>
  intro k i hi hd hk
  obtain ⟨k, rfl⟩ : ∃ m, k = m + 1 := ⟨k - 1, by omega⟩
  have next := ih k (i + 1) (by omega) (by omega) (by omega)
  have hl := hs _ (getD_mem l [] i (by omega))
  simp only [handshakerlaw09_ShapeWrites.l0]
  rw [if_pos (by omega), if_pos (by omega), if_pos (by omega), show rd_L5 l (i : Int) = l.getD i [] from rfl, wrN (by omega)]
  generalize l.getD i [] = c at *
  rw [RefC_f k c hl.1 hl.2 (by omega), Option.bind_some, rCheckC_f k c (by omega), Option.bind_some, Size_f k c (by omega), Option.bind_some, Option.bind_some]
  by_cases hc : checkC c = 0
  · have hz : sizeB c = ((codeB c).length : Int) := if_pos hc
    rw [if_pos hc, rCode_f k c hc (by omega), Option.bind_some, Option.bind_some, if_pos hz]
    exact next
  · have hz : sizeB c = 0 := if_neg hc
    rw [if_neg hc, if_pos hz]
    exact next
theorem ShapeWrites : handshakerlaw09_ShapeWrites.Pure := by
 intro l hl1 hl2 hl3
 refine ⟨l.length + (l.map List.length).sum + 5000, ?_⟩
 generalize hK : l.length + (l.map List.length).sum + 5000 = K
 unfold handshakerlaw09_ShapeWrites.f
 obtain ⟨s, hs, hs'⟩ := small_f l K (by omega) (fun c hc => (hl3 c hc).1) (by omega)
 rw [hs, Option.bind_some]
 cases s with
 | false => rw [if_neg (by decide), awake9 K (by omega)]; rfl
 | true =>
  obtain ⟨h12, hsm⟩ := hs' rfl
  rw [if_pos rfl, Write_f K l (by omega), Option.bind_some, Refs_f K l h12 hsm (by omega), Option.bind_some, rWrite_f K l (by omega), Option.bind_some]
  exact Writes_l l h12 hsm l.length K 0 (by omega) (by omega) (by omega)
end Go.Proofs.Ytpeblomhhofhkaa.H
namespace Go.Proofs.Ytpeblomhhofhkaa.Pure
theorem ShapeWrites : Go.Proofs.Ytpeblomhhofhkaa.H.handshakerlaw09_ShapeWrites.Pure := Go.Proofs.Ytpeblomhhofhkaa.H.ShapeWrites
end Go.Proofs.Ytpeblomhhofhkaa.Pure
