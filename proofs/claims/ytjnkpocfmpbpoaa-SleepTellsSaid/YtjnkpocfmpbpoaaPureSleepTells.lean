/-
 PROVED: whether any are a list of who sleeps, it with one more, some fewer, who is found, and who watches any cells are what the document says, for every list, sleeper and numbers. Condition: each argument is of its kind; nothing else.
-/
import Derived.Test.YtjnkpocfmpbpoaaSwLem7
import Derived.Test.YtjnkpocfmpbpoaaSwx8
import Derived.Test.YtjnkpocfmpbpoaaSwx11
import Derived.Test.YtjnkpocfmpbpoaaSwx17
import Derived.Test.YtjnkpocfmpbpoaaSwx20
namespace Go.Proofs.Ytjnkpocfmpbpoaa.Sw
open Go.RowKit Go.Proofs.YtjnkpocfmpbpoaaW.PrintWords Go.Proofs.YtjnkpocfmpbpoaaW.PrintLast Go.Proofs.YtjnkpocfmpbpoaaW.PrintMore Go.Proofs.Ytjnkpocfmpbpoaa.Ho
set_option linter.unusedVariables false
set_option linter.unusedSimpArgs false
theorem Find_no (k : Nat) (l : List Sp) (hl : FewS l) (hR : RS l) (w : Int) (hno : ∀ x ∈ l, x.f0 ≠ w) (hk : 1400 < k) : sleep_Find.f k l w = some (0, 0, 0, [], [], 3) := by
 have hlen := hl.1
 unfold sleep_Find.f
 obtain ⟨c, _, e⟩ := place_no k (by omega) hR.2 (by omega) hno
 rw [RightF_f _ l hl (by omega), Option.bind_some, if_pos ((rightS_iff l).2 hR), e, Option.bind_some, if_neg (show ¬ false = true by decide)]
theorem Find_bad (k : Nat) (l : List Sp) (hl : FewS l) (hR : ¬ rightS l = true) (w : Int) (hk : 1400 < k) : sleep_Find.f k l w = some (0, 0, 0, [], [], 1) := by
 unfold sleep_Find.f
 rw [RightF_f _ l hl (by omega), Option.bind_some, if_neg hR]
theorem zero_same (k : Nat) (hk : 1100 < k) : l_15_Ref.f k 0 0 0 ([] : List Wr) ([] : List TOp) = some (0, 0, 0, [], []) ∧ r_15_One2.f k 0 0 0 ([] : List Wr) ([] : List ROp) 0 0 0 [] [] = some true :=
 ⟨SRef_f k ⟨0, 0, 0, [], []⟩ (by simp) (by omega), One2_f k 0 0 0 [] [] (by simp) (by simp) (by omega)⟩
theorem Tells_l (l ra rq : List Sp) (cells ws : List Int) (e1 e2 : Int) (hF : FewS l) (hA : FewS ra) (hD : FewS rq) (hc : cells.length ≤ 20) (hw : ws.length ≤ 100) (d : Nat) : ∀ (k i : Nat), i ≤ ws.length → ws.length - i = d → d + 300000 < k →
 l_15_SleepTells.l0 k l cells (l.map refSp) ra e1 (ra.map refSp) e1 rq e2 (rq.map refSp) e2 (rightS l) ws (ws.length : Int) (i : Int) = some true := by
 have hlen := hF.1
 induction d with
 | zero =>
  intro k i hi hd hk
  obtain ⟨k, rfl⟩ : ∃ m, k = m + 1 := ⟨k - 1, by omega⟩
  simp only [l_15_SleepTells.l0]
  rw [if_neg (show ¬ (i : Int) < (ws.length : Int) by omega), RightF_f k l hF (by omega), Option.bind_some, RefsF_f k ra hA (by omega), RefsF_f k rq hD (by omega)]
  simp only [Option.bind_some]
  rw [SameS_f k ra hA (by omega), SameS_f k rq hD (by omega)]
  simp only [Option.bind_some, if_true]
  rw [rOf_f k l cells hF (by omega) (by omega), awake15 k (by omega)]
  simp only [Option.bind_some]
  by_cases h : rightS l = true
  · rw [h, Of_f k l cells hF ((rightS_iff l).1 h) (by omega) (by omega)]
    have hn := NumbersF k ((l.filter (isOf cells)).map fun s => s.f0) (by rw [List.length_map]; exact Nat.lt_of_le_of_lt (List.length_filter_le _ _) (by omega)) (by rw [List.length_map]; exact Nat.lt_of_le_of_lt (List.length_filter_le _ _) (by omega))
    simp [hn]
  · have hn := NumbersF k ([] : List Int) (by simp) (by simp; omega)
    rw [Bool.eq_false_iff.2 h, Of_no k l cells hF h (by omega)]
    simp [hn]
 | succ d ih =>
  intro k i hi hd hk
  obtain ⟨k, rfl⟩ : ∃ m, k = m + 1 := ⟨k - 1, by omega⟩
  have next := ih k (i + 1) (by omega) (by omega) (by omega)
  obtain ⟨z1, z2⟩ := zero_same k (by omega)
  simp only [l_15_SleepTells.l0]
  rw [if_pos (show (i : Int) < (ws.length : Int) by omega), if_pos (show 0 ≤ (i : Int) by omega), if_pos (show (i : Int) < (ws.length : Int) by omega), wrN (by omega), show rd ws (i : Int) = ws.getD i 0 from rfl, rFindS_f k l _ (by omega) (by omega)]
  generalize ws.getD i 0 = w
  rcases idxT_cases (fun s : Sp => s.f0 == w) z26 l 0 with ⟨h1, h2⟩ | ⟨j, hj, h1, h2, _⟩
  · have hno : ∀ x ∈ l, x.f0 ≠ w := fun x hx e => by have := h2 x hx; rw [e] at this; simp at this
    by_cases h : rightS l = true
    · rw [h] at next ⊢
      rw [Find_no k l hF ((rightS_iff l).1 h) w hno (by omega)]
      simp only [Option.bind_some, h1, z1, z2]
      simpa using next
    · rw [Bool.eq_false_iff.2 h] at next ⊢
      rw [Find_bad k l hF h w (by omega)]
      simp only [Option.bind_some, h1, z1, z2]
      simpa using next
  · have es : (l.getD j z26).f0 = w := by simpa using h2
    rw [Int.zero_add] at h1
    have p2 : 0 ≤ (j : Int) := Int.natCast_nonneg j
    have p3 : (j : Int) < ((l.map refSp).length : Int) := by rw [List.length_map]; omega
    by_cases h : rightS l = true
    · rw [h] at next ⊢
      have hm := hF.2 _ (getD_in l z26 j hj)
      have f1 := Find_f k l hF ((rightS_iff l).1 h) j hj (by omega)
      have f2 := SRef_f k (l.getD j z26) (by omega) (by omega)
      have f3 := One2_f k (l.getD j z26).f0 (l.getD j z26).f1 (l.getD j z26).f2 (l.getD j z26).f3 ((l.getD j z26).f4.map refO) (by omega) (by rw [List.length_map]; omega) (by omega)
      rw [es] at f1 f2 f3
      rw [f1]
      simp only [Option.bind_some, h1]
      rw [if_pos (show (j : Int) ≥ 0 from p2), if_pos p2, if_pos p3, mapS_at l j hj, if_pos trivial]
      simp only [f2, Option.bind_some]
      simp only [refSp, es, f3, Option.bind_some, if_true]
      exact next
    · rw [Bool.eq_false_iff.2 h] at next ⊢
      rw [Find_bad k l hF h w (by omega)]
      simp only [Option.bind_some, h1]
      rw [if_pos (show (j : Int) ≥ 0 from p2), if_pos p2, if_pos p3, if_neg (show ¬ false = true by decide)]
      simp only [Option.bind_some, z1, z2]
      simpa using next
theorem SleepTells : l_15_SleepTells.Pure := by
 intro l s who cells hl1 hl2
 intros
 refine ⟨l.length + 400000, ?_⟩
 generalize hK : l.length + 400000 = K
 unfold l_15_SleepTells.f
 obtain ⟨b, hb, hb'⟩ := Small15_f K l (by omega) (by omega)
 obtain ⟨c, hc, hc'⟩ := Small15_f K [s] (by simp) (by simp; omega)
 obtain ⟨K, rfl⟩ : ∃ m, K = m + 1 := ⟨K - 1, by omega⟩
 have aw : l_15_SleepTells.j0 (K + 1) l who cells true s.f0 s.f1 s.f2 s.f3 s.f4 = some true := by
  simp only [l_15_SleepTells.j0]
  rw [if_pos trivial, awake15 K (by omega)]; rfl
 rw [hb, Option.bind_some]
 by_cases h1 : b < 0
 · rw [if_pos h1]; exact aw
 rw [if_neg h1, show ([(⟨s.f0, s.f1, s.f2, s.f3, s.f4⟩ : Sp)] : List Sp) = [s] from rfl, hc, Option.bind_some]
 by_cases h2 : c < 0
 · rw [if_pos h2]; exact aw
 rw [if_neg h2]
 by_cases h3 : (who.length : Int) > 20
 · rw [if_pos h3]; exact aw
 rw [if_neg h3]
 by_cases h4 : (cells.length : Int) > 20
 · rw [decide_eq_true h4]; exact aw
 rw [decide_eq_false h4]
 have q1 := (hb'.resolve_left h1).2
 have q2 := (hc'.resolve_left h2).2.2 s (by simp)
 have hF : FewS l := ⟨by omega, q1.2⟩
 have hA := addS_few (s := s) hF q1.1 q2
 simp only [l_15_SleepTells.j0]
 rw [if_neg (by decide), RefsF_f K l hF (by omega), Option.bind_some, AddS_f K l s hF q2.1 (by omega), Option.bind_some, SRef_f K s (by omega) (by omega), Option.bind_some]
 dsimp only
 rw [rAddS_f K l s hF q2.1 (by omega), Option.bind_some, rDrop_f K l hF who (by omega) (by omega), rRightS_f K l hF (by omega)]
 have hlw : ([] ++ who ++ [s.f0] : List Int).length ≤ 100 := by simp; omega
 by_cases h : rightS l = true
 · have hD := dropL_few l hF who l hF
   have := Tells_l l (addS l s).1 (dropL l l who).1 cells ([] ++ who ++ [s.f0]) (addS l s).2 (dropL l l who).2 hF hA hD (by omega) hlw ([] ++ who ++ [s.f0] : List Int).length K 0 (by omega) (by omega) (by simp; omega)
   rw [Drop_f K l hF ((rightS_iff l).1 h) who (by omega) (by omega), Option.bind_some, if_pos h, Option.bind_some, Option.bind_some, Option.bind_some, if_pos (by simp; omega), Option.bind_some, Option.bind_some, if_pos (by simp; omega), Option.bind_some]
   exact this
 · have := Tells_l l (addS l s).1 l cells ([] ++ who ++ [s.f0]) (addS l s).2 1 hF hA hF (by omega) hlw ([] ++ who ++ [s.f0] : List Int).length K 0 (by omega) (by omega) (by simp; omega)
   rw [Drop_no K l hF h who (by omega), Option.bind_some, if_neg h, Option.bind_some, Option.bind_some, Option.bind_some, if_pos (by simp; omega), Option.bind_some, Option.bind_some, if_pos (by simp; omega), Option.bind_some]
   exact this
end Go.Proofs.Ytjnkpocfmpbpoaa.Sw
namespace Go.Proofs.Ytjnkpocfmpbpoaa.Pure
theorem SleepTells : Go.Proofs.Ytjnkpocfmpbpoaa.Sw.l_15_SleepTells.Pure := Go.Proofs.Ytjnkpocfmpbpoaa.Sw.SleepTells
end Go.Proofs.Ytjnkpocfmpbpoaa.Pure
