/-
  PROVED: Plain lemmas on numbers and lists, of what the printed functions answer. No condition beside those of each lemma.
-/
import Derived.Test.YtbcpnbmegaodbaaTcLem
import Derived.Test.YtbcpnbmegaodbaaTcLem2
import Derived.Test.YtbcpnbmegaodbaaTcLem3
import Derived.Test.YtbcpnbmegaodbaaTcRef
import Derived.Test.YtbcpnbmegaodbaaTcRef2
import Derived.Test.YtbcpnbmegaodbaaTcx3
import Derived.Test.YtbcpnbmegaodbaaTcx4
import Derived.Test.YtbcpnbmegaodbaaTcx5
import Derived.Test.YtbcpnbmegaodbaaTcx6
namespace Go.Proofs.Ytbcpnbmegaodbaa.Tc
open Go.RowKit Go.Proofs.YtbcpnbmegaodbaaW.PrintWords Go.Proofs.YtbcpnbmegaodbaaW.PrintLast Go.Proofs.YtbcpnbmegaodbaaW.PrintMore Go.Proofs.Ytbcpnbmegaodbaa.Ho
set_option linter.unusedVariables false
set_option linter.unusedSimpArgs false
theorem rright_f (a : Int) : handshakerref01_Right.f a = some (inR a) := by
  unfold handshakerref01_Right.f inR
  by_cases h : a ≥ (-2147483648)
  · rw [if_pos h]; simp [h]
  · rw [if_neg h]; simp [h]
theorem rRight_l (h : List S58) (hm : h.length < 4398046511104) (d : Nat) : ∀ (k i : Nat), i ≤ h.length → h.length - i = d → d < k →
    handshakerref02_Right.l0 k h (i : Int) = some ((h.drop i).all okC && decide (0 < h.length) && decide (h.length < 65)) := by
  induction d with
  | zero =>
    intro k i hi hd hk
    obtain ⟨k, rfl⟩ : ∃ m, k = m + 1 := ⟨k - 1, by omega⟩
    simp only [handshakerref02_Right.l0]
    rw [if_neg (by omega), List.drop_of_length_le (by omega)]
    by_cases h0 : (h.length : Int) > 0
    · rw [if_pos h0, decide_eq_true (show 0 < h.length by omega)]
      simp only [List.all_nil, Bool.true_and, Option.some.injEq]
      rw [decide_eq_decide]; omega
    · rw [if_neg h0, decide_eq_false (show ¬ 0 < h.length by omega)]; simp
  | succ d ih =>
    intro k i hi hd hk
    obtain ⟨k, rfl⟩ : ∃ m, k = m + 1 := ⟨k - 1, by omega⟩
    simp only [handshakerref02_Right.l0]
    rw [if_pos (by omega), if_pos (by omega), rright_f, wrN (by omega), drop_cons h z58 i (by omega), ih k (i + 1) (by omega) (by omega) (by omega)]
    rw [show rd_T58 h (i : Int) = h.getD i z58 from rfl]
    simp only [Option.bind_some, List.all_cons, okC]
    generalize h.getD i z58 = c
    cases inR c.f1 <;> cases c.f0 <;> simp
    by_cases e : c.f1 = 0
    · simp [e]
    · simp [e]
theorem rRight_f (k : Nat) (h : List S58) (hm : h.length < 4398046511104) (hk : h.length < k) : handshakerref02_Right.f k h = some (RightB h) := by
  unfold handshakerref02_Right.f RightB
  have := rRight_l h hm h.length k 0 (by omega) (by omega) (by omega)
  rw [show ((0 : Nat) : Int) = 0 from rfl] at this
  rw [this, List.drop_zero]
  congr 1
  rw [Bool.eq_iff_iff]
  simp only [Bool.and_eq_true, decide_eq_true_eq]
  constructor
  · rintro ⟨⟨a, b⟩, c⟩; exact ⟨⟨by omega, by omega⟩, a⟩
  · rintro ⟨⟨a, b⟩, c⟩; exact ⟨⟨c, by omega⟩, by omega⟩
theorem rLive_l (h : List S58) (hm : h.length < 4398046511104) (c : Int) (d : Nat) : ∀ (k i : Nat), i ≤ h.length → h.length - i = d → d < k → (0 ≤ c → (i : Int) ≤ c) →
    handshakerref02_Live.l0 k h c (i : Int) = some (there h c) := by
  induction d with
  | zero =>
    intro k i hi hd hk hc
    obtain ⟨k, rfl⟩ : ∃ m, k = m + 1 := ⟨k - 1, by omega⟩
    simp only [handshakerref02_Live.l0]
    rw [if_neg (by omega)]
    unfold there
    rw [decide_eq_false (by omega)]; rfl
  | succ d ih =>
    intro k i hi hd hk hc
    obtain ⟨k, rfl⟩ : ∃ m, k = m + 1 := ⟨k - 1, by omega⟩
    simp only [handshakerref02_Live.l0]
    rw [if_pos (by omega), wrN (by omega)]
    by_cases e : (i : Int) = c
    · rw [if_pos e, if_pos (by omega)]
      subst e
      unfold there
      rw [decide_eq_true (by omega)]; rfl
    · rw [if_neg e]
      exact ih k (i + 1) (by omega) (by omega) (by omega) (by omega)
theorem rLive_f (k : Nat) (h : List S58) (hm : h.length < 4398046511104) (hk : h.length < k) (c : Int) : handshakerref02_Live.f k h c = some (there h c) := by
  unfold handshakerref02_Live.f
  exact rLive_l h hm c h.length k 0 (by omega) (by omega) (by omega) (by omega)
theorem value_f (t : List S41) (h : List S58) (regs : List Int) (hm : t.length ≤ 12) (hmay : ∀ o ∈ t, mayB o.f0 o.f1 = true) (hr : RightB h = true) (hg : ∀ y ∈ regs, -9223372036854775808 ≤ y ∧ y ≤ 9223372036854775807) : ∀ (n i k : Nat) (s : List S41), i < n → i < t.length → i + 80 < k → need (t.take (i + 1)).reverse 1 = some s →
    ∃ v ok dp, handshakerref07_value.f k (refT t) (i : Int) h regs = some (v, ok) ∧ handshakerref07_deep.f k (refT t) (i : Int) = some ((dp : Nat) : Int) ∧ Nonempty (SegOk t h regs (i + 1) s v ok dp) := by
  obtain ⟨hr1, hr2, hr3⟩ := Right_len hr
  intro n
  induction n with
  | zero => intro i k s hi; omega
  | succ n ih =>
    intro i k s hin hi hk hs
    obtain ⟨k, rfl⟩ : ∃ m, k = m + 1 := ⟨k - 1, by omega⟩
    have hmo : mayB (t.getD i z41).f0 (t.getD i z41).f1 = true := hmay _ (by
      rw [List.getD_eq_getElem?_getD, List.getElem?_eq_getElem (by omega)]; exact List.getElem_mem _)
    simp only [handshakerref07_value.f, handshakerref07_deep.f]
    have hA : (0 : Int) ≤ (i : Int) := by omega
    have hB : (i : Int) < ((refT t).length : Int) := by rw [ref_len]; omega
    rw [if_pos hA, if_pos hA, if_pos hB, if_pos hB, ref_at t i hi]
    have hseg := @seg_leaf t h regs hr i hi hmo
    by_cases ht : takes (t.getD i z41).f0 = 0
    · have leaf : ∀ v ok, (ok = true → leafB (t.getD i z41) h regs = (v, 0)) → (ok = false → (leafB (t.getD i z41) h regs).2 = 3) → inR v = true → Nonempty (SegOk t h regs (i + 1) s v ok 1) := fun v ok a b c => hseg ht v ok a b c s hs
      clear hseg
      generalize t.getD i z41 = o at *
      have h3 : o.f0 ≤ 3 := by
        rcases may_leaf hmo ht with h | ⟨h, _⟩ | ⟨h, _⟩ <;> omega
      rw [if_pos (show (cv o).f0 ≤ 3 from h3)]
      rcases may_leaf hmo ht with h1 | ⟨h2, a, b⟩ | ⟨h2, a, b⟩
      · rw [if_pos (show (cv o).f0 = 1 from h1)]
        refine ⟨_, _, 1, rfl, rfl, leaf _ _ (fun _ => ?_) (fun e => by cases e) ?_⟩
        · unfold leafB; rw [if_pos h1]
        · unfold mayB at hmo; rw [if_pos h1] at hmo; exact hmo
      · rw [if_neg (show ¬ (cv o).f0 = 1 by simp only; omega), if_pos (show (cv o).f0 = 2 from h2), rLive_f k h (by omega) (by omega)]
        simp only [Option.bind_some]
        have hl : leafB o h regs = getB h o.f1 := by unfold leafB; rw [if_neg (by omega), if_pos h2]
        by_cases hth : there h o.f1 = true
        · obtain ⟨t1, t2, t3⟩ := there_rng hth
          rw [if_pos hth, if_pos t1, if_pos t2]
          refine ⟨_, _, 1, rfl, rfl, leaf _ _ (fun _ => ?_) (fun e => by cases e) ?_⟩
          · rw [hl]; unfold getB; rw [if_pos hr, if_pos hth]; rfl
          · have := hr3 (h.getD o.f1.toNat z58) (by
              rw [List.getD_eq_getElem?_getD, List.getElem?_eq_getElem (by omega)]; exact List.getElem_mem _)
            simp only [okC, Bool.and_eq_true] at this
            exact this.1
        · rw [if_neg hth]
          refine ⟨_, _, 1, rfl, rfl, leaf _ _ (fun e => by cases e) (fun _ => ?_) rfl⟩
          rw [hl]; unfold getB; rw [if_pos hr, if_neg hth]
      · rw [if_neg (show ¬ (cv o).f0 = 1 by simp only; omega), if_neg (show ¬ (cv o).f0 = 2 by simp only; omega), if_pos (show (cv o).f0 = 3 from h2)]
        have hl : leafB o h regs = if o.f1 < regs.length then (wrap32 (regs.getD o.f1.toNat 0), 0) else (0, 3) := by unfold leafB; rw [if_neg (by omega), if_neg (by omega)]
        by_cases hlt : o.f1 < regs.length
        · have hb := hg (rd regs o.f1) (by
            unfold rd
            rw [List.getD_eq_getElem?_getD, List.getElem?_eq_getElem (by omega)]; exact List.getElem_mem _)
          rw [if_neg (show ¬ (cv o).f1 ≥ (regs.length : Int) by simp only; omega), if_pos a, if_pos hlt, show (cv o).f1 = o.f1 from rfl, rwrap_f hb.1 hb.2]
          simp only [Option.bind_some]
          refine ⟨_, _, 1, rfl, rfl, leaf _ _ (fun _ => ?_) (fun e => by cases e) (inR_w32 _)⟩
          rw [hl, if_pos hlt]; rfl
        · rw [if_pos (show (cv o).f1 ≥ (regs.length : Int) by simp only; omega)]
          refine ⟨_, _, 1, rfl, rfl, leaf _ _ (fun e => by cases e) (fun _ => ?_) rfl⟩
          rw [hl, if_neg hlt]
    · clear hseg
      have hn : ∀ c, need (t.take i).reverse (c + 1) ≠ none → 0 < i := by
        intro c hc
        apply Nat.pos_of_ne_zero
        intro e; rw [e] at hc; exact hc rfl
      rw [take_rev t i hi] at hs
      simp only [need, Nat.zero_add] at hs
      have snot := @seg_not t h regs i hi
      have stwo := @seg_two t h regs i hi
      have hof : (t.getD i z41).f0 = 11 ∧ takes (t.getD i z41).f0 = 1 ∨ 4 ≤ (t.getD i z41).f0 ∧ (t.getD i z41).f0 ≤ 10 ∧ takes (t.getD i z41).f0 = 2 := by
        unfold takes at ht ⊢
        split at ht
        · rename_i q; rw [if_pos q]; exact .inr ⟨q.1, q.2, rfl⟩
        · split at ht
          · rename_i p q; rw [if_neg p, if_pos q]; exact .inl ⟨q, rfl⟩
          · simp at ht
      generalize t.getD i z41 = o at *
      rcases hof with ⟨h11, ht1⟩ | ⟨h4, h10, ht2⟩
      · rw [ht1] at hs
        have hi0 := hn 0 (by rw [hs]; simp)
        obtain ⟨i', rfl⟩ : ∃ m, i = m + 1 := ⟨i - 1, by omega⟩
        obtain ⟨v, ok, dp, e1, e2, ⟨sg⟩⟩ := ih i' k s (by omega) (by omega) (by omega) hs
        have ew : wrap64 (((i' + 1 : Nat) : Int) - 1) = (i' : Int) := by rw [wr (by omega) (by omega)]; omega
        rw [if_neg (show ¬ (cv o).f0 = 1 by simp only; omega), if_neg (show ¬ (cv o).f0 = 2 by simp only; omega), if_neg (show ¬ (cv o).f0 = 3 by simp only; omega), if_neg (show ¬ (cv o).f0 ≤ 3 by simp only; omega), ew, e1, e2]
        simp only [Option.bind_some]
        rw [if_pos (show (cv o).f0 = 11 from h11), if_pos (show (cv o).f0 = 11 from h11), rtruth_f]
        simp only [Option.bind_some]
        exact ⟨_, _, dp, rfl, rfl, snot ht1 sg⟩
      · rw [ht2, show (2 : Nat) = 1 + 1 from rfl, need_add] at hs
        cases hn1 : need (t.take i).reverse 1 with
        | none => rw [hn1] at hs; simp at hs
        | some s1 =>
          rw [hn1] at hs
          simp only [Option.bind_some] at hs
          have hi0 := hn 0 (by rw [hn1]; simp)
          obtain ⟨i', rfl⟩ : ∃ m, i = m + 1 := ⟨i - 1, by omega⟩
          obtain ⟨y, ok2, d2, e1, e2, ⟨sb⟩⟩ := ih i' k s1 (by omega) (by omega) (by omega) hn1
          obtain ⟨q1, q2⟩ := need_take (by omega) hn1
          rw [q1] at hs
          have hs0 : 0 < s1.length := by
            apply Nat.pos_of_ne_zero
            intro e; rw [e] at hs; simp [need] at hs
          obtain ⟨j, hj⟩ : ∃ m, s1.length = m + 1 := ⟨s1.length - 1, by omega⟩
          rw [hj] at hs
          obtain ⟨x, ok1, d1, e3, e4, ⟨sa⟩⟩ := ih j k s (by omega) (by omega) (by omega) hs
          have ew : wrap64 (((i' + 1 : Nat) : Int) - 1) = (i' : Int) := by rw [wr (by omega) (by omega)]; omega
          have es : handshakerref07_start.f k (refT t) (i' : Int) = some (s1.length : Int) := by
            have := start_f t hm hmay (i' + 1) (i' + 1) k (by omega) (by omega) (by omega)
            rw [show (((i' + 1 : Nat) : Int) - 1) = (i' : Int) from by omega] at this
            rw [this]; unfold startI; rw [hn1]
          have ew2 : wrap64 ((s1.length : Int) - 1) = (j : Int) := by rw [wr (by omega) (by omega)]; omega
          rw [if_neg (show ¬ (cv o).f0 = 1 by simp only; omega), if_neg (show ¬ (cv o).f0 = 2 by simp only; omega), if_neg (show ¬ (cv o).f0 = 3 by simp only; omega), if_neg (show ¬ (cv o).f0 ≤ 3 by simp only; omega), ew, e1, e2]
          simp only [Option.bind_some]
          rw [if_neg (show ¬ (cv o).f0 = 11 by simp only; omega), if_neg (show ¬ (cv o).f0 = 11 by simp only; omega), es]
          simp only [Option.bind_some]
          rw [ew2, e3, e4]
          simp only [Option.bind_some]
          rw [both_f _ x y sa.rng sb.rng]
          simp only [Option.bind_some]
          have l2 := sb.le
          have l2' : sb.seg.length ≤ 12 := by
            have := congrArg List.length sb.eq
            simp at this; omega
          have em : mx (d1 : Int) (wrap64 ((d2 : Int) + 1)) = ((if d1 < d2 + 1 then d2 + 1 else d1 : Nat) : Int) := by
            rw [wrN (by omega)]
            unfold mx
            by_cases hc : d1 < d2 + 1
            · rw [if_pos hc, if_pos (by omega)]
            · rw [if_neg hc, if_neg (by omega)]
          refine ⟨twoB o.f0 x y, ok2 && ok1, _, ?_, congrArg some em, ?_⟩
          · cases ok2 <;> rfl
          · have sb' := sb
            exact stwo (s1 := s1) ht2 sb' (by rw [hj]; exact sa)
theorem rEval_f (k : Nat) (t : List S41) (h : List S58) (regs : List Int) (hk : 110 ≤ k) (hh : h.length < 4398046511104) (hk2 : h.length < k) (hg : ∀ y ∈ regs, -9223372036854775808 ≤ y ∧ y ≤ 9223372036854775807) : handshakerref07_Eval.f k (refT t) h regs = some (evalB t h regs) := by
  unfold handshakerref07_Eval.f evalB
  rw [rCheck_f k t (by omega), rRight_f k h hh hk2]
  simp only [Option.bind_some]
  by_cases h1 : checkB t = 0
  · rw [if_pos h1, if_pos h1]
    by_cases h2 : RightB h = true
    · rw [if_pos h2, if_pos h2]
      obtain ⟨c1, c2, c3, c4⟩ := checkB_ok h1
      obtain ⟨j, hj⟩ : ∃ m, t.length = m + 1 := ⟨t.length - 1, by omega⟩
      have ew : wrap64 (((refT t).length : Int) - 1) = (j : Int) := by rw [ref_len, wr (by omega) (by omega)]; omega
      have hn : need (t.take (j + 1)).reverse 1 = some [] := by
        rw [← hj, List.take_of_length_le (by omega)]; exact (walk_need t 1).1 c4
      obtain ⟨v, ok, dp, e1, e2, ⟨sg⟩⟩ := value_f t h regs c2 c3 h2 hg (j + 1) j k [] (by omega) (by omega) (by omega) hn
      rw [ew, e1]
      simp only [Option.bind_some]
      have hseg : sg.seg = t := by
        have := sg.eq
        rw [List.take_of_length_le (show t.length ≤ j + 1 by omega)] at this
        simpa using this.symm
      have hrun := sg.run
      rw [hseg] at hrun
      rw [hrun]
      cases ok <;> rfl
    · rw [if_neg h2, if_neg h2]
  · rw [if_neg h1, if_neg h1]
theorem rDeep_f (k : Nat) (t : List S41) (hk : 110 ≤ k) : handshakerref07_Deep.f k (refT t) = some (deepB t) := by
  unfold handshakerref07_Deep.f deepB
  rw [rCheck_f k t (by omega)]
  simp only [Option.bind_some]
  by_cases h1 : checkB t = 0
  · rw [if_pos h1, if_pos h1]
    obtain ⟨c1, c2, c3, c4⟩ := checkB_ok h1
    obtain ⟨j, hj⟩ : ∃ m, t.length = m + 1 := ⟨t.length - 1, by omega⟩
    have ew : wrap64 (((refT t).length : Int) - 1) = (j : Int) := by rw [ref_len, wr (by omega) (by omega)]; omega
    have hn : need (t.take (j + 1)).reverse 1 = some [] := by
      rw [← hj, List.take_of_length_le (by omega)]; exact (walk_need t 1).1 c4
    obtain ⟨v, ok, dp, e1, e2, ⟨sg⟩⟩ := value_f t [⟨false, 0⟩] [] c2 c3 (by decide) (by simp) (j + 1) j k [] (by omega) (by omega) (by omega) hn
    rw [ew, e2]
    simp only [Option.bind_some]
    have hseg : sg.seg = t := by
      have := sg.eq
      rw [List.take_of_length_le (show t.length ≤ j + 1 by omega)] at this
      simpa using this.symm
    have := sg.most 0 0
    rw [hseg] at this
    rw [this]
    have := sg.pos
    rw [if_pos (by omega), Nat.zero_add]
  · rw [if_neg h1, if_neg h1]
end Go.Proofs.Ytbcpnbmegaodbaa.Tc
