/-
  PROVED: Plain lemmas on numbers and lists, of what the printed functions answer. No condition beside those of each lemma.
-/
import Derived.Test.YtlfeohglfjnnhaaHpLem
import Derived.Test.YtlfeohglfjnnhaaHpx3
import Derived.Test.YtlfeohglfjnnhaaHpx4
import Derived.Test.YtlfeohglfjnnhaaHpx5
namespace Go.Proofs.Ytlfeohglfjnnhaa.Hp
open Go.RowKit Go.Proofs.YtlfeohglfjnnhaaW.PrintWords Go.Proofs.YtlfeohglfjnnhaaW.PrintLast Go.Proofs.YtlfeohglfjnnhaaW.PrintMore Go.Proofs.Ytlfeohglfjnnhaa.Ho
set_option linter.unusedVariables false
set_option linter.unusedSimpArgs false
/-! ### the reference's answers -/
theorem rright_f (a : Int) : handshakerref01_Right.f a = some (inR a) := by
  unfold handshakerref01_Right.f inR
  by_cases h : a ≥ (-2147483648)
  · rw [if_pos h]; simp [h]
  · rw [if_neg h]; simp [h]
theorem rRight_l (h : List S59) (hm : h.length < 4398046511104) (d : Nat) : ∀ (k i : Nat), i ≤ h.length → h.length - i = d → d < k →
    handshakerref02_Right.l0 k h (i : Int) = some ((h.drop i).all okC && decide (0 < h.length) && decide (h.length < 65)) := by
  induction d with
  | zero =>
    intro k i hi hd hk
    obtain ⟨k, rfl⟩ : ∃ m, k = m + 1 := ⟨k - 1, by omega⟩
    simp only [handshakerref02_Right.l0]
    rw [if_neg (by omega), List.drop_of_length_le (by omega)]
    by_cases h0 : (h.length : Int) > 0
    · rw [if_pos h0, decide_eq_true (show 0 < h.length by omega)]
      simp only [List.all_nil, Bool.true_and, Option.some.injEq]
      rw [decide_eq_decide]; omega
    · rw [if_neg h0, decide_eq_false (show ¬ 0 < h.length by omega)]; simp
  | succ d ih =>
    intro k i hi hd hk
    obtain ⟨k, rfl⟩ : ∃ m, k = m + 1 := ⟨k - 1, by omega⟩
    simp only [handshakerref02_Right.l0]
    rw [if_pos (by omega), if_pos (by omega), rright_f, wrN (by omega), drop_cons h z59 i (by omega), ih k (i + 1) (by omega) (by omega) (by omega)]
    rw [show rd_T59 h (i : Int) = h.getD i z59 from rfl]
    simp only [Option.bind_some, List.all_cons, okC]
    generalize h.getD i z59 = c
    cases inR c.f1 <;> cases c.f0 <;> simp
    by_cases e : c.f1 = 0
    · simp [e]
    · simp [e]
theorem rRight_f (k : Nat) (h : List S59) (hm : h.length < 4398046511104) (hk : h.length < k) : handshakerref02_Right.f k h = some (RightB h) := by
  unfold handshakerref02_Right.f RightB
  have := rRight_l h hm h.length k 0 (by omega) (by omega) (by omega)
  rw [show ((0 : Nat) : Int) = 0 from rfl] at this
  rw [this, List.drop_zero]
  congr 1
  rw [Bool.eq_iff_iff]
  simp only [Bool.and_eq_true, decide_eq_true_eq]
  constructor
  · rintro ⟨⟨a, b⟩, c⟩; exact ⟨⟨by omega, by omega⟩, a⟩
  · rintro ⟨⟨a, b⟩, c⟩; exact ⟨⟨c, by omega⟩, by omega⟩
def setI (h : List S59) (a : Int) (c : S59) : List S59 := if 0 ≤ a then h.set a.toNat c else h
theorem setI_len (h : List S59) (a : Int) (c : S59) : (setI h a c).length = h.length := by unfold setI; split <;> simp
theorem setI_get (h : List S59) (a : Int) (c : S59) (i : Nat) (hi : i < h.length) : (setI h a c).getD i z59 = if (i : Int) = a then c else h.getD i z59 := by
  unfold setI
  by_cases h0 : 0 ≤ a
  · rw [if_pos h0]
    by_cases h1 : a.toNat < h.length
    · rw [getD_set _ _ _ _ h1]
      by_cases e : a.toNat = i
      · rw [if_pos e, if_pos (by omega)]
      · rw [if_neg e, if_neg (by omega)]
    · rw [List.set_eq_of_length_le (by omega), if_neg (by omega)]
  · rw [if_neg h0, if_neg (by omega)]
theorem take_snoc (l : List S59) (i : Nat) (hi : i < l.length) : l.take i ++ [l.getD i z59] = l.take (i + 1) := by
  rw [List.take_succ_eq_append_getElem hi]
  simp [List.getElem?_eq_getElem hi]
theorem rset_l (h : List S59) (hm : h.length < 4398046511104) (a : Int) (b : Bool) (v : Int) (d : Nat) : ∀ (k i : Nat), i ≤ h.length → h.length - i = d → d < k →
    handshakerref02_set.l0 k h a ((setI h a ⟨b, v⟩).take i) (i : Int) b v = some (setI h a ⟨b, v⟩) := by
  induction d with
  | zero =>
    intro k i hi hd hk
    obtain ⟨k, rfl⟩ : ∃ m, k = m + 1 := ⟨k - 1, by omega⟩
    simp only [handshakerref02_set.l0]
    rw [if_neg (by omega), List.take_of_length_le (by rw [setI_len]; omega)]
  | succ d ih =>
    intro k i hi hd hk
    obtain ⟨k, rfl⟩ : ∃ m, k = m + 1 := ⟨k - 1, by omega⟩
    simp only [handshakerref02_set.l0]
    have hl := setI_len h a ⟨b, v⟩
    have hg := setI_get h a ⟨b, v⟩ i (by omega)
    have ht := take_snoc (setI h a ⟨b, v⟩) i (by omega)
    rw [if_pos (by omega), wrN (by omega)]
    by_cases e : (i : Int) = a
    · rw [if_pos e, if_pos (by rw [List.length_take]; omega)]
      rw [if_pos e] at hg
      rw [hg] at ht
      rw [ht]
      exact ih k (i + 1) (by omega) (by omega) (by omega)
    · rw [if_neg e, if_pos (by omega), if_pos (by rw [List.length_take]; omega)]
      rw [if_neg e] at hg
      rw [hg] at ht
      rw [show rd_T59 h (i : Int) = h.getD i z59 from rfl, ht]
      exact ih k (i + 1) (by omega) (by omega) (by omega)
theorem rset_f (k : Nat) (h : List S59) (hm : h.length < 4398046511104) (hk : h.length < k) (a : Int) (b : Bool) (v : Int) : handshakerref02_set.f k h a b v = some (setI h a ⟨b, v⟩) := by
  unfold handshakerref02_set.f
  have := rset_l h hm a b v h.length k 0 (by omega) (by omega) (by omega)
  simpa using this
theorem rLive_l (h : List S59) (hm : h.length < 4398046511104) (c : Int) (d : Nat) : ∀ (k i : Nat), i ≤ h.length → h.length - i = d → d < k → (0 ≤ c → (i : Int) ≤ c) →
    handshakerref02_Live.l0 k h c (i : Int) = some (there h c) := by
  induction d with
  | zero =>
    intro k i hi hd hk hc
    obtain ⟨k, rfl⟩ : ∃ m, k = m + 1 := ⟨k - 1, by omega⟩
    simp only [handshakerref02_Live.l0]
    rw [if_neg (by omega)]
    unfold there
    rw [decide_eq_false (by omega)]; rfl
  | succ d ih =>
    intro k i hi hd hk hc
    obtain ⟨k, rfl⟩ : ∃ m, k = m + 1 := ⟨k - 1, by omega⟩
    simp only [handshakerref02_Live.l0]
    rw [if_pos (by omega), wrN (by omega)]
    by_cases e : (i : Int) = c
    · rw [if_pos e, if_pos (by omega)]
      subst e
      unfold there
      rw [decide_eq_true (by omega)]; rfl
    · rw [if_neg e]
      exact ih k (i + 1) (by omega) (by omega) (by omega) (by omega)
theorem rLive_f (k : Nat) (h : List S59) (hm : h.length < 4398046511104) (hk : h.length < k) (c : Int) : handshakerref02_Live.f k h c = some (there h c) := by
  unfold handshakerref02_Live.f
  exact rLive_l h hm c h.length k 0 (by omega) (by omega) (by omega) (by omega)
theorem rGet_f (k : Nat) (h : List S59) (hm : h.length < 4398046511104) (hk : h.length < k) (c : Int) : handshakerref02_Get.f k h c = some (getB h c) := by
  unfold handshakerref02_Get.f getB
  rw [rRight_f k h hm hk, rLive_f k h hm hk]
  simp only [Option.bind_some]
  by_cases hr : RightB h = true
  · rw [if_pos hr, if_pos hr]
    by_cases ht : there h c = true
    · obtain ⟨h0, h1, _⟩ := there_rng ht
      rw [if_pos ht, if_pos ht, if_pos h0, if_pos h1]; rfl
    · rw [if_neg ht, if_neg ht]
  · rw [if_neg hr, if_neg hr]
theorem rFree_f (k : Nat) (h : List S59) (hm : h.length < 4398046511104) (hk : h.length < k) (c : Int) : handshakerref02_Free.f k h c = some (freeB h c) := by
  unfold handshakerref02_Free.f freeB
  rw [rGet_f k h hm hk]
  simp only [Option.bind_some]
  by_cases he : (getB h c).2 = 0
  · obtain ⟨hr, ht⟩ := getB_ok he
    obtain ⟨h0, h1, _⟩ := there_rng ht
    rw [if_pos he, if_pos he, rset_f k h hm hk]
    simp only [Option.bind_some]
    unfold setI
    rw [if_pos h0]
  · rw [if_neg he, if_neg he]
theorem rAlloc_l (h : List S59) (hm : h.length < 4398046511104) (v : Int) (d : Nat) : ∀ (k i : Nat), i ≤ h.length → h.length - i = d → d + h.length + 1 < k →
    handshakerref02_Alloc.l0 k h v (i : Int) = some (if idxT (fun x : S59 => !x.f0) (h.drop i) i < 0 then (h, 0, 4) else (h.set (idxT (fun x : S59 => !x.f0) (h.drop i) i).toNat ⟨true, v⟩, idxT (fun x : S59 => !x.f0) (h.drop i) i, 0)) := by
  induction d with
  | zero =>
    intro k i hi hd hk
    obtain ⟨k, rfl⟩ : ∃ m, k = m + 1 := ⟨k - 1, by omega⟩
    simp only [handshakerref02_Alloc.l0]
    rw [if_neg (by omega), List.drop_of_length_le (by omega)]
    simp [idxT]
  | succ d ih =>
    intro k i hi hd hk
    obtain ⟨k, rfl⟩ : ∃ m, k = m + 1 := ⟨k - 1, by omega⟩
    simp only [handshakerref02_Alloc.l0]
    rw [if_pos (by omega), if_pos (by omega), wrN (by omega), drop_cons h z59 i (by omega)]
    rw [show rd_T59 h (i : Int) = h.getD i z59 from rfl]
    by_cases e : (h.getD i z59).f0 = true
    · rw [if_pos e, ih k (i + 1) (by omega) (by omega) (by omega), idxT_no (by simpa using e)]
      rfl
    · rw [if_neg e, rset_f k h hm (by omega), idxT_yes (by simpa using e)]
      simp only [Option.bind_some]
      rw [if_neg (by omega)]
      unfold setI
      rw [if_pos (by omega)]
theorem rAlloc_f (k : Nat) (h : List S59) (hm : h.length < 4398046511104) (hk : 2 * h.length + 3 < k) (v : Int) : handshakerref02_Alloc.f k h v = some (allocB h v) := by
  obtain ⟨k, rfl⟩ : ∃ m, k = m + 1 := ⟨k - 1, by omega⟩
  unfold handshakerref02_Alloc.f allocB
  rw [rRight_f _ h hm (by omega), rright_f]
  simp only [Option.bind_some]
  by_cases hr : RightB h = true
  · rw [if_pos hr]
    simp only [handshakerref02_Alloc.j0]
    by_cases hv : inR v = true
    · rw [if_neg (by simp [hv]), if_pos ⟨hr, hv⟩]
      have := rAlloc_l h hm v h.length k 0 (by omega) (by omega) (by omega)
      rw [List.drop_zero] at this
      exact this
    · rw [if_pos (by simpa using hv), if_neg (fun e => hv e.2)]
  · rw [if_neg hr]
    simp only [handshakerref02_Alloc.j0]
    rw [if_pos trivial, if_neg (fun e => hr e.1)]
theorem rPut_l1 (h : List S59) (hmh : h.length < 4398046511104) (l : List S62) (hm : l.length < 4398046511104) (d : Nat) : ∀ (k i : Nat) (out : List S59), i ≤ l.length → l.length - i = d → d + h.length < k → out.length = h.length → (∀ j : Nat, (out.getD j z59).f0 = (h.getD j z59).f0) →
    handshakerref02_Put.l1 k h l out (i : Int) = some (putL h out (l.drop i)) := by
  induction d with
  | zero =>
    intro k i out hi hd hk ho hf
    obtain ⟨k, rfl⟩ : ∃ m, k = m + 1 := ⟨k - 1, by omega⟩
    simp only [handshakerref02_Put.l1]
    rw [if_neg (by omega), List.drop_of_length_le (by omega)]
    rfl
  | succ d ih =>
    intro k i out hi hd hk ho hf
    obtain ⟨k, rfl⟩ : ∃ m, k = m + 1 := ⟨k - 1, by omega⟩
    simp only [handshakerref02_Put.l1]
    rw [if_pos (by omega), if_pos (by omega), rLive_f k h hmh (by omega), drop_cons l z62 i (by omega)]
    rw [show rd_T62 l (i : Int) = l.getD i z62 from rfl]
    simp only [Option.bind_some, putL]
    by_cases ht : there h (l.getD i z62).f0 = true
    · obtain ⟨h0, h1, h2⟩ := there_rng ht
      rw [if_pos ht, if_pos ht, rset_f k out (by omega) (by omega), wrN (by omega)]
      simp only [Option.bind_some]
      have e : setI out (l.getD i z62).f0 ⟨true, (l.getD i z62).f1⟩ = out.set (l.getD i z62).f0.toNat ⟨(out.getD (l.getD i z62).f0.toNat z59).f0, (l.getD i z62).f1⟩ := by
        unfold setI
        rw [if_pos h0, hf, h2]
      rw [e]
      refine ih k (i + 1) _ (by omega) (by omega) (by omega) (by simpa using ho) (fun j => ?_)
      rw [getD_set _ _ _ _ (by omega)]
      split
      · rename_i e; subst e; exact hf _
      · exact hf j
    · rw [if_neg ht, if_neg ht]
theorem rPut_l0 (h : List S59) (hmh : h.length < 4398046511104) (l : List S62) (hm : l.length < 4398046511104) (d : Nat) : ∀ (k i : Nat) (b : Bool), i ≤ l.length → l.length - i = d → d + l.length + h.length + 1 < k →
    handshakerref02_Put.l0 k h l b (i : Int) = some (if b = true ∧ (l.drop i).all (fun w => inR w.f1) = true then putL h h l else (h, 1)) := by
  induction d with
  | zero =>
    intro k i b hi hd hk
    obtain ⟨k, rfl⟩ : ∃ m, k = m + 1 := ⟨k - 1, by omega⟩
    simp only [handshakerref02_Put.l0]
    rw [if_neg (by omega), List.drop_of_length_le (by omega)]
    cases b with
    | true =>
      rw [if_pos rfl, if_pos ⟨rfl, rfl⟩]
      have := rPut_l1 h hmh l hm l.length k 0 h (by omega) (by omega) (by omega) rfl (fun _ => rfl)
      simpa using this
    | false => rw [if_neg (by simp), if_neg (by simp)]
  | succ d ih =>
    intro k i b hi hd hk
    obtain ⟨k, rfl⟩ : ∃ m, k = m + 1 := ⟨k - 1, by omega⟩
    simp only [handshakerref02_Put.l0]
    rw [if_pos (by omega), if_pos (by omega), rright_f, wrN (by omega), drop_cons l z62 i (by omega)]
    rw [show rd_T62 l (i : Int) = l.getD i z62 from rfl]
    simp only [Option.bind_some, List.all_cons, Bool.and_eq_true]
    cases b with
    | true =>
      rw [if_pos rfl, ih k (i + 1) _ (by omega) (by omega) (by omega)]
      simp
    | false =>
      rw [if_neg (by simp), ih k (i + 1) _ (by omega) (by omega) (by omega)]
      simp
theorem rPut_f (k : Nat) (h : List S59) (hmh : h.length < 4398046511104) (l : List S62) (hm : l.length < 4398046511104) (hk : 2 * l.length + h.length + 1 < k) : handshakerref02_Put.f k h l = some (putB h l) := by
  unfold handshakerref02_Put.f putB
  rw [rRight_f k h hmh (by omega)]
  simp only [Option.bind_some]
  have := rPut_l0 h hmh l hm l.length k 0 (RightB h) (by omega) (by omega) (by omega)
  simpa using this
theorem allocB_len (h : List S59) (v : Int) : (allocB h v).1.length = h.length := by
  unfold allocB
  split
  · split
    · rfl
    · simp
  · rfl
theorem freeB_len (h : List S59) (c : Int) : (freeB h c).1.length = h.length := by
  unfold freeB
  split <;> simp
end Go.Proofs.Ytlfeohglfjnnhaa.Hp
