/-
 PROVED: Plain lemmas on numbers and lists, of what the printed functions answer. No condition beside those of each lemma.
-/
import Derived.Test.YtihcnbhcemkncaaBLem3
import Derived.Test.YtihcnbhcemkncaaBx8
import Derived.Test.YtihcnbhcemkncaaBx9
import Derived.Test.YtihcnbhcemkncaaBx10
import Derived.Test.YtihcnbhcemkncaaBx11
import Derived.Test.YtihcnbhcemkncaaBx12
import Derived.Test.YtihcnbhcemkncaaBx14
namespace Go.Proofs.Ytihcnbhcemkncaa.B
open Go.RowKit Go.Proofs.YtihcnbhcemkncaaW.PrintWords Go.Proofs.YtihcnbhcemkncaaW.PrintLast Go.Proofs.YtihcnbhcemkncaaW.PrintMore Go.Proofs.Ytihcnbhcemkncaa.Ho
set_option linter.unusedVariables false
set_option linter.unusedSimpArgs false
theorem getD_set (h : List S66) (i j : Nat) (c : S66) (hi : i < h.length) : (h.set i c).getD j z66 = if i = j then c else h.getD j z66 := by
 simp only [List.getD_eq_getElem?_getD, List.getElem?_set]
 split
 · first | rfl | (rw [if_pos (by assumption)]; simp)
 · rfl
theorem rright_f (a : Int) : handshakerref01_Right.f a = some (inR a) := by
 unfold handshakerref01_Right.f inR
 by_cases h : a ≥ (-2147483648)
 · rw [if_pos h]; simp [h]
 · rw [if_neg h]; simp [h]
theorem rRight_l (h : List S66) (hm : h.length < 4398046511104) (d : Nat) : ∀ (k i : Nat), i ≤ h.length → h.length - i = d → d < k →
 handshakerref02_Right.l0 k h (i : Int) = some ((h.drop i).all okC && decide (0 < h.length) && decide (h.length < 65)) := by
 induction d with
 | zero =>
  intro k i hi hd hk
  obtain ⟨k, rfl⟩ : ∃ m, k = m + 1 := ⟨k - 1, by omega⟩
  simp only [handshakerref02_Right.l0]
  rw [if_neg (by omega), List.drop_of_length_le (by omega)]
  by_cases h0 : (h.length : Int) > 0
  · rw [if_pos h0, decide_eq_true (show 0 < h.length by omega)]
    simp only [List.all_nil, Bool.true_and, Option.some.injEq]
    rw [decide_eq_decide]; omega
  · rw [if_neg h0, decide_eq_false (show ¬ 0 < h.length by omega)]; simp
 | succ d ih =>
  intro k i hi hd hk
  obtain ⟨k, rfl⟩ : ∃ m, k = m + 1 := ⟨k - 1, by omega⟩
  simp only [handshakerref02_Right.l0]
  rw [if_pos (by omega), if_pos (by omega), rright_f, wrN (by omega), drop_cons h z66 i (by omega), ih k (i + 1) (by omega) (by omega) (by omega)]
  rw [show rd_T66 h (i : Int) = h.getD i z66 from rfl]
  simp only [Option.bind_some, List.all_cons, okC]
  generalize h.getD i z66 = c
  cases inR c.f1 <;> cases c.f0 <;> simp
  by_cases e : c.f1 = 0
  · simp [e]
  · simp [e]
theorem rRight_f (k : Nat) (h : List S66) (hm : h.length < 4398046511104) (hk : h.length < k) : handshakerref02_Right.f k h = some (RightB h) := by
 unfold handshakerref02_Right.f RightB
 have := rRight_l h hm h.length k 0 (by omega) (by omega) (by omega)
 rw [show ((0 : Nat) : Int) = 0 from rfl] at this
 rw [this, List.drop_zero]
 congr 1
 rw [Bool.eq_iff_iff]
 simp only [Bool.and_eq_true, decide_eq_true_eq]
 constructor
 · rintro ⟨⟨a, b⟩, c⟩; exact ⟨⟨by omega, by omega⟩, a⟩
 · rintro ⟨⟨a, b⟩, c⟩; exact ⟨⟨c, by omega⟩, by omega⟩
def setI (h : List S66) (a : Int) (c : S66) : List S66 := if 0 ≤ a then h.set a.toNat c else h
theorem setI_len (h : List S66) (a : Int) (c : S66) : (setI h a c).length = h.length := by unfold setI; split <;> simp
theorem setI_get (h : List S66) (a : Int) (c : S66) (i : Nat) (hi : i < h.length) : (setI h a c).getD i z66 = if (i : Int) = a then c else h.getD i z66 := by
 unfold setI
 by_cases h0 : 0 ≤ a
 · rw [if_pos h0]
   by_cases h1 : a.toNat < h.length
   · rw [getD_set _ _ _ _ h1]
     by_cases e : a.toNat = i
     · rw [if_pos e, if_pos (by omega)]
     · rw [if_neg e, if_neg (by omega)]
   · rw [List.set_eq_of_length_le (by omega), if_neg (by omega)]
 · rw [if_neg h0, if_neg (by omega)]
theorem take_snoc (l : List S66) (i : Nat) (hi : i < l.length) : l.take i ++ [l.getD i z66] = l.take (i + 1) := by
 rw [List.take_succ_eq_append_getElem hi]
 simp [List.getElem?_eq_getElem hi]
theorem rset_l (h : List S66) (hm : h.length < 4398046511104) (a : Int) (b : Bool) (v : Int) (d : Nat) : ∀ (k i : Nat), i ≤ h.length → h.length - i = d → d < k →
 handshakerref02_set.l0 k h a ((setI h a ⟨b, v⟩).take i) (i : Int) b v = some (setI h a ⟨b, v⟩) := by
 induction d with
 | zero =>
  intro k i hi hd hk
  obtain ⟨k, rfl⟩ : ∃ m, k = m + 1 := ⟨k - 1, by omega⟩
  simp only [handshakerref02_set.l0]
  rw [if_neg (by omega), List.take_of_length_le (by rw [setI_len]; omega)]
 | succ d ih =>
  intro k i hi hd hk
  obtain ⟨k, rfl⟩ : ∃ m, k = m + 1 := ⟨k - 1, by omega⟩
  simp only [handshakerref02_set.l0]
  have hl := setI_len h a ⟨b, v⟩
  have hg := setI_get h a ⟨b, v⟩ i (by omega)
  have ht := take_snoc (setI h a ⟨b, v⟩) i (by omega)
  rw [if_pos (by omega), wrN (by omega)]
  by_cases e : (i : Int) = a
  · rw [if_pos e, if_pos (by rw [List.length_take]; omega)]
    rw [if_pos e] at hg
    rw [hg] at ht
    rw [ht]
    exact ih k (i + 1) (by omega) (by omega) (by omega)
  · rw [if_neg e, if_pos (by omega), if_pos (by rw [List.length_take]; omega)]
    rw [if_neg e] at hg
    rw [hg] at ht
    rw [show rd_T66 h (i : Int) = h.getD i z66 from rfl, ht]
    exact ih k (i + 1) (by omega) (by omega) (by omega)
theorem rset_f (k : Nat) (h : List S66) (hm : h.length < 4398046511104) (hk : h.length < k) (a : Int) (b : Bool) (v : Int) : handshakerref02_set.f k h a b v = some (setI h a ⟨b, v⟩) := by
 unfold handshakerref02_set.f
 have := rset_l h hm a b v h.length k 0 (by omega) (by omega) (by omega)
 simpa using this
theorem rLive_l (h : List S66) (hm : h.length < 4398046511104) (c : Int) (d : Nat) : ∀ (k i : Nat), i ≤ h.length → h.length - i = d → d < k → (0 ≤ c → (i : Int) ≤ c) →
 handshakerref02_Live.l0 k h c (i : Int) = some (there h c) := by
 induction d with
 | zero =>
  intro k i hi hd hk hc
  obtain ⟨k, rfl⟩ : ∃ m, k = m + 1 := ⟨k - 1, by omega⟩
  simp only [handshakerref02_Live.l0]
  rw [if_neg (by omega)]
  unfold there
  rw [decide_eq_false (by omega)]; rfl
 | succ d ih =>
  intro k i hi hd hk hc
  obtain ⟨k, rfl⟩ : ∃ m, k = m + 1 := ⟨k - 1, by omega⟩
  simp only [handshakerref02_Live.l0]
  rw [if_pos (by omega), wrN (by omega)]
  by_cases e : (i : Int) = c
  · rw [if_pos e, if_pos (by omega)]
    subst e
    unfold there
    rw [decide_eq_true (by omega)]; rfl
  · rw [if_neg e]
    exact ih k (i + 1) (by omega) (by omega) (by omega) (by omega)
theorem rLive_f (k : Nat) (h : List S66) (hm : h.length < 4398046511104) (hk : h.length < k) (c : Int) : handshakerref02_Live.f k h c = some (there h c) := by
 unfold handshakerref02_Live.f
 exact rLive_l h hm c h.length k 0 (by omega) (by omega) (by omega) (by omega)
theorem rGet_f (k : Nat) (h : List S66) (hm : h.length < 4398046511104) (hk : h.length < k) (c : Int) : handshakerref02_Get.f k h c = some (getB h c) := by
 unfold handshakerref02_Get.f getB
 rw [rRight_f k h hm hk, rLive_f k h hm hk]
 simp only [Option.bind_some]
 by_cases hr : RightB h = true
 · rw [if_pos hr, if_pos hr]
   by_cases ht : there h c = true
   · obtain ⟨h0, h1, _⟩ := there_rng ht
     rw [if_pos ht, if_pos ht, if_pos h0, if_pos h1]; rfl
   · rw [if_neg ht, if_neg ht]
 · rw [if_neg hr, if_neg hr]
theorem rPut_l1 (h : List S66) (hmh : h.length < 4398046511104) (l : List S77) (hm : l.length < 4398046511104) (d : Nat) : ∀ (k i : Nat) (out : List S66), i ≤ l.length → l.length - i = d → d + h.length < k → out.length = h.length → (∀ j : Nat, (out.getD j z66).f0 = (h.getD j z66).f0) →
 handshakerref02_Put.l1 k h l out (i : Int) = some (putL h out (l.drop i)) := by
 induction d with
 | zero =>
  intro k i out hi hd hk ho hf
  obtain ⟨k, rfl⟩ : ∃ m, k = m + 1 := ⟨k - 1, by omega⟩
  simp only [handshakerref02_Put.l1]
  rw [if_neg (by omega), List.drop_of_length_le (by omega)]
  rfl
 | succ d ih =>
  intro k i out hi hd hk ho hf
  obtain ⟨k, rfl⟩ : ∃ m, k = m + 1 := ⟨k - 1, by omega⟩
  simp only [handshakerref02_Put.l1]
  rw [if_pos (by omega), if_pos (by omega), rLive_f k h hmh (by omega), drop_cons l z77 i (by omega)]
  rw [show rd_T77 l (i : Int) = l.getD i z77 from rfl]
  simp only [Option.bind_some, putL]
  by_cases ht : there h (l.getD i z77).f0 = true
  · obtain ⟨h0, h1, h2⟩ := there_rng ht
    rw [if_pos ht, if_pos ht, rset_f k out (by omega) (by omega), wrN (by omega)]
    simp only [Option.bind_some]
    have e : setI out (l.getD i z77).f0 ⟨true, (l.getD i z77).f1⟩ = out.set (l.getD i z77).f0.toNat ⟨(out.getD (l.getD i z77).f0.toNat z66).f0, (l.getD i z77).f1⟩ := by
     unfold setI
     rw [if_pos h0, hf, h2]
    rw [e]
    refine ih k (i + 1) _ (by omega) (by omega) (by omega) (by simpa using ho) (fun j => ?_)
    rw [getD_set _ _ _ _ (by omega)]
    split
    · rename_i e; subst e; exact hf _
    · exact hf j
  · rw [if_neg ht, if_neg ht]
theorem rPut_l0 (h : List S66) (hmh : h.length < 4398046511104) (l : List S77) (hm : l.length < 4398046511104) (d : Nat) : ∀ (k i : Nat) (b : Bool), i ≤ l.length → l.length - i = d → d + l.length + h.length + 1 < k →
 handshakerref02_Put.l0 k h l b (i : Int) = some (if b = true ∧ (l.drop i).all (fun w => inR w.f1) = true then putL h h l else (h, 1)) := by
 induction d with
 | zero =>
  intro k i b hi hd hk
  obtain ⟨k, rfl⟩ : ∃ m, k = m + 1 := ⟨k - 1, by omega⟩
  simp only [handshakerref02_Put.l0]
  rw [if_neg (by omega), List.drop_of_length_le (by omega)]
  cases b with
  | true =>
   rw [if_pos rfl, if_pos ⟨rfl, rfl⟩]
   have := rPut_l1 h hmh l hm l.length k 0 h (by omega) (by omega) (by omega) rfl (fun _ => rfl)
   simpa using this
  | false => rw [if_neg (by simp), if_neg (by simp)]
 | succ d ih =>
  intro k i b hi hd hk
  obtain ⟨k, rfl⟩ : ∃ m, k = m + 1 := ⟨k - 1, by omega⟩
  simp only [handshakerref02_Put.l0]
  rw [if_pos (by omega), if_pos (by omega), rright_f, wrN (by omega), drop_cons l z77 i (by omega)]
  rw [show rd_T77 l (i : Int) = l.getD i z77 from rfl]
  simp only [Option.bind_some, List.all_cons, Bool.and_eq_true]
  cases b with
  | true =>
   rw [if_pos rfl, ih k (i + 1) _ (by omega) (by omega) (by omega)]
   simp
  | false =>
   rw [if_neg (by simp), ih k (i + 1) _ (by omega) (by omega) (by omega)]
   simp
theorem rPut_f (k : Nat) (h : List S66) (hmh : h.length < 4398046511104) (l : List S77) (hm : l.length < 4398046511104) (hk : 2 * l.length + h.length + 1 < k) : handshakerref02_Put.f k h l = some (putB h l) := by
 unfold handshakerref02_Put.f putB
 rw [rRight_f k h hmh (by omega)]
 simp only [Option.bind_some]
 have := rPut_l0 h hmh l hm l.length k 0 (RightB h) (by omega) (by omega) (by omega)
 simpa using this
theorem rwrap_f {a : Int} (h : -9223372036854775808 ≤ a) (h2 : a ≤ 9223372036854775807) : handshakerref01_Wrap.f a = some (wrap32 a) := by
 unfold handshakerref01_Wrap.f
 rw [tmodM]
 have e1 : ∀ x : Int, -9223372036854775808 ≤ x → x ≤ 9223372036854775807 → wrap64 x = x := fun x => w64_small
 unfold wrap32
 split
 · rw [if_neg (by omega)]
   split
   · rw [e1 _ (by omega) (by omega)]; congr 1; omega
   · congr 1; omega
 · split
   · rw [e1 (-(-a % 4294967296) + 4294967296) (by omega) (by omega), if_neg (by omega)]; congr 1; omega
   · rw [if_neg (by omega)]; congr 1; omega
/-! ### the document's jobs -/
abbrev RJb := S39
def refL (l : List Jb) : List RJb := l.map refJ
theorem ref_len (l : List Jb) : (refL l).length = l.length := List.length_map ..
theorem ref_get (l : List Jb) (i : Nat) (hi : i < l.length) : (refL l).getD i z39 = refJ (l.getD i z25) := by
 unfold refL
 rw [List.getD_eq_getElem?_getD, List.getD_eq_getElem?_getD, List.getElem?_map, List.getElem?_eq_getElem hi]; rfl
theorem refA_len (s : List Ac) : (s.map refA).length = s.length := List.length_map ..
theorem refA_get (s : List Ac) (i : Nat) (hi : i < s.length) : (s.map refA).getD i z87 = refA (s.getD i z61) := by
 rw [List.getD_eq_getElem?_getD, List.getD_eq_getElem?_getD, List.getElem?_map, List.getElem?_eq_getElem hi]; rfl
theorem rone_l (w : Int) (s : List Ac) (hm : s.length < 4398046511104) (d : Nat) : ∀ (k i : Nat), i ≤ s.length → s.length - i = d → d < k → handshakerref22_one.l0 k (i : Int) w (s.map refA) = some ((s.drop i).all okA) := by
 induction d with
 | zero =>
  intro k i hi hd hk
  obtain ⟨k, rfl⟩ : ∃ m, k = m + 1 := ⟨k - 1, by omega⟩
  simp only [handshakerref22_one.l0]
  rw [if_neg (by rw [refA_len]; omega), List.drop_of_length_le (by omega)]; rfl
 | succ d ih =>
  intro k i hi hd hk
  obtain ⟨k, rfl⟩ : ∃ m, k = m + 1 := ⟨k - 1, by omega⟩
  have next := ih k (i + 1) (by omega) (by omega) (by omega)
  simp only [handshakerref22_one.l0]
  rw [if_pos (by rw [refA_len]; omega), if_pos (by omega), show rd_T87 (s.map refA) (i : Int) = (s.map refA).getD i z87 from rfl, refA_get s i (by omega), drop_cons s z61 i (by omega), rright_f, Option.bind_some, List.all_cons, wrN (by omega), next]
  generalize s.getD i z61 = a
  show (if inR a.f2 = true then if a.f0 < 0 then some false else if a.f0 > 63 then some false else if a.f1 < 1 then some false else if a.f1 > 2 then some false else _ else some false) = _
  by_cases ho : okA a = true
  · obtain ⟨h1, h2, h3⟩ := (okA_iff a).1 ho
    rw [if_pos h3, if_neg (by omega), if_neg (by omega), if_neg (by omega), if_neg (by omega), ho, Bool.true_and]
  · have no : ∀ b, some false = some (okA a && b) := fun b => by rw [Bool.eq_false_iff.2 ho, Bool.false_and]
    by_cases h3 : inR a.f2 = true
    · rw [if_pos h3]
      by_cases q1 : a.f0 < 0
      · rw [if_pos q1]; exact no _
      rw [if_neg q1]
      by_cases q2 : a.f0 > 63
      · rw [if_pos q2]; exact no _
      rw [if_neg q2]
      by_cases q3 : a.f1 < 1
      · rw [if_pos q3]; exact no _
      rw [if_neg q3]
      by_cases q4 : a.f1 > 2
      · rw [if_pos q4]; exact no _
      exact absurd ((okA_iff a).2 ⟨by omega, by omega, h3⟩) ho
    · rw [if_neg h3]; exact no _
theorem rone_f (k : Nat) (j : Jb) (hl : j.f1.length ≤ 30) (hk : 40 < k) : handshakerref22_one.f k (refJ j).f0 (refJ j).f1 = some (mayB j) := by
 obtain ⟨k, rfl⟩ : ∃ m, k = m + 1 := ⟨k - 1, by omega⟩
 obtain ⟨w, s⟩ := j
 show handshakerref22_one.f (k + 1) w (s.map refA) = _
 unfold handshakerref22_one.f handshakerref03_Who.f mayB
 have hl' : s.length ≤ 30 := hl
 simp only [handshakerref22_one.j0]
 by_cases h1 : w > 0
 · rw [if_pos h1, Option.bind_some]
   by_cases h2 : w < 9
   · rw [decide_eq_true h2, if_pos rfl, decide_eq_true (show 1 ≤ w ∧ w ≤ 8 by omega)]
     by_cases h3 : ((s.map refA).length : Int) < 1
     · rw [if_pos h3, if_pos trivial, decide_eq_false (show ¬ (1 ≤ s.length ∧ s.length ≤ 8) by rw [refA_len] at h3; omega)]; rfl
     · rw [if_neg h3]
       by_cases h4 : ((s.map refA).length : Int) > 8
       · rw [if_pos (by rw [decide_eq_true h4]), decide_eq_false (show ¬ (1 ≤ s.length ∧ s.length ≤ 8) by rw [refA_len] at h4; omega)]; rfl
       · rw [if_neg (by rw [decide_eq_false h4]; decide), decide_eq_true (show 1 ≤ s.length ∧ s.length ≤ 8 by rw [refA_len] at h3 h4; omega)]
         have := rone_l w s (by omega) s.length k 0 (by omega) (by omega) (by omega)
         rw [show ((0 : Nat) : Int) = 0 from rfl] at this
         rw [this]; rfl
   · rw [decide_eq_false h2, if_neg (by decide), if_pos trivial, decide_eq_false (show ¬ (1 ≤ w ∧ w ≤ 8) by omega)]; rfl
 · rw [if_neg h1, Option.bind_some, if_neg (by decide), if_pos trivial, decide_eq_false (show ¬ (1 ≤ w ∧ w ≤ 8) by omega)]; rfl
theorem hold1_cons (j : Jb) (l : List Jb) (c : Int) : hold1 (j :: l) c = if holdsB j c = true then j.f0 else hold1 l c := by
 unfold hold1
 by_cases h : holdsB j c = true
 · rw [if_pos h]; simp only [List.find?_cons, h]; rfl
 · rw [if_neg h]; simp only [List.find?_cons, Bool.eq_false_iff.2 h]
theorem rholder_l (l : List Jb) (hl : l.length < 4398046511104) (ha : ∀ j ∈ l, j.f1.length ≤ 20) (c : Int) : ∀ (d k i : Nat), i ≤ l.length → l.length - i = d → 30 * d < k →
 handshakerref22_holder.l0 k (refL l) c (i : Int) = some (hold1 (l.drop i) c) := by
 intro d
 induction d with
 | zero =>
  intro k i hi hd hk
  obtain ⟨k, rfl⟩ : ∃ m, k = m + 1 := ⟨k - 1, by omega⟩
  simp only [handshakerref22_holder.l0]
  rw [if_neg (by rw [ref_len]; omega), List.drop_of_length_le (by omega)]; rfl
 | succ d ih =>
  intro k i hi hd hk
  obtain ⟨k, rfl⟩ : ∃ m, k = m + 1 := ⟨k - 1, by omega⟩
  have hmem := ha _ (getD_in l z25 i (by omega))
  simp only [handshakerref22_holder.l0]
  rw [if_pos (by rw [ref_len]; omega), drop_cons l z25 i (by omega), hold1_cons]
  have er : rd_T39 (refL l) (i : Int) = refJ (l.getD i z25) := ref_get l i (by omega)
  generalize l.getD i z25 = j at *
  have inner : ∀ (e k m : Nat), m ≤ j.f1.length → j.f1.length - m = e → e + 30 * d + 1 < k →
   handshakerref22_holder.l1 k (refL l) c (i : Int) (m : Int) = some (if ((j.f1.drop m).any fun a => a.f0 == c) = true then j.f0 else hold1 (l.drop (i + 1)) c) := by
   intro e
   induction e with
   | zero =>
    intro k m hm he hk
    obtain ⟨k, rfl⟩ : ∃ q, k = q + 1 := ⟨k - 1, by omega⟩
    simp only [handshakerref22_holder.l1]
    rw [if_pos (by omega), if_pos (by rw [ref_len]; omega), er, if_neg (by show ¬ (m : Int) < ((j.f1.map refA).length : Int); rw [refA_len]; omega), wrN (by omega), List.drop_of_length_le (l := j.f1) (by omega), if_neg (by simp)]
    exact ih k (i + 1) (by omega) (by omega) (by omega)
   | succ e ihe =>
    intro k m hm he hk
    obtain ⟨k, rfl⟩ : ∃ q, k = q + 1 := ⟨k - 1, by omega⟩
    simp only [handshakerref22_holder.l1]
    rw [if_pos (by omega), if_pos (by rw [ref_len]; omega), er, if_pos (by show (m : Int) < ((j.f1.map refA).length : Int); rw [refA_len]; omega), if_pos (by omega), wrN (by omega), drop_cons j.f1 z61 m (by omega),
     show rd_T87 (refJ j).f1 (m : Int) = refA (j.f1.getD m z61) from refA_get j.f1 m (by omega), ihe k (m + 1) (by omega) (by omega) (by omega)]
    generalize j.f1.getD m z61 = a
    show (if a.f0 = c then some j.f0 else _) = _
    by_cases h : a.f0 = c
    · rw [if_pos h, if_pos (by rw [List.any_cons, h]; simp)]
    · rw [if_neg h]
      congr 2
      rw [List.any_cons, beq_eq_false_iff_ne.2 h, Bool.false_or]
  exact inner j.f1.length k 0 (by omega) (by omega) (by omega)
theorem rholder_f (k : Nat) (l : List Jb) (hl : l.length < 4398046511104) (ha : ∀ j ∈ l, j.f1.length ≤ 20) (c : Int) (hk : 30 * l.length < k) : handshakerref22_holder.f k (refL l) c = some (hold1 l c) := by
 unfold handshakerref22_holder.f
 exact rholder_l l hl ha c l.length k 0 (by omega) (by omega) hk
def freeB (l : List Jb) (j : Jb) : Bool := j.f1.all fun a => decide (hold1 l a.f0 = 0 ∨ hold1 l a.f0 = j.f0)
theorem rfree_l (l : List Jb) (hl : l.length < 4398046511104) (ha : ∀ j ∈ l, j.f1.length ≤ 20) (w : Int) (s : List Ac) (hm : s.length < 4398046511104) (d : Nat) : ∀ (k i : Nat), i ≤ s.length → s.length - i = d → d + 30 * l.length < k →
 handshakerref22_free.l0 k (refL l) (i : Int) w (s.map refA) = some ((s.drop i).all fun a => decide (hold1 l a.f0 = 0 ∨ hold1 l a.f0 = w)) := by
 induction d with
 | zero =>
  intro k i hi hd hk
  obtain ⟨k, rfl⟩ : ∃ m, k = m + 1 := ⟨k - 1, by omega⟩
  simp only [handshakerref22_free.l0]
  rw [if_neg (by rw [refA_len]; omega), List.drop_of_length_le (by omega)]; rfl
 | succ d ih =>
  intro k i hi hd hk
  obtain ⟨k, rfl⟩ : ∃ m, k = m + 1 := ⟨k - 1, by omega⟩
  simp only [handshakerref22_free.l0]
  rw [if_pos (by rw [refA_len]; omega), if_pos (by omega), show rd_T87 (s.map refA) (i : Int) = refA (s.getD i z61) from refA_get s i (by omega), drop_cons s z61 i (by omega), wrN (by omega), ih k (i + 1) (by omega) (by omega) (by omega), List.all_cons]
  generalize s.getD i z61 = a
  rw [show (refA a).f0 = a.f0 from rfl, rholder_f k l hl ha a.f0 (by omega), Option.bind_some]
  by_cases h0 : hold1 l a.f0 = 0
  · rw [if_pos h0, decide_eq_true (Or.inl h0), Bool.true_and]
  · rw [if_neg h0]
    by_cases h1 : hold1 l a.f0 = w
    · rw [if_pos h1, decide_eq_true (Or.inr h1), Bool.true_and]
    · rw [if_neg h1, decide_eq_false (fun e => e.elim h0 h1), Bool.false_and]
theorem rfree_f (k : Nat) (l : List Jb) (hl : l.length < 4398046511104) (ha : ∀ j ∈ l, j.f1.length ≤ 20) (j : Jb) (hj : j.f1.length ≤ 20) (hk : 30 * l.length + 30 < k) : handshakerref22_free.f k (refL l) (refJ j).f0 (refJ j).f1 = some (freeB l j) := by
 unfold handshakerref22_free.f
 exact rfree_l l hl ha j.f0 j.f1 (by omega) j.f1.length k 0 (by omega) (by omega) (by omega)
abbrev RQ (l : List Jb) : Prop := (∀ x ∈ l, mayB x = true) ∧ l.Pairwise Fine
theorem fine_memQ {l : List Jb} (h : RQ l) {a b : Jb} (ha : a ∈ l) (hb : b ∈ l) : Fine a b := by
 obtain ⟨i, hi, rfl⟩ := List.mem_iff_getElem.1 ha
 obtain ⟨j, hj, rfl⟩ := List.mem_iff_getElem.1 hb
 rcases Nat.lt_trichotomy i j with e | e | e
 · exact List.pairwise_iff_getElem.1 h.2 i j hi hj e
 · subst e; exact .inl rfl
 · exact fine_symm (List.pairwise_iff_getElem.1 h.2 j i hj hi e)
theorem hold_casesQ {l : List Jb} (h : RQ l) (c : Int) : (hold1 l c = 0 ∧ ∀ j ∈ l, holdsB j c = false) ∨ (1 ≤ hold1 l c ∧ (∃ j ∈ l, holdsB j c = true ∧ j.f0 = hold1 l c) ∧ ∀ j ∈ l, holdsB j c = true → j.f0 = hold1 l c) := by
 cases hf : l.find? (fun j => holdsB j c) with
 | none => exact .inl ⟨by unfold hold1; rw [hf]; rfl, fun j hj => Bool.eq_false_iff.2 (List.find?_eq_none.1 hf j hj)⟩
 | some j =>
  have hj := List.mem_of_find?_eq_some hf
  have hh := List.find?_some hf
  have he : hold1 l c = j.f0 := by unfold hold1; rw [hf]; rfl
  refine .inr ⟨by rw [he]; exact ((mayB_iff j).1 (h.1 j hj)).1.1, ⟨j, hj, hh, he.symm⟩, fun x hx hc => ?_⟩
  rw [he]
  rcases fine_memQ h hx hj with e | e
  · exact e
  · obtain ⟨a, ha, ea⟩ := (holds_iff x c).1 hc
    obtain ⟨b, hb, eb⟩ := (holds_iff j c).1 hh
    exact absurd (ea.trans eb.symm) (e a ha b hb)
theorem free_iff {l : List Jb} (h : RQ l) (j : Jb) : freeB l j = true ↔ ∀ x ∈ l, Fine x j := by
 unfold freeB
 rw [List.all_eq_true]
 constructor
 · intro g x hx
   by_cases e : x.f0 = j.f0
   · exact .inl e
   · refine .inr fun y hy a ha ea => ?_
     have hh : holdsB x a.f0 = true := (holds_iff x _).2 ⟨y, hy, ea⟩
     have := of_decide_eq_true (g a ha)
     rcases hold_casesQ h a.f0 with ⟨_, q⟩ | ⟨q1, _, q⟩
     · rw [q x hx] at hh; cases hh
     · rcases this with t | t
       · omega
       · exact e ((q x hx hh).trans t)
 · intro g a ha
   refine decide_eq_true ?_
   rcases hold_casesQ h a.f0 with ⟨q, _⟩ | ⟨_, ⟨x, hx, hh, ex⟩, _⟩
   · exact .inl q
   · refine .inr ?_
     rw [← ex]
     rcases g x hx with e | e
     · exact e
     · obtain ⟨y, hy, ey⟩ := (holds_iff x _).1 hh
       exact absurd ey (e y hy a ha)
theorem ref_take (l : List Jb) (i : Nat) : (refL l).take i = refL (l.take i) := by unfold refL; rw [List.map_take]
theorem rRightJ_l (l : List Jb) (hm : l.length ≤ 30) (ha : ∀ j ∈ l, j.f1.length ≤ 20) (d : Nat) : ∀ (k i : Nat), i ≤ l.length → l.length - i = d → d + 1000 < k → RQ (l.take i) →
 handshakerref22_Right.l0 k (refL l) (i : Int) = some (rightJ l) := by
 induction d with
 | zero =>
  intro k i hi hd hk h
  obtain ⟨k, rfl⟩ : ∃ m, k = m + 1 := ⟨k - 1, by omega⟩
  rw [List.take_of_length_le (by omega)] at h
  simp only [handshakerref22_Right.l0]
  rw [if_neg (by rw [ref_len]; omega), ref_len]
  unfold rightJ
  congr 1
  rw [decide_eq_decide]
  exact ⟨fun g => ⟨by omega, h.1, h.2⟩, fun g => by have := g.1; omega⟩
 | succ d ih =>
  intro k i hi hd hk h
  obtain ⟨k, rfl⟩ : ∃ m, k = m + 1 := ⟨k - 1, by omega⟩
  have hmem := getD_in l z25 i (by omega)
  have hs := take_snG l z25 i (by omega)
  simp only [handshakerref22_Right.l0]
  rw [if_pos (by rw [ref_len]; omega), if_pos (by omega), show rd_T39 (refL l) (i : Int) = refJ (l.getD i z25) from ref_get l i (by omega), show ((i : Int)).toNat = i from rfl, ref_take, wrN (by omega)]
  generalize l.getD i z25 = j at *
  have hj := ha j hmem
  rw [rone_f k j (by omega) (by omega), Option.bind_some, if_pos (by rw [ref_len]; omega), rfree_f k (l.take i) (by rw [List.length_take]; omega) (fun x hx => ha x (List.mem_of_mem_take hx)) j hj (by rw [List.length_take]; omega), Option.bind_some]
  by_cases a1 : mayB j = true
  · rw [if_pos a1]
    by_cases a2 : freeB (l.take i) j = true
    · rw [if_pos a2]
      have a3 := (free_iff h j).1 a2
      refine ih k (i + 1) (by omega) (by omega) (by omega) ⟨fun x hx => ?_, ?_⟩
      · rw [hs] at hx
        rcases List.mem_append.1 hx with hx | hx
        · exact h.1 x hx
        · rw [List.mem_singleton.1 hx]; exact a1
      · rw [hs, List.pairwise_append]
        exact ⟨h.2, List.pairwise_singleton _ _, fun x hx y hy => by rw [List.mem_singleton.1 hy]; exact a3 x hx⟩
    · rw [if_neg a2, rightJ_no]
      intro g
      have h3 := g.2.2
      rw [← List.take_append_drop (i + 1) l, hs] at h3
      have h4 := (List.pairwise_append.1 (List.pairwise_append.1 h3).1).2.2
      exact a2 ((free_iff h j).2 fun x hx => h4 x hx _ (by simp))
  · rw [if_neg a1, rightJ_no (fun g => a1 (g.2.1 _ hmem))]
theorem rRightJ_f (k : Nat) (l : List Jb) (hm : l.length ≤ 30) (ha : ∀ j ∈ l, j.f1.length ≤ 20) (hk : 1100 < k) : handshakerref22_Right.f k (refL l) = some (rightJ l) := by
 unfold handshakerref22_Right.f
 exact rRightJ_l l hm ha l.length k 0 (by omega) (by omega) (by omega) ⟨by simp, by simp⟩
theorem rHolder_f (k : Nat) (l : List Jb) (c : Int) (hm : l.length ≤ 30) (ha : ∀ j ∈ l, j.f1.length ≤ 20) (hk : 1100 < k) : handshakerref22_Holder.f k (refL l) c = some (holderB l c) := by
 unfold handshakerref22_Holder.f holderB
 rw [rRightJ_f k l hm ha hk, Option.bind_some]
 by_cases hr : rightJ l = true
 · rw [if_pos hr, if_pos hr, rholder_f k l (by omega) ha c (by omega)]; rfl
 · rw [if_neg hr, if_neg hr]
theorem rDefer_f (k : Nat) (l : List Jb) (j : Jb) (hm : l.length ≤ 30) (ha : ∀ j ∈ l, j.f1.length ≤ 20) (hj : j.f1.length ≤ 20) (hk : 1102 < k) : handshakerref22_Defer.f k (refL l) (refJ j).f0 (refJ j).f1 = some (refL (deferB l j).1, (deferB l j).2) := by
 obtain ⟨k, rfl⟩ : ∃ m, k = m + 1 := ⟨k - 1, by omega⟩
 unfold handshakerref22_Defer.f deferB
 rw [rRightJ_f _ l hm ha (by omega), rone_f _ j (by omega) (by omega), rfree_f _ l (by omega) ha j hj (by omega), Option.bind_some, Option.bind_some, Option.bind_some]
 by_cases hr : rightJ l = true
 · have hl := (rightJ_iff l).1 hr
   rw [if_pos hr]
   simp only [handshakerref22_Defer.j0]
   by_cases hb : mayB j = true
   · have hd : (rightJ l = true ∧ mayB j = true) := ⟨hr, hb⟩
     rw [if_neg (show ¬ (!mayB j) = true by rw [hb]; decide), if_pos hd]
     by_cases hf : freeB l j = true
     · have hno : l.any (againstB j) = false := anyAgainst_no.2 ((free_iff ⟨hl.2.1, hl.2.2⟩ j).1 hf)
       rw [if_pos hf, if_neg (show ¬ l.any (againstB j) = true by rw [hno]; decide), ref_len]
       by_cases h6 : l.length = 16
       · rw [if_pos (by omega), if_pos h6]
       · rw [if_neg (by omega), if_neg h6, if_pos (by simp; omega), Option.bind_some, List.nil_append, if_pos (by rw [ref_len]; omega)]
         unfold refL
         rw [List.map_append]; rfl
     · have hyes : l.any (againstB j) = true := by
        rw [← Bool.not_eq_false]
        exact fun e => hf ((free_iff ⟨hl.2.1, hl.2.2⟩ j).2 (anyAgainst_no.1 e))
       rw [if_neg hf, if_pos hyes]
   · rw [if_pos (show (!mayB j) = true by rw [Bool.eq_false_iff.2 hb]; decide), if_neg (fun e => hb e.2)]
 · rw [if_neg hr, if_neg (fun e => hr e.1)]
   simp only [handshakerref22_Defer.j0]
   rw [if_pos trivial]
theorem rSee_f (k : Nat) (l : List Jb) (w : Int) (h : List Cl) (c : Int) (hm : l.length ≤ 30) (ha : ∀ j ∈ l, j.f1.length ≤ 20) (hh : h.length ≤ 80) (hk : 1102 < k) : handshakerref22_See.f k (refL l) w h c = some (seeB l w h c) := by
 obtain ⟨k, rfl⟩ : ∃ m, k = m + 1 := ⟨k - 1, by omega⟩
 unfold handshakerref22_See.f seeB
 rw [rRightJ_f _ l hm ha (by omega), rRight_f _ h (by omega) (by omega), Option.bind_some, Option.bind_some]
 by_cases hr : rightJ l = true
 · have hl := (rightJ_iff l).1 hr
   rw [if_pos hr]
   simp only [handshakerref22_See.j0]
   by_cases hb : RightB h = true
   · have hd : (rightJ l = true ∧ RightB h = true) := ⟨hr, hb⟩
     rw [if_neg (show ¬ (!RightB h) = true by rw [hb]; decide), if_pos hd, rholder_f k l (by omega) ha c (by omega), Option.bind_some]
     have hc : hold1 l c = 0 ∨ 1 ≤ hold1 l c := (hold_cases hl c).imp (fun e => e.1) (fun e => e.1)
     by_cases h0 : hold1 l c > 0
     · rw [if_pos h0]
       by_cases h1 : hold1 l c = w
       · rw [if_pos h1, if_pos (Or.inr h1), rGet_f k h (by omega) (by omega)]; rfl
       · rw [if_neg h1, if_neg (fun e => e.elim (fun q => by omega) h1)]
     · rw [if_neg h0, if_pos (show hold1 l c = 0 ∨ hold1 l c = w from .inl (by omega)), rGet_f k h (by omega) (by omega)]; rfl
   · rw [if_pos (show (!RightB h) = true by rw [Bool.eq_false_iff.2 hb]; decide), if_neg (fun e => hb e.2)]
 · rw [if_neg hr, if_neg (fun e => hr e.1)]
   simp only [handshakerref22_See.j0]
   rw [if_pos trivial]
end Go.Proofs.Ytihcnbhcemkncaa.B
