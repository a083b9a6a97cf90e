/-
 PROVED: Plain lemmas on numbers and lists, of what the printed functions answer. No condition beside those of each lemma.
-/
import Derived.Test.YtjnkpocfmpbpoaaSaLem3
import Derived.Test.YtjnkpocfmpbpoaaSax7
import Derived.Test.YtjnkpocfmpbpoaaSax8
import Derived.Test.YtjnkpocfmpbpoaaSax11
import Derived.Test.YtjnkpocfmpbpoaaSax12
import Derived.Test.YtjnkpocfmpbpoaaSax13
namespace Go.Proofs.Ytjnkpocfmpbpoaa.Sa
open Go.RowKit Go.Proofs.YtjnkpocfmpbpoaaW.PrintWords Go.Proofs.YtjnkpocfmpbpoaaW.PrintLast Go.Proofs.YtjnkpocfmpbpoaaW.PrintMore Go.Proofs.Ytjnkpocfmpbpoaa.Ho
set_option linter.unusedVariables false
set_option linter.unusedSimpArgs false
/-! ### the document's sleepers, and one's own list -/
abbrev TOp := S80
abbrev ROp := S117
abbrev RSp := S39
def refO (o : TOp) : ROp := ⟨o.f0, o.f1⟩
def refSp (s : Sp) : RSp := ⟨s.f0, s.f1, s.f2, s.f3, s.f4.map refO⟩
theorem TRef_l (t : List TOp) (hm : t.length < 4398046511104) (d : Nat) : ∀ (k i : Nat), i ≤ t.length → t.length - i = d → d < k → handshakerlaw07_Ref.l0 k ((t.take i).map refO) t (t.length : Int) (i : Int) = some (t.map refO) := by
 induction d with
 | zero =>
  intro k i hi hd hk
  obtain ⟨k, rfl⟩ : ∃ m, k = m + 1 := ⟨k - 1, by omega⟩
  simp only [handshakerlaw07_Ref.l0]
  rw [if_neg (by omega), List.take_of_length_le (by omega)]
 | succ d ih =>
  intro k i hi hd hk
  obtain ⟨k, rfl⟩ : ∃ m, k = m + 1 := ⟨k - 1, by omega⟩
  have next := ih k (i + 1) (by omega) (by omega) (by omega)
  rw [take_snG t z80 i (by omega), List.map_append] at next
  simp only [handshakerlaw07_Ref.l0]
  rw [if_pos (by omega), if_pos (by omega), if_pos (by omega), if_pos (by rw [List.length_map, List.length_take]; omega), wrN (by omega), show rd_T80 t (i : Int) = t.getD i z80 from rfl]
  exact next
theorem SRef_f (k : Nat) (s : Sp) (hm : s.f4.length ≤ 1000) (hk : 1000 < k) : handshakerlaw15_Ref.f k s.f0 s.f1 s.f2 s.f3 s.f4 = some (s.f0, s.f1, s.f2, s.f3, s.f4.map refO) := by
 unfold handshakerlaw15_Ref.f handshakerlaw07_Ref.f
 have := TRef_l s.f4 (by omega) s.f4.length k 0 (by omega) (by omega) (by omega)
 have e : handshakerlaw07_Ref.l0 k ([] : List ROp) s.f4 (s.f4.length : Int) 0 = some (s.f4.map refO) := this
 rw [e]; rfl
theorem SRefs_l (l : List Sp) (hm : l.length < 1073741824) (ha : ∀ x ∈ l, x.f4.length ≤ 1000) (d : Nat) : ∀ (k i : Nat), i ≤ l.length → l.length - i = d → d + 1001 < k → handshakerlaw15_Refs.l0 k ((l.take i).map refSp) l (l.length : Int) (i : Int) = some (l.map refSp) := by
 induction d with
 | zero =>
  intro k i hi hd hk
  obtain ⟨k, rfl⟩ : ∃ m, k = m + 1 := ⟨k - 1, by omega⟩
  simp only [handshakerlaw15_Refs.l0]
  rw [if_neg (by omega), List.take_of_length_le (by omega)]
 | succ d ih =>
  intro k i hi hd hk
  obtain ⟨k, rfl⟩ : ∃ m, k = m + 1 := ⟨k - 1, by omega⟩
  have next := ih k (i + 1) (by omega) (by omega) (by omega)
  rw [take_snG l z26 i (by omega), List.map_append] at next
  have hmem := ha _ (getD_in l z26 i (by omega))
  simp only [handshakerlaw15_Refs.l0]
  rw [if_pos (by omega), if_pos (by omega), if_pos (by omega), show rd_T26 l (i : Int) = l.getD i z26 from rfl, SRef_f k _ hmem (by omega), Option.bind_some, if_pos (by rw [List.length_map, List.length_take]; omega), wrN (by omega)]
  exact next
theorem SRefs_f (k : Nat) (l : List Sp) (hm : l.length < 1073741824) (ha : ∀ x ∈ l, x.f4.length ≤ 1000) (hk : l.length + 1001 < k) : handshakerlaw15_Refs.f k l = some (l.map refSp) := by
 unfold handshakerlaw15_Refs.f
 exact SRefs_l l hm ha l.length k 0 (by omega) (by omega) (by omega)
theorem TSame_l (t : List ROp) (hm : t.length < 4398046511104) (d : Nat) : ∀ (k i : Nat), i ≤ t.length → t.length - i = d → d < k → handshakerref07_Same.l0 k t t (i : Int) = some true := by
 induction d with
 | zero =>
  intro k i hi hd hk
  obtain ⟨k, rfl⟩ : ∃ m, k = m + 1 := ⟨k - 1, by omega⟩
  simp only [handshakerref07_Same.l0]
  rw [if_neg (by omega)]
 | succ d ih =>
  intro k i hi hd hk
  obtain ⟨k, rfl⟩ : ∃ m, k = m + 1 := ⟨k - 1, by omega⟩
  simp only [handshakerref07_Same.l0]
  rw [if_pos (by omega), if_pos (by omega), if_pos (by omega), if_neg (by simp), wrN (by omega)]
  exact ih k (i + 1) (by omega) (by omega) (by omega)
theorem One2_l (a b c : Int) (w : List Wr) (t : List ROp) (hm : w.length < 4398046511104) (d : Nat) : ∀ (k i : Nat), i ≤ w.length → w.length - i = d → d < k → handshakerref15_One2.l0 k (i : Int) a b c w t a b c w t = some true := by
 induction d with
 | zero =>
  intro k i hi hd hk
  obtain ⟨k, rfl⟩ : ∃ m, k = m + 1 := ⟨k - 1, by omega⟩
  simp only [handshakerref15_One2.l0]
  rw [if_neg (by omega)]
 | succ d ih =>
  intro k i hi hd hk
  obtain ⟨k, rfl⟩ : ∃ m, k = m + 1 := ⟨k - 1, by omega⟩
  simp only [handshakerref15_One2.l0]
  rw [if_pos (by omega), if_pos (by omega), if_pos (by omega), if_neg (by simp), wrN (by omega)]
  exact ih k (i + 1) (by omega) (by omega) (by omega)
theorem One2_f (k : Nat) (a b c : Int) (w : List Wr) (t : List ROp) (hw : w.length ≤ 1000) (ht : t.length ≤ 1000) (hk : 1001 < k) : handshakerref15_One2.f k a b c w t a b c w t = some true := by
 obtain ⟨k, rfl⟩ : ∃ m, k = m + 1 := ⟨k - 1, by omega⟩
 unfold handshakerref15_One2.f handshakerref07_Same.f
 have h1 := TSame_l t (by omega) t.length (k + 1) 0 (by omega) (by omega) (by omega)
 rw [show ((0 : Nat) : Int) = 0 from rfl] at h1
 rw [if_pos rfl, h1, Option.bind_some, if_pos rfl, if_pos rfl, if_pos rfl, if_pos rfl, bne_self_eq_false]
 simp only [handshakerref15_One2.j0]
 rw [if_neg (by decide)]
 exact One2_l a b c w t (by omega) w.length k 0 (by omega) (by omega) (by omega)
theorem Same15_l (x : List RSp) (hm : x.length < 1073741824) (ha : ∀ s ∈ x, s.f3.length ≤ 1000 ∧ s.f4.length ≤ 1000) (d : Nat) : ∀ (k i : Nat), i ≤ x.length → x.length - i = d → d + 1002 < k → handshakerref15_Same.l0 k x x (i : Int) = some true := by
 induction d with
 | zero =>
  intro k i hi hd hk
  obtain ⟨k, rfl⟩ : ∃ m, k = m + 1 := ⟨k - 1, by omega⟩
  simp only [handshakerref15_Same.l0]
  rw [if_neg (by omega)]
 | succ d ih =>
  intro k i hi hd hk
  obtain ⟨k, rfl⟩ : ∃ m, k = m + 1 := ⟨k - 1, by omega⟩
  have hmem := ha _ (getD_in x z39 i (by omega))
  simp only [handshakerref15_Same.l0]
  rw [if_pos (by omega), if_pos (by omega), if_pos (by omega), show rd_T39 x (i : Int) = x.getD i z39 from rfl, One2_f k _ _ _ _ _ hmem.1 hmem.2 (by omega), Option.bind_some, if_pos rfl, wrN (by omega)]
  exact ih k (i + 1) (by omega) (by omega) (by omega)
theorem SameS_f (k : Nat) (l : List Sp) (h : FewS l) (hk : 1100 < k) : handshakerref15_Same.f k (l.map refSp) (l.map refSp) = some true := by
 unfold handshakerref15_Same.f
 rw [if_pos rfl]
 have hl := h.1
 have := Same15_l (l.map refSp) (by rw [List.length_map]; omega) (fun s hs => by
  obtain ⟨x, hx, rfl⟩ := List.mem_map.1 hs
  have := h.2 x hx
  show x.f3.length ≤ 1000 ∧ (x.f4.map refO).length ≤ 1000
  rw [List.length_map]; omega) (l.map refSp).length k 0 (by omega) (by omega) (by rw [List.length_map]; omega)
 exact this
theorem RefsF_f (k : Nat) (l : List Sp) (h : FewS l) (hk : 1100 < k) : handshakerlaw15_Refs.f k l = some (l.map refSp) :=
 SRefs_f k l (by have := h.1; omega) (fun x hx => by have := (h.2 x hx).2; omega) (by have := h.1; omega)
theorem CloneS_f (l : List Sp) (hl : l.length < 1073741824) : slices_Clone.f l = some l := by
 unfold slices_Clone.f
 simp only [Option.bind_some, List.length_nil, Nat.zero_add, List.nil_append]
 rw [if_pos (by omega)]
/-! one more -/
theorem cut_in {l : List Sp} (h : l.Pairwise Lt) {w : Int} {c i : Nat} (hc : Cut l w c) (hi : i < l.length) (e : (l.getD i z26).f0 = w) : c = i := by
 obtain ⟨h1, h2, h3⟩ := hc
 rcases Nat.lt_trichotomy c i with q | q | q
 · have := h3 c (Nat.le_refl _) (by omega)
   have := lt_at h c i q hi
   omega
 · exact q
 · have := h2 i q; omega
theorem mem_idx {l : List Sp} {x : Sp} (hx : x ∈ l) : ∃ i, i < l.length ∧ l.getD i z26 = x := by
 obtain ⟨i, hi, rfl⟩ := List.mem_iff_getElem.1 hx
 exact ⟨i, hi, by rw [List.getD_eq_getElem?_getD, List.getElem?_eq_getElem hi]; rfl⟩
theorem place_no (k : Nat) {l : List Sp} {w : Int} (hm : l.length < 1073741824) (h : l.Pairwise Lt) (hk : l.length + 1 < k) (hno : ∀ x ∈ l, x.f0 ≠ w) : ∃ c, Cut l w c ∧ sleep_place.f k l w = some ((c : Int), false) := by
 obtain ⟨c, hc, e⟩ := place_f k l w hm h hk
 refine ⟨c, hc, ?_⟩
 rw [e, decide_eq_false]
 intro g
 exact hno _ (getD_in l z26 c g.1) g.2
theorem place_yes (k : Nat) {l : List Sp} {i : Nat} (hm : l.length < 1073741824) (h : l.Pairwise Lt) (hk : l.length + 1 < k) (hi : i < l.length) : sleep_place.f k l (l.getD i z26).f0 = some ((i : Int), true) := by
 obtain ⟨c, hc, e⟩ := place_f k l (l.getD i z26).f0 hm h hk
 have := cut_in h hc hi rfl
 subst this
 rw [e, decide_eq_true ⟨hi, rfl⟩]
theorem ins_right {l : List Sp} {s : Sp} {c : Nat} (h : RS l) (hs : maySp s = true) (hc : Cut l s.f0 c) (hno : ∀ x ∈ l, x.f0 ≠ s.f0) : RS (l.take c ++ [s] ++ l.drop c) := by
 obtain ⟨h1, h2, h3⟩ := hc
 have hlo : ∀ x ∈ l.take c, x.f0 < s.f0 := fun x hx => by
  obtain ⟨m, hm, rfl⟩ := mem_takeG l z26 c x h1 hx
  exact h2 m hm
 have hhi : ∀ x ∈ l.drop c, s.f0 < x.f0 := fun x hx => by
  obtain ⟨m, hm, rfl⟩ := List.mem_iff_getElem.1 hx
  rw [List.length_drop] at hm
  have a := h3 (c + m) (by omega) (by omega)
  have b := hno _ (getD_in l z26 (c + m) (by omega))
  rw [List.getElem_drop]
  rw [List.getD_eq_getElem?_getD, List.getElem?_eq_getElem (by omega)] at a b
  have a' : s.f0 ≤ l[c + m].f0 := a
  have b' : l[c + m].f0 ≠ s.f0 := b
  omega
 refine ⟨fun x hx => ?_, ?_⟩
 · rcases List.mem_append.1 hx with hx | hx
   · rcases List.mem_append.1 hx with hx | hx
     · exact h.1 x (List.mem_of_mem_take hx)
     · rw [List.mem_singleton.1 hx]; exact hs
   · exact h.1 x (List.mem_of_mem_drop hx)
 · rw [List.pairwise_append, List.pairwise_append]
   refine ⟨⟨h.2.sublist (List.take_sublist _ _), List.pairwise_singleton _ _, fun x hx y hy => ?_⟩, h.2.sublist (List.drop_sublist _ _), fun x hx y hy => ?_⟩
   · rw [List.mem_singleton.1 hy]; exact hlo x hx
   · rcases List.mem_append.1 hx with hx | hx
     · exact Int.lt_trans (hlo x hx) (hhi y hy)
     · rw [List.mem_singleton.1 hx]; exact hhi y hy
theorem Add_f (k : Nat) (l : List Sp) (s : Sp) (hl : FewS l) (hs : s.f3.length ≤ 40) (hk : 1400 < k) :
 ∃ r e, sleep_Add.f k l s.f0 s.f1 s.f2 s.f3 s.f4 = some (r, e) ∧ ((e ≠ 0 ∧ r = l ∧ (RS l → maySp s = true → e = 9 ∧ ∃ x ∈ l, x.f0 = s.f0)) ∨ (e = 0 ∧ RS l ∧ maySp s = true ∧ (∀ x ∈ l, x.f0 ≠ s.f0) ∧ ∃ c, Cut l s.f0 c ∧ r = l.take c ++ [s] ++ l.drop c)) := by
 obtain ⟨k, rfl⟩ : ∃ m, k = m + 1 := ⟨k - 1, by omega⟩
 have hlen := hl.1
 unfold sleep_Add.f
 rw [RightF_f _ l hl (by omega), Option.bind_some]
 have bad : sleep_Add.j0 (k + 1) l true s.f0 s.f1 s.f2 s.f3 s.f4 = some (l, 1) := by
  simp only [sleep_Add.j0]; rw [if_pos trivial]
 by_cases hr : rightS l = true
 · have hR := (rightS_iff l).1 hr
   rw [if_pos hr, maySp_f _ s (by omega) (by omega), Option.bind_some]
   by_cases hm : maySp s = true
   · rw [show (!maySp s) = false by rw [hm]; rfl]
     simp only [sleep_Add.j0]
     rw [if_neg (show ¬ false = true by decide)]
     by_cases ht : ∃ x ∈ l, x.f0 = s.f0
     · obtain ⟨x, hx, ex⟩ := ht
       obtain ⟨i, hi, rfl⟩ := mem_idx hx
       rw [← ex, place_yes k (by omega) hR.2 (by omega) hi, Option.bind_some, if_pos rfl]
       exact ⟨_, _, rfl, .inl ⟨by decide, rfl, fun _ _ => ⟨rfl, _, hx, rfl⟩⟩⟩
     · have hno : ∀ x ∈ l, x.f0 ≠ s.f0 := fun x hx e => ht ⟨x, hx, e⟩
       obtain ⟨c, hc, e⟩ := place_no k (by omega) hR.2 (by omega) hno
       have hcl := hc.1
       rw [e, Option.bind_some, if_neg (show ¬ false = true by decide), CloneS_f l (by omega), Option.bind_some, Option.bind_some, if_pos (by omega), if_pos (by omega), if_pos (by simp; omega)]
       exact ⟨_, _, rfl, .inr ⟨rfl, hR, hm, hno, c, hc, rfl⟩⟩
   · rw [show (!maySp s) = true by rw [Bool.eq_false_iff.2 hm]; rfl]
     exact ⟨_, _, bad, .inl ⟨by decide, rfl, fun _ h => absurd h hm⟩⟩
 · rw [if_neg hr]
   exact ⟨_, _, bad, .inl ⟨by decide, rfl, fun h _ => absurd ((rightS_iff l).2 h) hr⟩⟩
end Go.Proofs.Ytjnkpocfmpbpoaa.Sa
