/-
 PROVED: who is woken by writes in two parts is woken by them at once, and who sleeps on is one; for all lists, heaps and writes. Condition: each argument is of its kind; nothing else.
-/
import Derived.Test.YtjnkpocfmpbpoaaFLem5
import Derived.Test.YtjnkpocfmpbpoaaFx17
import Derived.Test.YtjnkpocfmpbpoaaFx18
import Derived.Test.YtjnkpocfmpbpoaaFx19
import Derived.Test.YtjnkpocfmpbpoaaFx20
namespace Go.Proofs.Ytjnkpocfmpbpoaa.F
open Go.RowKit Go.Proofs.YtjnkpocfmpbpoaaW.PrintWords Go.Proofs.YtjnkpocfmpbpoaaW.PrintLast Go.Proofs.YtjnkpocfmpbpoaaW.PrintMore Go.Proofs.Ytjnkpocfmpbpoaa.Ho
set_option linter.unusedVariables false
set_option linter.unusedSimpArgs false
/-! ### the document's sleepers, and one's own list -/
abbrev TOp := S80
abbrev ROp := S117
abbrev RSp := S39
def refO (o : TOp) : ROp := ⟨o.f0, o.f1⟩
def refSp (s : Sp) : RSp := ⟨s.f0, s.f1, s.f2, s.f3, s.f4.map refO⟩
theorem TRef_l (t : List TOp) (hm : t.length < 4398046511104) (d : Nat) : ∀ (k i : Nat), i ≤ t.length → t.length - i = d → d < k → handshakerlaw07_Ref.l0 k ((t.take i).map refO) t (t.length : Int) (i : Int) = some (t.map refO) := by
 induction d with
 | zero =>
  intro k i hi hd hk
  obtain ⟨k, rfl⟩ : ∃ m, k = m + 1 := ⟨k - 1, by omega⟩
  simp only [handshakerlaw07_Ref.l0]
  rw [if_neg (by omega), List.take_of_length_le (by omega)]
 | succ d ih =>
  intro k i hi hd hk
  obtain ⟨k, rfl⟩ : ∃ m, k = m + 1 := ⟨k - 1, by omega⟩
  have next := ih k (i + 1) (by omega) (by omega) (by omega)
  rw [take_snG t z80 i (by omega), List.map_append] at next
  simp only [handshakerlaw07_Ref.l0]
  rw [if_pos (by omega), if_pos (by omega), if_pos (by omega), if_pos (by rw [List.length_map, List.length_take]; omega), wrN (by omega), show rd_T80 t (i : Int) = t.getD i z80 from rfl]
  exact next
theorem SRef_f (k : Nat) (s : Sp) (hm : s.f4.length ≤ 1000) (hk : 1000 < k) : handshakerlaw15_Ref.f k s.f0 s.f1 s.f2 s.f3 s.f4 = some (s.f0, s.f1, s.f2, s.f3, s.f4.map refO) := by
 unfold handshakerlaw15_Ref.f handshakerlaw07_Ref.f
 have := TRef_l s.f4 (by omega) s.f4.length k 0 (by omega) (by omega) (by omega)
 have e : handshakerlaw07_Ref.l0 k ([] : List ROp) s.f4 (s.f4.length : Int) 0 = some (s.f4.map refO) := this
 rw [e]; rfl
theorem SRefs_l (l : List Sp) (hm : l.length < 1073741824) (ha : ∀ x ∈ l, x.f4.length ≤ 1000) (d : Nat) : ∀ (k i : Nat), i ≤ l.length → l.length - i = d → d + 1001 < k → handshakerlaw15_Refs.l0 k ((l.take i).map refSp) l (l.length : Int) (i : Int) = some (l.map refSp) := by
 induction d with
 | zero =>
  intro k i hi hd hk
  obtain ⟨k, rfl⟩ : ∃ m, k = m + 1 := ⟨k - 1, by omega⟩
  simp only [handshakerlaw15_Refs.l0]
  rw [if_neg (by omega), List.take_of_length_le (by omega)]
 | succ d ih =>
  intro k i hi hd hk
  obtain ⟨k, rfl⟩ : ∃ m, k = m + 1 := ⟨k - 1, by omega⟩
  have next := ih k (i + 1) (by omega) (by omega) (by omega)
  rw [take_snG l z26 i (by omega), List.map_append] at next
  have hmem := ha _ (getD_in l z26 i (by omega))
  simp only [handshakerlaw15_Refs.l0]
  rw [if_pos (by omega), if_pos (by omega), if_pos (by omega), show rd_T26 l (i : Int) = l.getD i z26 from rfl, SRef_f k _ hmem (by omega), Option.bind_some, if_pos (by rw [List.length_map, List.length_take]; omega), wrN (by omega)]
  exact next
theorem SRefs_f (k : Nat) (l : List Sp) (hm : l.length < 1073741824) (ha : ∀ x ∈ l, x.f4.length ≤ 1000) (hk : l.length + 1001 < k) : handshakerlaw15_Refs.f k l = some (l.map refSp) := by
 unfold handshakerlaw15_Refs.f
 exact SRefs_l l hm ha l.length k 0 (by omega) (by omega) (by omega)
theorem TSame_l (t : List ROp) (hm : t.length < 4398046511104) (d : Nat) : ∀ (k i : Nat), i ≤ t.length → t.length - i = d → d < k → handshakerref07_Same.l0 k t t (i : Int) = some true := by
 induction d with
 | zero =>
  intro k i hi hd hk
  obtain ⟨k, rfl⟩ : ∃ m, k = m + 1 := ⟨k - 1, by omega⟩
  simp only [handshakerref07_Same.l0]
  rw [if_neg (by omega)]
 | succ d ih =>
  intro k i hi hd hk
  obtain ⟨k, rfl⟩ : ∃ m, k = m + 1 := ⟨k - 1, by omega⟩
  simp only [handshakerref07_Same.l0]
  rw [if_pos (by omega), if_pos (by omega), if_pos (by omega), if_neg (by simp), wrN (by omega)]
  exact ih k (i + 1) (by omega) (by omega) (by omega)
theorem One2_l (a b c : Int) (w : List Wr) (t : List ROp) (hm : w.length < 4398046511104) (d : Nat) : ∀ (k i : Nat), i ≤ w.length → w.length - i = d → d < k → handshakerref15_One2.l0 k (i : Int) a b c w t a b c w t = some true := by
 induction d with
 | zero =>
  intro k i hi hd hk
  obtain ⟨k, rfl⟩ : ∃ m, k = m + 1 := ⟨k - 1, by omega⟩
  simp only [handshakerref15_One2.l0]
  rw [if_neg (by omega)]
 | succ d ih =>
  intro k i hi hd hk
  obtain ⟨k, rfl⟩ : ∃ m, k = m + 1 := ⟨k - 1, by omega⟩
  simp only [handshakerref15_One2.l0]
  rw [if_pos (by omega), if_pos (by omega), if_pos (by omega), if_neg (by simp), wrN (by omega)]
  exact ih k (i + 1) (by omega) (by omega) (by omega)
theorem One2_f (k : Nat) (a b c : Int) (w : List Wr) (t : List ROp) (hw : w.length ≤ 1000) (ht : t.length ≤ 1000) (hk : 1001 < k) : handshakerref15_One2.f k a b c w t a b c w t = some true := by
 obtain ⟨k, rfl⟩ : ∃ m, k = m + 1 := ⟨k - 1, by omega⟩
 unfold handshakerref15_One2.f handshakerref07_Same.f
 have h1 := TSame_l t (by omega) t.length (k + 1) 0 (by omega) (by omega) (by omega)
 rw [show ((0 : Nat) : Int) = 0 from rfl] at h1
 rw [if_pos rfl, h1, Option.bind_some, if_pos rfl, if_pos rfl, if_pos rfl, if_pos rfl, bne_self_eq_false]
 simp only [handshakerref15_One2.j0]
 rw [if_neg (by decide)]
 exact One2_l a b c w t (by omega) w.length k 0 (by omega) (by omega) (by omega)
theorem Same15_l (x : List RSp) (hm : x.length < 1073741824) (ha : ∀ s ∈ x, s.f3.length ≤ 1000 ∧ s.f4.length ≤ 1000) (d : Nat) : ∀ (k i : Nat), i ≤ x.length → x.length - i = d → d + 1002 < k → handshakerref15_Same.l0 k x x (i : Int) = some true := by
 induction d with
 | zero =>
  intro k i hi hd hk
  obtain ⟨k, rfl⟩ : ∃ m, k = m + 1 := ⟨k - 1, by omega⟩
  simp only [handshakerref15_Same.l0]
  rw [if_neg (by omega)]
 | succ d ih =>
  intro k i hi hd hk
  obtain ⟨k, rfl⟩ : ∃ m, k = m + 1 := ⟨k - 1, by omega⟩
  have hmem := ha _ (getD_in x z39 i (by omega))
  simp only [handshakerref15_Same.l0]
  rw [if_pos (by omega), if_pos (by omega), if_pos (by omega), show rd_T39 x (i : Int) = x.getD i z39 from rfl, One2_f k _ _ _ _ _ hmem.1 hmem.2 (by omega), Option.bind_some, if_pos rfl, wrN (by omega)]
  exact ih k (i + 1) (by omega) (by omega) (by omega)
theorem SameS_f (k : Nat) (l : List Sp) (h : FewS l) (hk : 1100 < k) : handshakerref15_Same.f k (l.map refSp) (l.map refSp) = some true := by
 unfold handshakerref15_Same.f
 rw [if_pos rfl]
 have hl := h.1
 have := Same15_l (l.map refSp) (by rw [List.length_map]; omega) (fun s hs => by
  obtain ⟨x, hx, rfl⟩ := List.mem_map.1 hs
  have := h.2 x hx
  show x.f3.length ≤ 1000 ∧ (x.f4.map refO).length ≤ 1000
  rw [List.length_map]; omega) (l.map refSp).length k 0 (by omega) (by omega) (by rw [List.length_map]; omega)
 exact this
theorem RefsF_f (k : Nat) (l : List Sp) (h : FewS l) (hk : 1100 < k) : handshakerlaw15_Refs.f k l = some (l.map refSp) :=
 SRefs_f k l (by have := h.1; omega) (fun x hx => by have := (h.2 x hx).2; omega) (by have := h.1; omega)
/-! ### woken in two parts -/
theorem isOf_app (a b : List Wr) (s : Sp) : isOf ((a ++ b).map fun x => x.f0) s = (isOf (a.map fun x => x.f0) s || isOf (b.map fun x => x.f0) s) := by
 unfold isOf
 rw [Bool.eq_iff_iff, Bool.or_eq_true]
 simp only [List.any_eq_true, List.contains_iff_mem, List.map_append, List.mem_append]
 constructor
 · rintro ⟨x, hx, h | h⟩
   · exact .inl ⟨x, hx, h⟩
   · exact .inr ⟨x, hx, h⟩
 · rintro (⟨x, hx, h⟩ | ⟨x, hx, h⟩)
   · exact ⟨x, hx, .inl h⟩
   · exact ⟨x, hx, .inr h⟩
theorem wakes_app (a b : List Wr) (h : List Cl) (s : Sp) : wakes (a ++ b) h s = (wakes a h s || wakes b h s) := by
 unfold wakes
 rw [isOf_app]
 cases isOf (a.map fun x => x.f0) s <;> cases isOf (b.map fun x => x.f0) s <;> cases mayF s h <;> rfl
theorem filt_two (p q : Sp → Bool) : ∀ l : List Sp, (l.filter fun s => p s || q s).length = (l.filter p).length + ((l.filter fun s => !(p s)).filter q).length
 | [] => rfl
 | x :: l => by
  have ih := filt_two p q l
  simp only [List.filter_cons]
  cases hp : p x <;> cases hq : q x <;> simp only [Bool.or_true, Bool.or_false, Bool.or_self, Bool.not_true, Bool.not_false, Bool.false_eq_true, if_true, if_false, List.filter_cons, hq, List.length_cons] <;> omega
theorem FilterParts : handshakerlaw16_FilterParts.Pure := by
 intro l h a b hl hh ha hb
 intros
 refine ⟨l.length + 3004, ?_⟩
 generalize hK : l.length + 3004 = K
 unfold handshakerlaw16_FilterParts.f
 obtain ⟨c, hc, hc'⟩ := Small15_f K l (by omega) (by omega)
 rw [hc, Option.bind_some]
 obtain ⟨K, rfl⟩ : ∃ m, K = m + 1 := ⟨K - 1, by omega⟩
 have aw : handshakerlaw16_FilterParts.j0 (K + 1) l h a b true = some true := by
  simp only [handshakerlaw16_FilterParts.j0]
  rw [if_pos trivial, awake16 K (by omega)]; rfl
 by_cases h1 : c < 0
 · rw [if_pos h1]; exact aw
 rw [if_neg h1]
 by_cases h2 : (h.length : Int) > 80
 · rw [if_pos h2]; exact aw
 rw [if_neg h2]
 by_cases h3 : (a.length : Int) > 20
 · rw [if_pos h3]; exact aw
 rw [if_neg h3]
 by_cases h4 : (b.length : Int) > 20
 · rw [decide_eq_true h4]; exact aw
 rw [decide_eq_false h4]
 have q1 := (hc'.resolve_left h1).2
 have hF : FewS l := ⟨by omega, q1.2⟩
 have hab : (a ++ b).length ≤ 100 := by rw [List.length_append]; omega
 simp only [handshakerlaw16_FilterParts.j0]
 rw [if_neg (by decide)]
 rw [Option.bind_some, if_pos (show ([] : List Wr).length + a.length < 8796093022208 by rw [List.length_nil]; omega), Option.bind_some, if_pos (show (([] : List Wr) ++ a).length + b.length < 8796093022208 by rw [List.nil_append]; omega), List.nil_append, Wake_f K l h (a ++ b) hF hab (by omega), Option.bind_some, Wake_f K l h a hF (by omega) (by omega), Option.bind_some]
 dsimp only
 have hxF : FewS (wakeL l h a) := by
  unfold wakeL; split
  · exact few_subS hF List.filter_sublist
  · exact hF
 rw [Wake_f K _ h b hxF (by omega) (by omega), Option.bind_some]
 dsimp only
 have key : (wokenB l h a).length + (wokenB (wakeL l h a) h b).length = (wokenB l h (a ++ b)).length ∧ wakeL (wakeL l h a) h b = wakeL l h (a ++ b) := by
  by_cases hr : rightS l = true
  · have hR := (rightS_iff l).1 hr
    have hr2 : rightS (l.filter fun s => !(wakes a h s)) = true := (rightS_iff _).2 ⟨fun x hx => hR.1 x ((List.mem_filter.1 hx).1), hR.2.sublist List.filter_sublist⟩
    have e : wakes (a ++ b) h = fun s => wakes a h s || wakes b h s := funext fun s => wakes_app a b h s
    constructor
    · unfold wokenB wakeL
      rw [if_pos hr, if_pos hr, if_pos hr, if_pos hr2, List.length_map, List.length_map, List.length_map, e]
      exact (filt_two _ _ l).symm
    · unfold wakeL
      rw [if_pos hr, if_pos hr, if_pos hr2, List.filter_filter]
      apply List.filter_congr
      intro s _
      rw [wakes_app]
      cases wakes a h s <;> cases wakes b h s <;> rfl
  · constructor
    · unfold wokenB wakeL
      rw [if_neg hr, if_neg hr, if_neg hr, if_neg hr]; rfl
    · unfold wakeL
      rw [if_neg hr, if_neg hr, if_neg hr]
 have hy : (wokenB l h (a ++ b)).length ≤ 30 := by
  unfold wokenB; split
  · rw [List.length_map]; exact Nat.le_trans (List.length_filter_le _ _) hF.1
  · simp
 have hyF : FewS (wakeL l h (a ++ b)) := by
  unfold wakeL; split
  · exact few_subS hF List.filter_sublist
  · exact hF
 rw [if_pos (by rw [← key.1]; unfold wrap64; omega), key.2, RefsF_f K _ hyF (by omega), Option.bind_some, Option.bind_some, SameS_f K _ hyF (by omega), Option.bind_some, if_pos rfl, awake16 K (by omega)]
 rfl
end Go.Proofs.Ytjnkpocfmpbpoaa.F
namespace Go.Proofs.Ytjnkpocfmpbpoaa.Pure
theorem FilterParts : Go.Proofs.Ytjnkpocfmpbpoaa.F.handshakerlaw16_FilterParts.Pure := Go.Proofs.Ytjnkpocfmpbpoaa.F.FilterParts
end Go.Proofs.Ytjnkpocfmpbpoaa.Pure
