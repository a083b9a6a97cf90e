/-
 PROVED: Plain lemmas on numbers and lists, of what the printed functions answer. No condition beside those of each lemma.
-/
import Derived.Test.YtjnkpocfmpbpoaaFLem3
import Derived.Test.YtjnkpocfmpbpoaaFx7
import Derived.Test.YtjnkpocfmpbpoaaFx12
namespace Go.Proofs.Ytjnkpocfmpbpoaa.F
open Go.RowKit Go.Proofs.YtjnkpocfmpbpoaaW.PrintWords Go.Proofs.YtjnkpocfmpbpoaaW.PrintLast Go.Proofs.YtjnkpocfmpbpoaaW.PrintMore Go.Proofs.Ytjnkpocfmpbpoaa.Ho
set_option linter.unusedVariables false
set_option linter.unusedSimpArgs false
theorem CloneS_f (l : List Sp) (hl : l.length < 1073741824) : slices_Clone_44.f l = some l := by
 unfold slices_Clone_44.f
 simp only [Option.bind_some, List.length_nil, Nat.zero_add, List.nil_append]
 rw [if_pos (by omega)]
theorem cut_in {l : List Sp} (h : l.Pairwise Lt) {w : Int} {c i : Nat} (hc : Cut l w c) (hi : i < l.length) (e : (l.getD i z26).f0 = w) : c = i := by
 obtain ⟨h1, h2, h3⟩ := hc
 rcases Nat.lt_trichotomy c i with q | q | q
 · have := h3 c (Nat.le_refl _) (by omega)
   have := lt_at h c i q hi
   omega
 · exact q
 · have := h2 i q; omega
theorem mem_idx {l : List Sp} {x : Sp} (hx : x ∈ l) : ∃ i, i < l.length ∧ l.getD i z26 = x := by
 obtain ⟨i, hi, rfl⟩ := List.mem_iff_getElem.1 hx
 exact ⟨i, hi, by rw [List.getD_eq_getElem?_getD, List.getElem?_eq_getElem hi]; rfl⟩
theorem place_no (k : Nat) {l : List Sp} {w : Int} (hm : l.length < 1073741824) (h : l.Pairwise Lt) (hk : l.length + 1 < k) (hno : ∀ x ∈ l, x.f0 ≠ w) : ∃ c, Cut l w c ∧ sleep_place.f k l w = some ((c : Int), false) := by
 obtain ⟨c, hc, e⟩ := place_f k l w hm h hk
 refine ⟨c, hc, ?_⟩
 rw [e, decide_eq_false]
 intro g
 exact hno _ (getD_in l z26 c g.1) g.2
theorem place_yes (k : Nat) {l : List Sp} {i : Nat} (hm : l.length < 1073741824) (h : l.Pairwise Lt) (hk : l.length + 1 < k) (hi : i < l.length) : sleep_place.f k l (l.getD i z26).f0 = some ((i : Int), true) := by
 obtain ⟨c, hc, e⟩ := place_f k l (l.getD i z26).f0 hm h hk
 have := cut_in h hc hi rfl
 subst this
 rw [e, decide_eq_true ⟨hi, rfl⟩]
theorem ins_right {l : List Sp} {s : Sp} {c : Nat} (h : RS l) (hs : maySp s = true) (hc : Cut l s.f0 c) (hno : ∀ x ∈ l, x.f0 ≠ s.f0) : RS (l.take c ++ [s] ++ l.drop c) := by
 obtain ⟨h1, h2, h3⟩ := hc
 have hlo : ∀ x ∈ l.take c, x.f0 < s.f0 := fun x hx => by
  obtain ⟨m, hm, rfl⟩ := mem_takeG l z26 c x h1 hx
  exact h2 m hm
 have hhi : ∀ x ∈ l.drop c, s.f0 < x.f0 := fun x hx => by
  obtain ⟨m, hm, rfl⟩ := List.mem_iff_getElem.1 hx
  rw [List.length_drop] at hm
  have a := h3 (c + m) (by omega) (by omega)
  have b := hno _ (getD_in l z26 (c + m) (by omega))
  rw [List.getElem_drop]
  rw [List.getD_eq_getElem?_getD, List.getElem?_eq_getElem (by omega)] at a b
  have a' : s.f0 ≤ l[c + m].f0 := a
  have b' : l[c + m].f0 ≠ s.f0 := b
  omega
 refine ⟨fun x hx => ?_, ?_⟩
 · rcases List.mem_append.1 hx with hx | hx
   · rcases List.mem_append.1 hx with hx | hx
     · exact h.1 x (List.mem_of_mem_take hx)
     · rw [List.mem_singleton.1 hx]; exact hs
   · exact h.1 x (List.mem_of_mem_drop hx)
 · rw [List.pairwise_append, List.pairwise_append]
   refine ⟨⟨h.2.sublist (List.take_sublist _ _), List.pairwise_singleton _ _, fun x hx y hy => ?_⟩, h.2.sublist (List.drop_sublist _ _), fun x hx y hy => ?_⟩
   · rw [List.mem_singleton.1 hy]; exact hlo x hx
   · rcases List.mem_append.1 hx with hx | hx
     · exact Int.lt_trans (hlo x hx) (hhi y hy)
     · rw [List.mem_singleton.1 hx]; exact hhi y hy
theorem Add_f (k : Nat) (l : List Sp) (s : Sp) (hl : FewS l) (hs : s.f3.length ≤ 40) (hk : 1400 < k) :
 ∃ r e, sleep_Add.f k l s.f0 s.f1 s.f2 s.f3 s.f4 = some (r, e) ∧ ((e ≠ 0 ∧ r = l ∧ (RS l → maySp s = true → e = 9 ∧ ∃ x ∈ l, x.f0 = s.f0)) ∨ (e = 0 ∧ RS l ∧ maySp s = true ∧ (∀ x ∈ l, x.f0 ≠ s.f0) ∧ ∃ c, Cut l s.f0 c ∧ r = l.take c ++ [s] ++ l.drop c)) := by
 obtain ⟨k, rfl⟩ : ∃ m, k = m + 1 := ⟨k - 1, by omega⟩
 have hlen := hl.1
 unfold sleep_Add.f
 rw [RightF_f _ l hl (by omega), Option.bind_some]
 have bad : sleep_Add.j0 (k + 1) l true s.f0 s.f1 s.f2 s.f3 s.f4 = some (l, 1) := by
  simp only [sleep_Add.j0]; rw [if_pos trivial]
 by_cases hr : rightS l = true
 · have hR := (rightS_iff l).1 hr
   rw [if_pos hr, maySp_f _ s (by omega) (by omega), Option.bind_some]
   by_cases hm : maySp s = true
   · rw [show (!maySp s) = false by rw [hm]; rfl]
     simp only [sleep_Add.j0]
     rw [if_neg (show ¬ false = true by decide)]
     by_cases ht : ∃ x ∈ l, x.f0 = s.f0
     · obtain ⟨x, hx, ex⟩ := ht
       obtain ⟨i, hi, rfl⟩ := mem_idx hx
       rw [← ex, place_yes k (by omega) hR.2 (by omega) hi, Option.bind_some, if_pos rfl]
       exact ⟨_, _, rfl, .inl ⟨by decide, rfl, fun _ _ => ⟨rfl, _, hx, rfl⟩⟩⟩
     · have hno : ∀ x ∈ l, x.f0 ≠ s.f0 := fun x hx e => ht ⟨x, hx, e⟩
       obtain ⟨c, hc, e⟩ := place_no k (by omega) hR.2 (by omega) hno
       have hcl := hc.1
       rw [e, Option.bind_some, if_neg (show ¬ false = true by decide), CloneS_f l (by omega), Option.bind_some, Option.bind_some, if_pos (by omega), if_pos (by omega), if_pos (by simp; omega)]
       exact ⟨_, _, rfl, .inr ⟨rfl, hR, hm, hno, c, hc, rfl⟩⟩
   · rw [show (!maySp s) = true by rw [Bool.eq_false_iff.2 hm]; rfl]
     exact ⟨_, _, bad, .inl ⟨by decide, rfl, fun _ h => absurd h hm⟩⟩
 · rw [if_neg hr]
   exact ⟨_, _, bad, .inl ⟨by decide, rfl, fun h _ => absurd ((rightS_iff l).2 h) hr⟩⟩
/-! ### found, and dropped -/
theorem Find_f (k : Nat) (l : List Sp) (hl : FewS l) (hR : RS l) (i : Nat) (hi : i < l.length) (hk : 1400 < k) :
 sleep_Find.f k l (l.getD i z26).f0 = some ((l.getD i z26).f0, (l.getD i z26).f1, (l.getD i z26).f2, (l.getD i z26).f3, (l.getD i z26).f4, 0) := by
 have hlen := hl.1
 unfold sleep_Find.f
 rw [RightF_f _ l hl (by omega), Option.bind_some, if_pos ((rightS_iff l).2 hR), place_yes k (by omega) hR.2 (by omega) hi, Option.bind_some, if_pos rfl, if_pos (by omega), if_pos (by omega)]
 rfl
def dropL (l : List Sp) : List Sp → List Int → List Sp × Int
 | x, [] => (x, 0)
 | x, w :: ws => if (x.any fun s => s.f0 == w) = true then dropL l (x.filter fun s => s.f0 != w) ws else (l, 3)
theorem erase_filter : ∀ (x : List Sp), x.Pairwise Lt → ∀ i, i < x.length → x.eraseIdx i = x.filter fun s => s.f0 != (x.getD i z26).f0
 | [], _, i, hi => absurd hi (by simp)
 | a :: t, h, 0, _ => by
  rw [List.pairwise_cons] at h
  show t = _
  rw [List.filter_cons, if_neg (by simp)]
  symm
  rw [List.filter_eq_self]
  intro y hy
  have := h.1 y hy
  have h2 : y.f0 ≠ a.f0 := fun e => by have : a.f0 < y.f0 := this; omega
  simpa using h2
 | a :: t, h, i + 1, hi => by
  rw [List.pairwise_cons] at h
  have hi' : i < t.length := by simpa using hi
  have e : (a :: t).getD (i + 1) z26 = t.getD i z26 := rfl
  rw [e, List.filter_cons, if_pos]
  · show a :: t.eraseIdx i = _
    rw [erase_filter t h.2 i hi']
  · have := h.1 _ (getD_in t z26 i hi')
    have h2 : a.f0 ≠ (t.getD i z26).f0 := fun e => by have : a.f0 < (t.getD i z26).f0 := this; omega
    simpa using h2
theorem few_subS {l l' : List Sp} (h : FewS l) (hs : l'.Sublist l) : FewS l' := ⟨Nat.le_trans hs.length_le h.1, fun x hx => h.2 x (hs.subset hx)⟩
theorem Drop_l (l : List Sp) (ws : List Int) (hm : ws.length < 1073741824) (d : Nat) : ∀ (k i : Nat) (x : List Sp), i ≤ ws.length → ws.length - i = d → d + 100 < k → FewS x → x.Pairwise Lt →
 sleep_Drop.l0 k l x ws (ws.length : Int) (i : Int) = some (dropL l x (ws.drop i)) := by
 induction d with
 | zero =>
  intro k i x hi hd hk hx hp
  obtain ⟨k, rfl⟩ : ∃ m, k = m + 1 := ⟨k - 1, by omega⟩
  simp only [sleep_Drop.l0]
  rw [if_neg (by omega), List.drop_of_length_le (by omega)]; rfl
 | succ d ih =>
  intro k i x hi hd hk hx hp
  obtain ⟨k, rfl⟩ : ∃ m, k = m + 1 := ⟨k - 1, by omega⟩
  have hlen := hx.1
  simp only [sleep_Drop.l0]
  rw [if_pos (by omega), if_pos (by omega), if_pos (by omega), drop_cons ws 0 i (by omega), show rd ws (i : Int) = ws.getD i 0 from rfl, wrN (by omega)]
  generalize ws.getD i 0 = w
  simp only [dropL]
  by_cases ha : (x.any fun s => s.f0 == w) = true
  · rw [if_pos ha]
    rw [List.any_eq_true] at ha
    obtain ⟨s, hs, es⟩ := ha
    obtain ⟨j, hj, rfl⟩ := mem_idx hs
    have es' : (x.getD j z26).f0 = w := by simpa using es
    rw [← es', place_yes k (by omega) hp (by omega) hj, Option.bind_some, if_pos rfl, if_pos (by omega), if_pos (by omega), show ((j : Int)).toNat = j from rfl, erase_filter x hp j hj]
    exact ih k (i + 1) _ (by omega) (by omega) (by omega) (few_subS hx List.filter_sublist) (hp.sublist List.filter_sublist)
  · rw [if_neg ha]
    have hno : ∀ s ∈ x, s.f0 ≠ w := fun s hs e => ha (List.any_eq_true.2 ⟨s, hs, by simpa using e⟩)
    obtain ⟨c, _, e⟩ := place_no k (by omega) hp (by omega) hno
    rw [e, Option.bind_some, if_neg (show ¬ false = true by decide)]
theorem Drop_f (k : Nat) (l : List Sp) (hl : FewS l) (hR : RS l) (ws : List Int) (hm : ws.length ≤ 100) (hk : 1400 < k) : sleep_Drop.f k l ws = some (dropL l l ws) := by
 have hlen := hl.1
 unfold sleep_Drop.f
 rw [CloneS_f l (by omega), Option.bind_some, RightF_f _ l hl (by omega), Option.bind_some, if_pos ((rightS_iff l).2 hR)]
 have := Drop_l l ws (by omega) ws.length k 0 l (by omega) (by omega) (by omega) hl hR.2
 exact this
end Go.Proofs.Ytjnkpocfmpbpoaa.F
