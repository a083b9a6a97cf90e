/-
 PROVED: whoever is woken watches a cell that was written, and may go on; whoever sleeps on does not both; nobody is lost; for all lists, heaps and writes. Condition: each argument is of its kind; nothing else.
-/
import Derived.Test.YtjnkpocfmpbpoaaFLem5
import Derived.Test.YtjnkpocfmpbpoaaFx7
import Derived.Test.YtjnkpocfmpbpoaaFx8
import Derived.Test.YtjnkpocfmpbpoaaFx16
namespace Go.Proofs.Ytjnkpocfmpbpoaa.F
open Go.RowKit Go.Proofs.YtjnkpocfmpbpoaaW.PrintWords Go.Proofs.YtjnkpocfmpbpoaaW.PrintLast Go.Proofs.YtjnkpocfmpbpoaaW.PrintMore Go.Proofs.Ytjnkpocfmpbpoaa.Ho
set_option linter.unusedVariables false
set_option linter.unusedSimpArgs false
/-! ### who is woken, one by one -/
theorem Sure_l0 (l : List Sp) (h : List Cl) (o : List Sp) (a : List Int) (w : List Wr) (hw : w.length ≤ 100) (R : Option Bool) (B : Nat) (d : Nat) : ∀ (k i : Nat), i ≤ w.length → w.length - i = d → d + B < k →
 (∀ k', B ≤ k' → ((sleep_Of.f k' l (w.map fun x => x.f0)).bind fun t => handshakerlaw16_FilterSure.l1 k' l h o a t l (l.length : Int) 0) = R) →
 handshakerlaw16_FilterSure.l0 k l h o a ((w.take i).map fun x => x.f0) w (w.length : Int) (i : Int) = R := by
 induction d with
 | zero =>
  intro k i hi hd hk hc
  obtain ⟨k, rfl⟩ : ∃ m, k = m + 1 := ⟨k - 1, by omega⟩
  simp only [handshakerlaw16_FilterSure.l0]
  rw [if_neg (by omega), List.take_of_length_le (by omega)]
  exact hc k (by omega)
 | succ d ih =>
  intro k i hi hd hk hc
  obtain ⟨k, rfl⟩ : ∃ m, k = m + 1 := ⟨k - 1, by omega⟩
  have next := ih k (i + 1) (by omega) (by omega) (by omega) hc
  rw [take_snG w z62 i (by omega), List.map_append] at next
  simp only [handshakerlaw16_FilterSure.l0]
  rw [if_pos (by omega), if_pos (by omega), if_pos (by omega), if_pos (by rw [List.length_map, List.length_take]; omega), wrN (by omega), show rd_T62 w (i : Int) = w.getD i z62 from rfl]
  exact next
theorem Sure_l2 (l : List Sp) (h : List Cl) (o : List Sp) (a of : List Int) (i : Nat) (s : Sp) (n : Bool) (hm : of.length ≤ 100) (R : Option Bool) (B : Nat) (d : Nat) : ∀ (k j : Nat) (m : Bool), j ≤ of.length → of.length - j = d → d + B < k →
 (∀ k', B ≤ k' → handshakerlaw16_FilterSure.l3 k' l h o a of (m || (of.drop j).contains s.f0) n l (l.length : Int) (i : Int) a (a.length : Int) 0 s.f0 s.f1 s.f2 s.f3 s.f4 = R) →
 handshakerlaw16_FilterSure.l2 k l h o a of m n l (l.length : Int) (i : Int) of (of.length : Int) (j : Int) s.f0 s.f1 s.f2 s.f3 s.f4 = R := by
 induction d with
 | zero =>
  intro k j m hi hd hk hc
  obtain ⟨k, rfl⟩ : ∃ m, k = m + 1 := ⟨k - 1, by omega⟩
  have := hc k (by omega)
  rw [List.drop_of_length_le (by omega), List.contains_nil, Bool.or_false] at this
  simp only [handshakerlaw16_FilterSure.l2]
  rw [if_neg (by omega)]
  exact this
 | succ d ih =>
  intro k j m hi hd hk hc
  obtain ⟨k, rfl⟩ : ∃ m, k = m + 1 := ⟨k - 1, by omega⟩
  rw [drop_cons of 0 j (by omega), List.contains_cons, ← Bool.or_assoc] at hc
  simp only [handshakerlaw16_FilterSure.l2]
  rw [if_pos (by omega), if_pos (by omega), if_pos (by omega), show wrap64 ((j : Int) + 1) = ((j + 1 : Nat) : Int) from wrN (by omega), show rd of (j : Int) = of.getD j 0 from rfl]
  cases m with
  | true =>
   rw [if_pos rfl]
   exact ih k (j + 1) true (by omega) (by omega) (by omega) (fun k' hk' => by have := hc k' hk'; rwa [Bool.true_or] at this)
  | false =>
   rw [if_neg (by decide)]
   exact ih k (j + 1) _ (by omega) (by omega) (by omega) (fun k' hk' => by have := hc k' hk'; rwa [Bool.false_or, BEq.comm] at this)
theorem Sure_l3 (l : List Sp) (h : List Cl) (o : List Sp) (a of : List Int) (i : Nat) (s : Sp) (m : Bool) (hm : a.length ≤ 100) (R : Option Bool) (B : Nat) (d : Nat) : ∀ (k j : Nat) (n : Bool), j ≤ a.length → a.length - j = d → d + B < k →
 (∀ k', B ≤ k' → handshakerlaw16_FilterSure.l3 (k' + 1) l h o a of m (n || (a.drop j).contains s.f0) l (l.length : Int) (i : Int) a (a.length : Int) (a.length : Int) s.f0 s.f1 s.f2 s.f3 s.f4 = R) →
 handshakerlaw16_FilterSure.l3 k l h o a of m n l (l.length : Int) (i : Int) a (a.length : Int) (j : Int) s.f0 s.f1 s.f2 s.f3 s.f4 = R := by
 induction d with
 | zero =>
  intro k j n hi hd hk hc
  obtain ⟨k, rfl⟩ : ∃ m, k = m + 1 := ⟨k - 1, by omega⟩
  have := hc k (by omega)
  rw [List.drop_of_length_le (by omega), List.contains_nil, Bool.or_false] at this
  rw [show j = a.length by omega]
  exact this
 | succ d ih =>
  intro k j n hi hd hk hc
  obtain ⟨k, rfl⟩ : ∃ m, k = m + 1 := ⟨k - 1, by omega⟩
  rw [drop_cons a 0 j (by omega), List.contains_cons, ← Bool.or_assoc] at hc
  simp only [handshakerlaw16_FilterSure.l3]
  rw [if_pos (by omega), if_pos (by omega), if_pos (by omega), show wrap64 ((j : Int) + 1) = ((j + 1 : Nat) : Int) from wrN (by omega), show rd a (j : Int) = a.getD j 0 from rfl]
  cases n with
  | true =>
   rw [if_pos rfl]
   exact ih k (j + 1) true (by omega) (by omega) (by omega) (fun k' hk' => by have := hc k' hk'; rwa [Bool.true_or] at this)
  | false =>
   rw [if_neg (by decide)]
   exact ih k (j + 1) _ (by omega) (by omega) (by omega) (fun k' hk' => by have := hc k' hk'; rwa [Bool.false_or, BEq.comm] at this)
theorem Find_no (k : Nat) (l : List Sp) (hl : FewS l) (hR : RS l) (w : Int) (hno : ∀ x ∈ l, x.f0 ≠ w) (hk : 1400 < k) : sleep_Find.f k l w = some (0, 0, 0, [], [], 3) := by
 have hlen := hl.1
 obtain ⟨c, _, e⟩ := place_no k (w := w) (by omega) hR.2 (by omega) hno
 unfold sleep_Find.f
 rw [RightF_f _ l hl (by omega), Option.bind_some, if_pos ((rightS_iff l).2 hR), e, Option.bind_some]
 rfl
theorem filt_not (p : Sp → Bool) : ∀ l : List Sp, (l.filter fun s => !(p s)).length + (l.filter p).length = l.length
 | [] => rfl
 | x :: l => by
  have ih := filt_not p l
  simp only [List.filter_cons]
  cases hp : p x <;> simp <;> omega
theorem Sure_l1 (l : List Sp) (h : List Cl) (w : List Wr) (hF : FewS l) (hR : RS l) (d : Nat) : ∀ (k i : Nat), i ≤ l.length → l.length - i = d → 100 * d + 2500 < k →
 handshakerlaw16_FilterSure.l1 k l h (l.filter fun s => !(wakes w h s)) ((l.filter (wakes w h)).map fun s => s.f0) ((l.filter (isOf (w.map fun x => x.f0))).map fun s => s.f0) l (l.length : Int) (i : Int) = some true := by
 have hlen := hF.1
 have hnot := filt_not (wakes w h) l
 have hlo := List.length_filter_le (isOf (w.map fun x => x.f0)) l
 have hlw := List.length_filter_le (wakes w h) l
 induction d with
 | zero =>
  intro k i hi hd hk
  obtain ⟨k, rfl⟩ : ∃ m, k = m + 1 := ⟨k - 1, by omega⟩
  simp only [handshakerlaw16_FilterSure.l1]
  rw [if_neg (by omega), if_pos (by rw [List.length_map, show (((l.filter fun s => !(wakes w h s)).length : Int) + ((l.filter (wakes w h)).length : Int)) = (l.length : Int) by omega]; unfold wrap64; omega), awake16 k (by omega)]
  rfl
 | succ d ih =>
  intro k i hi hd hk
  obtain ⟨k, rfl⟩ : ∃ m, k = m + 1 := ⟨k - 1, by omega⟩
  have hmem := getD_in l z26 i (by omega)
  simp only [handshakerlaw16_FilterSure.l1]
  rw [if_pos (by omega), if_pos (by omega), if_pos (by omega), show rd_T26 l (i : Int) = l.getD i z26 from rfl]
  have nx : ∀ k', 100 * d + 2501 ≤ k' → handshakerlaw16_FilterSure.l1 k' l h (l.filter fun s => !(wakes w h s)) ((l.filter (wakes w h)).map fun s => s.f0) ((l.filter (isOf (w.map fun x => x.f0))).map fun s => s.f0) l (l.length : Int) (wrap64 ((i : Int) + 1)) = some true := fun k' hk' => by
   rw [wrN (by omega)]
   exact ih k' (i + 1) (by omega) (by omega) (by omega)
  generalize l.getD i z26 = s at *
  obtain ⟨B2, hB2⟩ : ∃ B, B = 100 * d + 2550 := ⟨_, rfl⟩
  obtain ⟨B3, hB3⟩ : ∃ B, B = 100 * d + 2510 := ⟨_, rfl⟩
  have hlo2 : ((l.filter (isOf (w.map fun x => x.f0))).map fun s => s.f0).length ≤ 30 := by rw [List.length_map]; omega
  have hlw2 : ((l.filter (wakes w h)).map fun s => s.f0).length ≤ 30 := by rw [List.length_map]; omega
  refine Sure_l2 l h _ _ _ i s false (by omega) _ B2 _ k 0 false (Nat.zero_le _) (Nat.sub_zero _) (by omega) (fun k' hk' => ?_)
  rw [Bool.false_or, List.drop_zero, who_in hR.2 _ hmem]
  refine Sure_l3 l h _ _ _ i s _ (by omega) _ B3 _ k' 0 false (Nat.zero_le _) (Nat.sub_zero _) (by omega) (fun k' hk' => ?_)
  rw [Bool.false_or, List.drop_zero, who_in hR.2 _ hmem]
  simp only [handshakerlaw16_FilterSure.l3]
  rw [if_neg (by omega)]
  have hFo : FewS (l.filter fun s => !(wakes w h s)) := few_subS hF List.filter_sublist
  have hRo : RS (l.filter fun s => !(wakes w h s)) := ⟨fun x hx => hR.1 x ((List.mem_filter.1 hx).1), hR.2.sublist List.filter_sublist⟩
  have hfind : ∃ r, sleep_Find.f k' (l.filter fun s => !(wakes w h s)) s.f0 = some r ∧ (r.2.2.2.2.2 = 0 ↔ wakes w h s = false) := by
   by_cases g : wakes w h s = true
   · refine ⟨_, Find_no k' _ hFo hRo s.f0 (fun x hx e => ?_) (by omega), by rw [g]; simp⟩
     have := uniq hR.2 ((List.mem_filter.1 hx).1) hmem e
     rw [this] at hx
     have := (List.mem_filter.1 hx).2
     rw [g] at this
     exact absurd this (by decide)
   · have hin : s ∈ l.filter fun s => !(wakes w h s) := List.mem_filter.2 ⟨hmem, by rw [Bool.eq_false_iff.2 g]; rfl⟩
     obtain ⟨j, hj, e⟩ := mem_idx hin
     have := Find_f k' _ hFo hRo j hj (by omega)
     rw [e] at this
     exact ⟨_, this, by rw [Bool.eq_false_iff.2 g]; simp⟩
  obtain ⟨r, hr, hrw⟩ := hfind
  rw [hr, Option.bind_some]
  have next := nx k' (by omega)
  have hws : wakes w h s = (isOf (w.map fun x => x.f0) s && mayF s h) := rfl
  cases ho : isOf (w.map fun x => x.f0) s with
  | true =>
   rw [if_pos rfl, May_f k' s h (hF.2 s hmem) (by omega), Option.bind_some]
   rw [ho, Bool.true_and] at hws
   cases hm : mayF s h with
   | true =>
    rw [hm] at hws
    rw [hws] at hrw ⊢
    rw [if_pos rfl, if_pos rfl, if_neg (fun e => absurd (hrw.1 e) (by decide))]
    exact next
   | false =>
    rw [hm] at hws
    rw [hws] at hrw ⊢
    rw [if_neg (by decide), if_neg (by decide), if_pos (hrw.2 rfl)]
    exact next
  | false =>
   rw [ho, Bool.false_and] at hws
   rw [hws] at hrw ⊢
   rw [if_neg (by decide), if_neg (by decide), if_pos (hrw.2 rfl)]
   exact next
theorem FilterSure : handshakerlaw16_FilterSure.Pure := by
 intro l h w hl
 intros
 refine ⟨l.length + 6004, ?_⟩
 generalize hK : l.length + 6004 = K
 unfold handshakerlaw16_FilterSure.f
 obtain ⟨c, hc, hc'⟩ := Small15_f K l (by omega) (by omega)
 rw [hc, Option.bind_some]
 obtain ⟨K, rfl⟩ : ∃ m, K = m + 1 := ⟨K - 1, by omega⟩
 have aw : handshakerlaw16_FilterSure.j0 (K + 1) l h w true = some true := by
  simp only [handshakerlaw16_FilterSure.j0]
  rw [if_pos trivial, awake16 K (by omega)]; rfl
 by_cases h1 : c < 0
 · rw [if_pos h1]; exact aw
 rw [if_neg h1]
 by_cases h2 : (h.length : Int) > 80
 · rw [if_pos h2]; exact aw
 rw [if_neg h2]
 by_cases h3 : (w.length : Int) > 40
 · rw [if_pos h3]; exact aw
 rw [if_neg h3]
 have q1 := (hc'.resolve_left h1).2
 have hF : FewS l := ⟨by omega, q1.2⟩
 have hlen := hF.1
 rw [RightF_f _ l hF (by omega), Option.bind_some]
 by_cases hr : rightS l = true
 · have hR := (rightS_iff l).1 hr
   rw [hr]
   simp only [handshakerlaw16_FilterSure.j0]
   rw [if_neg (by decide), Wake_f K l h w hF (by omega) (by omega), Option.bind_some]
   unfold wakeL wokenB
   rw [if_pos hr, if_pos hr]
   refine Sure_l0 l h _ _ w (by omega) _ 5000 w.length K 0 (by omega) (by omega) (by omega) (fun k' hk' => ?_)
   rw [Of_f k' l _ hF hR (by rw [List.length_map]; omega) (by omega), Option.bind_some]
   exact Sure_l1 l h w hF hR l.length k' 0 (by omega) (by omega) (by omega)
 · rw [Bool.eq_false_iff.2 hr]
   exact aw
end Go.Proofs.Ytjnkpocfmpbpoaa.F
namespace Go.Proofs.Ytjnkpocfmpbpoaa.Pure
theorem FilterSure : Go.Proofs.Ytjnkpocfmpbpoaa.F.handshakerlaw16_FilterSure.Pure := Go.Proofs.Ytjnkpocfmpbpoaa.F.FilterSure
end Go.Proofs.Ytjnkpocfmpbpoaa.Pure
