/-
 PROVED: Plain lemmas on numbers and lists, of what the printed functions answer. No condition beside those of each lemma.
-/
import Derived.Test.YtihcnbhcemkncaaBLem4
import Derived.Test.YtihcnbhcemkncaaBLem2
import Derived.Test.YtihcnbhcemkncaaBx13
import Derived.Test.YtihcnbhcemkncaaBx14
namespace Go.Proofs.Ytihcnbhcemkncaa.B
open Go.RowKit Go.Proofs.YtihcnbhcemkncaaW.PrintWords Go.Proofs.YtihcnbhcemkncaaW.PrintLast Go.Proofs.YtihcnbhcemkncaaW.PrintMore Go.Proofs.Ytihcnbhcemkncaa.Ho
set_option linter.unusedVariables false
set_option linter.unusedSimpArgs false
theorem rDo_l1 (l : List Jb) (h : List Cl) (n : Nat) (hn : n < l.length) (hm : l.length ≤ 30) (hh : h.length ≤ 80) (s : List Ac) (hs : (l.getD n z25).f1 = s) (hl : s.length ≤ 20) (hok : ∀ a ∈ s, okA a = true) (d : Nat) : ∀ (k i : Nat) (out : List Cl), i ≤ s.length → s.length - i = d → d + 1000 < k → RightB out = true → (∀ c, there out c = there h c) → out.length = h.length →
 handshakerref22_Do.l1 k (refL l) h (n : Int) out (i : Int) = some (cond ((s.drop i).all (fun a => there h a.f0)) (refL (l.eraseIdx n), (s.drop i).foldl actS out, 0) (refL l, h, 3)) := by
 have er : rd_T39 (refL l) (n : Int) = refJ (l.getD n z25) := ref_get l n hn
 have ef : (refJ (l.getD n z25)).f1 = s.map refA := by rw [← hs]; rfl
 induction d with
 | zero =>
  intro k i out hi hd hk hr ht hlen
  obtain ⟨k, rfl⟩ : ∃ m, k = m + 1 := ⟨k - 1, by omega⟩
  simp only [handshakerref22_Do.l1]
  rw [if_pos (by omega), if_pos (by rw [ref_len]; omega), er, ef, if_neg (by rw [refA_len]; omega), if_pos (by rw [ref_len]; omega), List.drop_of_length_le (l := s) (by omega), wrN (by omega), show ((n : Int)).toNat = n from rfl, ref_take, Option.bind_some,
   if_pos (by rw [ref_len, List.length_take, List.length_nil]; omega), List.nil_append, Option.bind_some, if_pos (by omega), if_pos (by rw [ref_len]; omega), Option.bind_some, show ((n + 1 : Nat) : Int).toNat = n + 1 from rfl,
   if_pos (by rw [ref_len, List.length_take, List.length_drop, ref_len]; omega), List.eraseIdx_eq_take_drop_succ]
  unfold refL
  rw [List.map_append, List.map_drop]
  rfl
 | succ d ih =>
  intro k i out hi hd hk hr ht hlen
  obtain ⟨k, rfl⟩ : ∃ m, k = m + 1 := ⟨k - 1, by omega⟩
  have hmem := hok _ (getD_in s z61 i (by omega))
  simp only [handshakerref22_Do.l1]
  rw [if_pos (by omega), if_pos (by rw [ref_len]; omega), er, ef, if_pos (by rw [refA_len]; omega), if_pos (by omega), show rd_T87 (s.map refA) (i : Int) = refA (s.getD i z61) from refA_get s i (by omega), drop_cons s z61 i (by omega), wrN (by omega)]
  generalize s.getD i z61 = a at *
  rw [show (refA a).f0 = a.f0 from rfl, show (refA a).f1 = a.f1 from rfl, show (refA a).f2 = a.f2 from rfl, rLive_f k out (by omega) (by omega), ht, Option.bind_some, List.all_cons, List.foldl_cons]
  by_cases ha : there h a.f0 = true
  · have ha' : there out a.f0 = true := by rw [ht]; exact ha
    have next := ih k (i + 1) (actS out a) (by omega) (by omega) (by omega) (right_act hr ha' hmem) (fun c => by rw [there_act ha', ht]) (by rw [act_len, hlen])
    rw [if_pos ha, ha, Bool.true_and]
    obtain ⟨t0, t1, _⟩ := there_rng ha'
    have hv := actV_in hmem (out.getD a.f0.toNat z66).f1
    have hp := put_one hr ha' hv
    have hc := (okC_iff _).1 ((Right_len hr).2.2 _ (getD_in out z66 a.f0.toNat (by omega)))
    have hc1 := (inR_iff _).1 hc.1
    have h3 := (inR_iff _).1 ((okA_iff a).1 hmem).2.2
    by_cases h2 : a.f1 = 2
    · rw [if_pos h2, if_pos t0, if_pos t1, show rd_T66 out a.f0 = out.getD a.f0.toNat z66 from rfl, wr (by omega) (by omega), rwrap_f (by omega) (by omega), Option.bind_some,
       show wrap32 ((out.getD a.f0.toNat z66).f1 + a.f2) = actV a (out.getD a.f0.toNat z66).f1 by unfold actV; rw [if_pos h2], rPut_f k out (by omega) _ (by simp) (by simp; omega), hp, Option.bind_some]
      exact next
    · rw [if_neg h2, show (⟨a.f0, a.f2⟩ : S77) = ⟨a.f0, actV a (out.getD a.f0.toNat z66).f1⟩ by unfold actV; rw [if_neg h2], rPut_f k out (by omega) _ (by simp) (by simp; omega), hp, Option.bind_some]
      exact next
  · rw [if_neg ha, Bool.eq_false_iff.2 ha, Bool.false_and]
    rfl
theorem rDo_l0 (l : List Jb) (w : Int) (h : List Cl) (hm : l.length ≤ 30) (hl : RJ l) (hh : h.length ≤ 80) (hr : RightB h = true) : ∀ (m k : Nat), m ≤ l.length → m + 1100 < k →
 handshakerref22_Do.l0 k (refL l) w h (idxT (fun x : Jb => x.f0 == w) (l.drop m) (m : Int)) ((m : Int) - 1) = some (refL (doB l w h).1, (doB l w h).2.1, (doB l w h).2.2) := by
 intro m
 induction m with
 | zero =>
  intro k hm' hk
  obtain ⟨k, rfl⟩ : ∃ q, k = q + 1 := ⟨k - 1, by omega⟩
  simp only [handshakerref22_Do.l0]
  rw [if_neg (by omega), List.drop_zero, show ((0 : Nat) : Int) = 0 from rfl]
  have hd : (rightJ l = true ∧ RightB h = true) := ⟨(rightJ_iff l).2 hl, hr⟩
  rcases cut_idx w l 0 with ⟨h1, h2⟩ | ⟨n, h1, h2, h3⟩
  · have e : doB l w h = (l, h, 3) := by unfold doB; rw [if_pos hd, h2]
    rw [h1, e, if_pos (by decide)]
  · have hj := (mayB_iff _).1 (hl.2.1 _ (getD_in l z25 n h1))
    have e : doB l w h = cond (doable h (l.getD n z25)) (l.eraseIdx n, jobS h (l.getD n z25), 0) (l, h, 3) := by
     unfold doB
     rw [if_pos hd, h3]
     dsimp only
     cases doable h (l.getD n z25) <;> rfl
    rw [h2, e, if_neg (by omega), show (0 : Int) + (n : Int) = (n : Int) by omega]
    have := rDo_l1 l h n h1 hm hh _ rfl (by omega) hj.2.2 (l.getD n z25).f1.length k 0 h (by omega) (by omega) (by omega) hr (fun _ => rfl) rfl
    rw [show ((0 : Nat) : Int) = 0 from rfl, List.drop_zero] at this
    rw [this]
    show some (cond (doable h (l.getD n z25)) _ _) = _
    cases doable h (l.getD n z25) <;> rfl
 | succ m ih =>
  intro k hm' hk
  obtain ⟨k, rfl⟩ : ∃ q, k = q + 1 := ⟨k - 1, by omega⟩
  have next := ih k (by omega) (by omega)
  have e1 : ((m + 1 : Nat) : Int) - 1 = (m : Int) := by omega
  simp only [handshakerref22_Do.l0]
  rw [e1, if_pos (by omega), if_pos (by omega), if_pos (by rw [ref_len]; omega), show rd_T39 (refL l) (m : Int) = refJ (l.getD m z25) from ref_get l m (by omega), wr (by omega) (by omega)]
  rw [drop_cons l z25 m (by omega)] at next
  generalize l.getD m z25 = j at *
  rw [show (refJ j).f0 = j.f0 from rfl]
  by_cases e : j.f0 = w
  · rw [if_pos e]
    rw [idxT_yes (by simp [e])] at next
    exact next
  · rw [if_neg e]
    rw [idxT_no (by simp [e])] at next
    exact next
theorem rDo_f (k : Nat) (l : List Jb) (w : Int) (h : List Cl) (hm : l.length ≤ 30) (ha : ∀ j ∈ l, j.f1.length ≤ 20) (hh : h.length ≤ 80) (hk : 1200 < k) : handshakerref22_Do.f k (refL l) w h = some (refL (doB l w h).1, (doB l w h).2.1, (doB l w h).2.2) := by
 obtain ⟨k, rfl⟩ : ∃ m, k = m + 1 := ⟨k - 1, by omega⟩
 unfold handshakerref22_Do.f
 rw [rRightJ_f _ l hm ha (by omega), rRight_f _ h (by omega) (by omega), Option.bind_some, Option.bind_some]
 have bad : ¬ (rightJ l = true ∧ RightB h = true) → doB l w h = (l, h, 1) := fun e => by unfold doB; rw [if_neg e]
 by_cases hr : rightJ l = true
 · rw [if_pos hr]
   simp only [handshakerref22_Do.j0]
   by_cases hb : RightB h = true
   · rw [if_neg (show ¬ (!RightB h) = true by rw [hb]; decide)]
     have := rDo_l0 l w h hm ((rightJ_iff l).1 hr) hh hb l.length k (Nat.le_refl _) (by omega)
     rw [List.drop_of_length_le (Nat.le_refl _)] at this
     rw [ref_len, wr (by omega) (by omega)]
     exact this
   · rw [if_pos (show (!RightB h) = true by rw [Bool.eq_false_iff.2 hb]; decide), bad (fun e => hb e.2)]
 · rw [if_neg hr, bad (fun e => hr e.1)]
   simp only [handshakerref22_Do.j0]
   rw [if_pos trivial]
theorem doB_sub (l : List Jb) (w : Int) (h : List Cl) : (doB l w h).1.Sublist l := by
 unfold doB
 split
 · split
   · exact List.Sublist.refl _
   · next p hp =>
     split
     · exact (cut_some (show cutJ l w = some (p.1, p.2) from hp)).2.2.1
     · exact List.Sublist.refl _
 · exact List.Sublist.refl _
theorem foldl_len : ∀ (s : List Ac) (h : List Cl), (s.foldl actS h).length = h.length
 | [], _ => rfl
 | a :: s, h => by rw [List.foldl_cons, foldl_len s, act_len]
theorem doB_heap (l : List Jb) (w : Int) (h : List Cl) : (doB l w h).2.1.length = h.length := by
 unfold doB
 split
 · split
   · rfl
   · split
     · exact foldl_len _ _
     · rfl
 · rfl
theorem rAll_l (l0 : List Jb) (h0 : List Cl) (os : List Int) (hm : os.length < 4398046511104) (hh : h0.length ≤ 80) (d : Nat) : ∀ (k i : Nat) (x : List Jb) (g : List Cl), i ≤ os.length → os.length - i = d → d + 1300 < k → x.length ≤ 30 → (∀ j ∈ x, j.f1.length ≤ 20) → g.length ≤ 80 →
 handshakerref22_All.l0 k (refL l0) h0 os (refL x) g (i : Int) = some (refL (allL l0 h0 (os.drop i) x g).1, (allL l0 h0 (os.drop i) x g).2.1, (allL l0 h0 (os.drop i) x g).2.2) := by
 induction d with
 | zero =>
  intro k i x g hi hd hk hx ha hg
  obtain ⟨k, rfl⟩ : ∃ m, k = m + 1 := ⟨k - 1, by omega⟩
  simp only [handshakerref22_All.l0]
  rw [if_neg (by omega), List.drop_of_length_le (by omega), ref_len]
  simp only [allL]
  by_cases h : x.length > 0
  · rw [if_neg (by omega), if_pos h]
  · rw [if_pos (by omega), if_neg h]
 | succ d ih =>
  intro k i x g hi hd hk hx ha hg
  obtain ⟨k, rfl⟩ : ∃ m, k = m + 1 := ⟨k - 1, by omega⟩
  have hs := doB_sub x (os.getD i 0) g
  have hlen := hs.length_le
  have hhp := doB_heap x (os.getD i 0) g
  have next := ih k (i + 1) (doB x (os.getD i 0) g).1 (doB x (os.getD i 0) g).2.1 (by omega) (by omega) (by omega) (by omega) (fun j hj => ha j (hs.subset hj)) (by omega)
  simp only [handshakerref22_All.l0]
  rw [if_pos (by omega), if_pos (by omega), drop_cons os 0 i (by omega), wrN (by omega), show rd os (i : Int) = os.getD i 0 from rfl, rDo_f k x _ g hx ha hg (by omega), Option.bind_some]
  simp only [allL]
  by_cases he : (doB x (os.getD i 0) g).2.2 = 0
  · rw [if_pos he, if_pos he]; exact next
  · rw [if_neg he, if_neg he]
theorem rAll_f (k : Nat) (l : List Jb) (h : List Cl) (os : List Int) (hm : os.length ≤ 30) (hl : l.length ≤ 30) (ha : ∀ j ∈ l, j.f1.length ≤ 20) (hh : h.length ≤ 80) (hk : 1400 < k) : handshakerref22_All.f k (refL l) h os = some (refL (allB l h os).1, (allB l h os).2.1, (allB l h os).2.2) := by
 obtain ⟨k, rfl⟩ : ∃ m, k = m + 1 := ⟨k - 1, by omega⟩
 unfold handshakerref22_All.f
 rw [rRightJ_f _ l hl ha (by omega), rRight_f _ h (by omega) (by omega), Option.bind_some, Option.bind_some]
 have bad : ¬ (rightJ l = true ∧ RightB h = true) → allB l h os = (l, h, 1) := fun e => by unfold allB; rw [if_neg e]
 by_cases hr : rightJ l = true
 · rw [if_pos hr]
   simp only [handshakerref22_All.j0]
   by_cases hb : RightB h = true
   · rw [if_neg (show ¬ (!RightB h) = true by rw [hb]; decide)]
     have := rAll_l l h os (by omega) hh os.length k 0 l h (by omega) (by omega) (by omega) hl ha hh
     rw [List.drop_zero] at this
     unfold allB
     rw [if_pos ⟨hr, hb⟩]
     exact this
   · rw [if_pos (show (!RightB h) = true by rw [Bool.eq_false_iff.2 hb]; decide), bad (fun e => hb e.2)]
 · rw [if_neg hr, bad (fun e => hr e.1)]
   simp only [handshakerref22_All.j0]
   rw [if_pos trivial]
theorem allL_sub (l0 : List Jb) (h0 : List Cl) : ∀ (os : List Int) (x : List Jb) (g : List Cl), x.Sublist l0 → g.length = h0.length → (allL l0 h0 os x g).1.Sublist l0 ∧ (allL l0 h0 os x g).2.1.length = h0.length
 | [], x, g, hx, hg => by
  simp only [allL]
  split
  · exact ⟨List.Sublist.refl _, rfl⟩
  · exact ⟨hx, hg⟩
 | w :: os, x, g, hx, hg => by
  simp only [allL]
  split
  · exact allL_sub l0 h0 os _ _ ((doB_sub x w g).trans hx) (by rw [doB_heap, hg])
  · exact ⟨List.Sublist.refl _, rfl⟩
theorem allB_sub (l : List Jb) (h : List Cl) (os : List Int) : (allB l h os).1.Sublist l ∧ (allB l h os).2.1.length = h.length := by
 unfold allB
 split
 · exact allL_sub l h os l h (List.Sublist.refl _) rfl
 · exact ⟨List.Sublist.refl _, rfl⟩
end Go.Proofs.Ytihcnbhcemkncaa.B
