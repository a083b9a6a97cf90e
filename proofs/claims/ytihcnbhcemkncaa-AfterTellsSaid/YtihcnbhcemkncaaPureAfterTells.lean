/-
 PROVED: whether any are jobs, they with one more, who holds any cell, somebody's first one done, all done in any order, and what somebody sees, are what the document says, or refused. Condition: each argument is of its kind; nothing else.
-/
import Derived.Test.YtihcnbhcemkncaaBLem5
import Derived.Test.YtihcnbhcemkncaaBx8
import Derived.Test.YtihcnbhcemkncaaBx15
import Derived.Test.YtihcnbhcemkncaaBx16
namespace Go.Proofs.Ytihcnbhcemkncaa.B
open Go.RowKit Go.Proofs.YtihcnbhcemkncaaW.PrintWords Go.Proofs.YtihcnbhcemkncaaW.PrintLast Go.Proofs.YtihcnbhcemkncaaW.PrintMore Go.Proofs.Ytihcnbhcemkncaa.Ho
set_option linter.unusedVariables false
set_option linter.unusedSimpArgs false
/-! ### the stage's theorem -/
theorem RefL_f (k : Nat) (l : List Jb) (hl : l.length < 4398046511104) (ha : ∀ j ∈ l, j.f1.length ≤ 20) (hk : 30 * l.length < k) : handshakerlaw22_Refs.f k l = some (refL l) := Refs_f k l hl ha hk
theorem SameL_f (k : Nat) (l : List Jb) (hl : l.length ≤ 30) (ha : ∀ j ∈ l, j.f1.length ≤ 20) (hk : 1300 < k) : handshakerref22_Same.f k (refL l) (refL l) = some true := SameRefs_f k l hl ha hk
abbrev Few (l : List Jb) : Prop := l.length ≤ 30 ∧ ∀ j ∈ l, j.f1.length ≤ 20
theorem few_sub {l l' : List Jb} (h : Few l) (hs : l'.Sublist l) : Few l' := ⟨Nat.le_trans hs.length_le h.1, fun j hj => h.2 j (hs.subset hj)⟩
theorem few_defer {l : List Jb} {j : Jb} (h : Few l) (hj : j.f1.length ≤ 20) : Few (deferB l j).1 := by
 unfold deferB
 split
 · next hr =>
   split
   · exact h
   · split
     · exact h
     · next h6 =>
       have := ((rightJ_iff l).1 hr.1).1
       refine ⟨by show (l ++ [j]).length ≤ 30; rw [List.length_append]; simp; omega, fun x hx => ?_⟩
       rcases List.mem_append.1 hx with hx | hx
       · exact h.2 x hx
       · rw [List.mem_singleton.1 hx]; exact hj
 · exact h
theorem Tells_j1 (k : Nat) (hk : 1400 < k) (A : List Jb) (e : Int) (C : List Jb) (g : List Cl) (i : Int) (N : List Jb) (o : List Cl) (p : Int) (hA : Few A) (hC : Few C) (hN : Few N) (hg : g.length ≤ 80) (ho : o.length ≤ 80) :
 handshakerlaw22_AfterTells.j1 (k + 1) A e (refL A) e C g i (refL C) g i N o p (refL N) o p false = some true := by
 have h1 := hA.1
 have h2 := hC.1
 have h3 := hN.1
 simp only [handshakerlaw22_AfterTells.j1]
 rw [if_neg (by decide), RefL_f k A (by omega) hA.2 (by omega), Option.bind_some, SameL_f k A hA.1 hA.2 (by omega), Option.bind_some, if_pos rfl, if_pos trivial, RefL_f k C (by omega) hC.2 (by omega), Option.bind_some, SameL_f k C hC.1 hC.2 (by omega), Option.bind_some, if_pos rfl,
  Same_f k g (by omega) (by omega), Option.bind_some, if_pos rfl, if_pos trivial, RefL_f k N (by omega) hN.2 (by omega), Option.bind_some, SameL_f k N hN.1 hN.2 (by omega), Option.bind_some, if_pos rfl, Same_f k o (by omega) (by omega), Option.bind_some, if_pos rfl, if_pos trivial, awake22 k (by omega)]
 rfl
theorem Tells_j0 (k : Nat) (hk : 2000 < k) (l : List Jb) (x : Jb) (w c : Int) (h : List Cl) (os : List Int) (hl : Few l) (hx : x.f1.length ≤ 20) (hh : h.length ≤ 80) (ho : os.length ≤ 30) :
 handshakerlaw22_AfterTells.j0 (k + 2) l w c h os false x.f0 x.f1 = some true := by
 have h1 := hl.1
 have one : Few [x] := ⟨by simp, fun j hj => by rw [List.mem_singleton.1 hj]; exact hx⟩
 simp only [handshakerlaw22_AfterTells.j0]
 rw [if_neg (by decide), RefL_f (k + 1) l (by omega) hl.2 (by omega), Option.bind_some, Defer_f (k + 1) l x (by omega) (by omega), Option.bind_some, show ([(⟨x.f0, x.f1⟩ : Jb)] : List Jb) = [x] from rfl, RefL_f (k + 1) [x] (by simp) one.2 (by simp; omega), Option.bind_some,
  if_pos (by rw [ref_len]; simp), show rd_T39 (refL [x]) 0 = refJ x from rfl, rDefer_f (k + 1) l x hl.1 hl.2 hx (by omega), Option.bind_some, Do_f (k + 1) l w h (by omega) (by omega), Option.bind_some, rDo_f (k + 1) l w h hl.1 hl.2 hh (by omega), Option.bind_some,
  All_f (k + 1) l h os (by omega) (by omega) (by omega), Option.bind_some, rAll_f (k + 1) l h os ho hl.1 hl.2 hh (by omega), Option.bind_some, See_f (k + 1) l w h c (by omega) (by omega), Option.bind_some, rSee_f (k + 1) l w h c hl.1 hl.2 hh (by omega), Option.bind_some,
  RightJ_f (k + 1) l (by omega) (by omega), Option.bind_some, rRightJ_f (k + 1) l hl.1 hl.2 (by omega), Option.bind_some, Holder_f (k + 1) l c (by omega) (by omega), Option.bind_some, rHolder_f (k + 1) l c hl.1 hl.2 (by omega), Option.bind_some]
 have hb := allB_sub l h os
 have main := Tells_j1 k (by omega) (deferB l x).1 (deferB l x).2 (doB l w h).1 (doB l w h).2.1 (doB l w h).2.2 (allB l h os).1 (allB l h os).2.1 (allB l h os).2.2 (few_defer hl hx) (few_sub hl (doB_sub l w h)) (few_sub hl hb.1) (by rw [doB_heap]; exact hh) (by rw [hb.2]; exact hh)
 by_cases hr : rightJ l = true
 · rw [if_pos hr, if_pos hr, if_pos rfl, if_pos rfl, bne_self_eq_false]
   exact main
 · rw [if_neg hr, if_neg hr, if_pos rfl, if_pos rfl, bne_self_eq_false]
   exact main
theorem AfterTells : handshakerlaw22_AfterTells.Pure := by
 intro l0 x1 a2 a3 l4 l5 hl1 hl2 _ _ _ _ _ _ _ _ _ _
 refine ⟨l0.length + 3004, ?_⟩
 generalize hK : l0.length + 3004 = K
 unfold handshakerlaw22_AfterTells.f
 obtain ⟨b, hb, hb'⟩ := small22_f K l0 (by omega) (by omega)
 obtain ⟨c, hc, hc'⟩ := small22_f K [x1] (by simp) (by simp; omega)
 rw [hb, Option.bind_some]
 obtain ⟨K, rfl⟩ : ∃ m, K = m + 2 := ⟨K - 2, by omega⟩
 have aw : handshakerlaw22_AfterTells.j0 (K + 2) l0 a2 a3 l4 l5 true x1.f0 x1.f1 = some true := by
  simp only [handshakerlaw22_AfterTells.j0]
  rw [if_pos trivial, awake22 (K + 1) (by omega)]; rfl
 cases b with
 | false => rw [if_neg (by decide)]; exact aw
 | true =>
  rw [if_pos rfl, show ([(⟨x1.f0, x1.f1⟩ : Jb)] : List Jb) = [x1] from rfl, hc, Option.bind_some]
  cases c with
  | false => rw [if_neg (by decide)]; exact aw
  | true =>
   rw [if_pos rfl]
   by_cases h1 : (l4.length : Int) > 80
   · rw [if_pos h1]; exact aw
   rw [if_neg h1]
   by_cases h2 : (l5.length : Int) > 30
   · rw [decide_eq_true h2]; exact aw
   · rw [decide_eq_false h2]
     exact Tells_j0 K (by omega) l0 x1 a2 a3 l4 l5 (hb' rfl) ((hc' rfl).2 x1 (by simp)) (by omega) (by omega)
end Go.Proofs.Ytihcnbhcemkncaa.B
namespace Go.Proofs.Ytihcnbhcemkncaa.Pure
theorem AfterTells : Go.Proofs.Ytihcnbhcemkncaa.B.handshakerlaw22_AfterTells.Pure := Go.Proofs.Ytihcnbhcemkncaa.B.AfterTells
end Go.Proofs.Ytihcnbhcemkncaa.Pure
