/-
 PROVED: locked twice is locked once, in two parts it is locked at once, and let twice is let once, for every table, number and two lists of cells. Condition: each argument is of its kind; nothing else.
-/
import Derived.Test.YtlfmobnmohnjmaaTLem
import Derived.Test.YtlfmobnmohnjmaaTx4
import Derived.Test.YtlfmobnmohnjmaaTx13
namespace Go.Proofs.Ytlfmobnmohnjmaa.T
open Go.RowKit Go.Proofs.YtlfmobnmohnjmaaW.PrintWords Go.Proofs.YtlfmobnmohnjmaaW.PrintLast Go.Proofs.YtlfmobnmohnjmaaW.PrintMore Go.Proofs.Ytlfmobnmohnjmaa.Ho
set_option linter.unusedVariables false
set_option linter.unusedSimpArgs false
theorem Again_j1 (x : List S67) (who : Int) (a : List Int) (e : Int) (k : Nat) (hx : x.length ≤ 16) (ha : a.length ≤ 30) (hr : rightT x = true) (hk : 200 < k) (hu : e = 0 → lockT x who a = (x, 0)) :
 handshakerlaw03_StripeAgain.j1 (k + 1) who a x e false = some true := by
 have aw : (handshakerlaw03_awake.f k).bind (fun t => some t) = some true := by rw [awake3 k (by omega)]; rfl
 have hll := letT_len x who
 have hll2 := letT_no (held_let hr who)
 simp only [handshakerlaw03_StripeAgain.j1]
 rw [if_neg (by decide), Lock_f k x who a (by omega) (by omega), Let_f k x who (by omega) (by omega)]
 simp only [Option.bind_some]
 rw [Let_f k (letT x who) who (by omega) (by omega), hll2]
 simp only [Option.bind_some]
 rw [SameT_f k (letT x who) (by omega) (by omega)]
 by_cases h : e = 0
 · rw [if_pos h, hu h]
   simp only [if_true]
   rw [SameT_f k x (by omega) (by omega)]
   simp only [Option.bind_some, if_true]; exact aw
 · rw [if_neg h]
   simp only [Option.bind_some, if_true]; exact aw
theorem StripeAgain : handshakerlaw03_StripeAgain.Pure := by
 intro t who a b _ _ _ _ _ _ _ _ _ _
 obtain ⟨K, hK⟩ : ∃ K, t.length + a.length + b.length + 900 = K := ⟨_, rfl⟩
 refine ⟨K + 2, ?_⟩
 have hj : handshakerlaw03_StripeAgain.j0 (K + 2) t who a b true = some true := by
  simp only [handshakerlaw03_StripeAgain.j0, if_true]; rw [awake3 _ (by omega)]; rfl
 unfold handshakerlaw03_StripeAgain.f
 by_cases h1 : (t.length : Int) > 16
 · rw [if_pos h1]; exact hj
 rw [if_neg h1]
 by_cases h2 : (a.length : Int) > 30
 · rw [if_pos h2]; exact hj
 rw [if_neg h2]
 by_cases h3 : (b.length : Int) > 30
 · rw [if_pos h3]; exact hj
 rw [if_neg h3, RightT_f]
 simp only [Option.bind_some]
 by_cases ht : ¬ rightT t = true
 · rw [show rightT t = false from by simpa using ht]; exact hj
 replace ht := Decidable.not_not.mp ht
 rw [ht]
 simp only [handshakerlaw03_StripeAgain.j0]
 rw [if_neg (by decide), Lock_f (K + 1) t who a (by omega) (by omega)]
 simp only [Option.bind_some, List.nil_append, List.length_nil]
 have hxl := lockT_len t who a
 have hxr := lockT_right ht who a
 rw [Lock_f (K + 1) _ who b (by omega) (by omega)]
 simp only [Option.bind_some]
 rw [if_pos (by omega), if_pos (by omega), Lock_f (K + 1) t who (a ++ b) (by rw [List.length_append]; omega) (by rw [List.length_append]; omega)]
 simp only [Option.bind_some]
 have hn : 1 ≤ t.length := (rightT_ok ht).1
 rcases lockT_cases t who a with ⟨e0, _, hw, ha, hfa, ex⟩ | ⟨e0, ex⟩
 · have hra := ofL_rng (n := t.length) (by omega) (negB_no ha)
   have hown := own_own who
   -- the same cells again
   have hu : lockT (lockT t who a).1 who a = ((lockT t who a).1, 0) := by
    rw [lockT_yes hxr hw ha (fun x hx => by
     rw [hxl] at hx
     rw [ex, free_upd (hra x hx) (fun _ => hfa x hx)]; exact hfa x hx), hxl]
    congr 1
    rw [ex, upd_upd _ hown]
    exact upd_ext _ _ _ _ fun i _ => by simp
   have key : (lockT (lockT t who a).1 who b).2 = 0 ↔ (lockT t who (a ++ b)).2 = 0 := by
    constructor
    · intro e
      rcases lockT_cases (lockT t who a).1 who b with ⟨_, _, _, hb, hfb, _⟩ | ⟨e', _⟩
      · rw [hxl] at hfb
        rw [lockT_yes ht hw (by rw [negB_app, ha, hb]; rfl) (fun x hx => by
         rcases (ofL_app _ _ _ x).1 hx with h | h
         · exact hfa x h
         · have h5 := hfb x h
           rw [ex, free_upd (ofL_rng (n := t.length) (by omega) (negB_no hb) x h) (fun hp => by
            rw [inL_iff] at hp
            have := (ofL_rng (n := t.length) (by omega) (negB_no hb) x h).1
            rw [show ((x.toNat : Nat) : Int) = x from by omega] at hp
            exact hfa x hp)] at h5
           exact h5)]
      · exact absurd e e'
    · intro e
      rcases lockT_cases t who (a ++ b) with ⟨_, _, _, hab, hfab, _⟩ | ⟨e', _⟩
      · rw [negB_app, ha, Bool.false_or] at hab
        rw [lockT_yes hxr hw hab (fun x hx => by
         rw [hxl] at hx
         have hg := ofL_rng (n := t.length) (by omega) (negB_no hab) x hx
         rw [ex, free_upd hg (fun hp => by
          rw [inL_iff] at hp
          rw [show ((x.toNat : Nat) : Int) = x from by omega] at hp
          exact hfa x hp)]
         exact hfab x ((ofL_app _ _ _ x).2 (.inr hx)))]
      · exact absurd e e'
   rw [if_pos e0]
   by_cases e1 : (lockT t who (a ++ b)).2 = 0
   · have e2 := key.2 e1
     rw [if_pos e1, if_pos e2]
     have same : (lockT (lockT t who a).1 who b).1 = (lockT t who (a ++ b)).1 := by
      rcases lockT_cases (lockT t who a).1 who b with ⟨_, _, _, hb, _, g⟩ | ⟨e', _⟩
      · rcases lockT_cases t who (a ++ b) with ⟨_, _, _, _, _, g2⟩ | ⟨e', _⟩
        · rw [g, g2, hxl, ex, upd_upd _ hown]
          refine upd_ext _ _ _ _ fun i _ => ?_
          rw [Bool.eq_iff_iff, Bool.or_eq_true, inL_iff, inL_iff, inL_iff, ofL_app]
        · exact absurd e1 e'
      · exact absurd e2 e'
     have hzl := lockT_len t who (a ++ b)
     rw [same, SameT_f (K + 1) _ (by omega) (by omega)]
     simp only [Option.bind_some]
     exact Again_j1 _ who a _ K (by omega) (by omega) hxr (by omega) (fun _ => hu)
   · rw [if_neg e1, if_neg (fun e => e1 (key.1 e))]
     exact Again_j1 _ who a _ K (by omega) (by omega) hxr (by omega) (fun _ => hu)
 · rw [if_neg e0, if_neg]
   · exact Again_j1 _ who a _ K (by omega) (by omega) hxr (by omega) (fun h => absurd h e0)
   · intro e
     apply e0
     rcases lockT_cases t who (a ++ b) with ⟨_, _, hw, hab, hfab, _⟩ | ⟨e', _⟩
     · rw [negB_app, Bool.or_eq_false_iff] at hab
       rw [lockT_yes ht hw hab.1 (fun x hx => hfab x ((ofL_app _ _ _ x).2 (.inl hx)))]
     · exact absurd e e'
end Go.Proofs.Ytlfmobnmohnjmaa.T
namespace Go.Proofs.Ytlfmobnmohnjmaa.Pure
theorem StripeAgain : Go.Proofs.Ytlfmobnmohnjmaa.T.handshakerlaw03_StripeAgain.Pure := Go.Proofs.Ytlfmobnmohnjmaa.T.StripeAgain
end Go.Proofs.Ytlfmobnmohnjmaa.Pure
