/-
 PROVED: Plain lemmas on numbers and lists, of what the printed functions answer. No condition beside those of each lemma.
-/
import Derived.Test.YtjnkpocfmpbpoaaFLem4
import Derived.Test.YtjnkpocfmpbpoaaFx8
import Derived.Test.YtjnkpocfmpbpoaaFx9
import Derived.Test.YtjnkpocfmpbpoaaFx10
import Derived.Test.YtjnkpocfmpbpoaaFx12
namespace Go.Proofs.Ytjnkpocfmpbpoaa.F
open Go.RowKit Go.Proofs.YtjnkpocfmpbpoaaW.PrintWords Go.Proofs.YtjnkpocfmpbpoaaW.PrintLast Go.Proofs.YtjnkpocfmpbpoaaW.PrintMore Go.Proofs.Ytjnkpocfmpbpoaa.Ho
set_option linter.unusedVariables false
set_option linter.unusedSimpArgs false
/-! ### who may go on -/
abbrev Cl := S98
def chgW (h : List Cl) (w : Wr) : Bool := if (getB h w.f0).2 = 0 then (getB h w.f0).1 != w.f1 else true
theorem changed_f (a b c : Int) (w : List Wr) (t : List S80) (h : List Cl) : filter_changed.f a b c w t h = some (w.any (chgW h)) := by
 unfold filter_changed.f any_at_filter_changed_1.f
 rw [anyF_T (f := fun x : Wr => filter_changed_1.f x.f0 x.f1 h) (p := chgW h) w (fun x _ => by
  unfold filter_changed_1.f chgW
  rw [Get_f, Option.bind_some]
  split <;> rfl)]
 rfl
def tellB (t : List S80) (h : List Cl) : Bool := if (evalB t h []).2 = 0 then (evalB t h []).1 != 0 else false
theorem holds_f (k : Nat) (a b c : Int) (w : List Wr) (t : List S80) (h : List Cl) (hk : 20 ≤ k) : filter_holds.f k a b c w t h = some (tellB t h) := by
 unfold filter_holds.f tellB
 rw [Eval_f k t h [] hk, Option.bind_some]
 split <;> rfl
def goB (s : Sp) (h : List Cl) : Bool := if s.f1 = 1 then true else if s.f1 = 2 then s.f3.any (chgW h) else tellB s.f4 h
def mayF (s : Sp) (h : List Cl) : Bool := maySp s && (RightB h && goB s h)
theorem maySp_mode {s : Sp} (h : maySp s = true) : s.f1 = 1 ∨ s.f1 = 2 ∨ s.f1 = 3 := by
 unfold maySp at h
 simp only [Bool.and_eq_true] at h
 obtain ⟨_, _, _, h⟩ := h
 by_cases e3 : s.f1 = 3
 · exact .inr (.inr e3)
 · rw [if_neg e3] at h
   by_cases e1 : s.f1 = 1
   · exact .inl e1
   · rw [if_neg e1] at h
     by_cases e2 : s.f1 = 2
     · exact .inr (.inl e2)
     · rw [if_neg e2] at h; exact absurd h (by decide)
theorem rightS_one (s : Sp) : rightS [s] = maySp s := by
 unfold rightS
 rw [Bool.eq_iff_iff, decide_eq_true_eq]
 exact ⟨fun h => h.1 s (by simp), fun h => ⟨fun x hx => by rw [List.mem_singleton.1 hx]; exact h, List.pairwise_singleton _ _⟩⟩
abbrev Few1 (s : Sp) : Prop := s.f3.length ≤ 40 ∧ s.f4.length ≤ 20
theorem May_f (k : Nat) (s : Sp) (h : List Cl) (hs : Few1 s) (hk : 1400 < k) : filter_May.f k s.f0 s.f1 s.f2 s.f3 s.f4 h = some (mayF s h) := by
 unfold filter_May.f mayF
 rw [show (⟨s.f0, s.f1, s.f2, s.f3, s.f4⟩ : Sp) = s from rfl, RightF_f k [s] ⟨by simp, fun x hx => by rw [List.mem_singleton.1 hx]; exact hs⟩ (by omega), Option.bind_some, rightS_one, Right_f, Option.bind_some]
 by_cases hm : maySp s = true
 · rw [if_pos hm, hm, Bool.true_and]
   by_cases hr : RightB h = true
   · rw [if_pos hr, hr, Bool.true_and]
     unfold goB
     by_cases e1 : s.f1 = 1
     · rw [if_pos e1, if_pos e1]; rfl
     · rw [if_neg e1, if_neg e1]
       by_cases e2 : s.f1 = 2
       · rw [if_pos e2, if_pos e2, changed_f]; rfl
       · have e3 : s.f1 = 3 := by rcases maySp_mode hm with e | e | e <;> first | exact e | exact absurd e e1 | exact absurd e e2
         rw [if_neg e2, if_neg e2, if_pos e3, holds_f k _ _ _ _ _ _ (by omega)]; rfl
   · rw [if_neg hr, Bool.eq_false_iff.2 hr]; rfl
 · rw [if_neg hm, Bool.eq_false_iff.2 hm]; rfl
theorem awake16 (k : Nat) (hk : 2100 ≤ k) : handshakerlaw16_awake.f k = some true :=
 at_rounds (g := handshakerlaw16_awake.f) handshakerlaw16_awake.mono (Nat.le_trans (by decide : 80 ≤ 2100) hk) (by decide +kernel)
end Go.Proofs.Ytjnkpocfmpbpoaa.F
