/-
  PROVED: a read that is added is found, and added again changes nothing, for every list of reads, read and number. Condition: each argument is of its kind; nothing else.
-/
import Derived.Test.YtlfmobnmohnjmaaRLem
import Derived.Test.YtlfmobnmohnjmaaRRef
import Derived.Test.YtlfmobnmohnjmaaRMore
import Derived.Test.YtlfmobnmohnjmaaRx5
import Derived.Test.YtlfmobnmohnjmaaRx15
namespace Go.Proofs.Ytlfmobnmohnjmaa.R
open Go.RowKit Go.Proofs.YtlfmobnmohnjmaaW.PrintWords Go.Proofs.YtlfmobnmohnjmaaW.PrintLast Go.Proofs.YtlfmobnmohnjmaaW.PrintMore Go.Proofs.Ytlfmobnmohnjmaa.Ho
set_option linter.unusedVariables false
set_option linter.unusedSimpArgs false
theorem ReadsAgain : handshakerlaw05_ReadsAgain.Pure := by
  intro l a c hml hb _ _ _
  obtain ⟨K, hK⟩ : ∃ K, l.length + 6000 = K := ⟨_, rfl⟩
  refine ⟨K, ?_⟩
  have aw : (handshakerlaw05_awake.f K).bind (fun t => some t) = some true := by rw [awake5 K (by omega)]; rfl
  unfold handshakerlaw05_ReadsAgain.f
  by_cases h1 : (l.length : Int) > 24
  · rw [if_pos h1]; exact aw
  rw [if_neg h1, AddR_f K l a (by omega) (by omega)]
  simp only [Option.bind_some]
  have hlen : (addR l a).1.length ≤ 25 := by
    rcases addR_cases l a with ⟨_, _, _, ⟨_, _, _, _, h⟩ | ⟨_, _, h⟩⟩ | ⟨_, h⟩ <;> rw [h]
    · omega
    · simp; omega
    · omega
  rcases (addR_cases l a).symm with ⟨e0, h⟩ | ⟨e0, hr, ho, hc⟩
  · rw [if_neg e0, h, SameR_f K l (by omega) (by omega)]
    simp only [Option.bind_some, if_true]; exact aw
  rw [if_pos e0]
  have key : rightR (addR l a).1 = true ∧ (∃ i, i < (addR l a).1.length ∧ (addR l a).1.getD i z24 = a) ∧ ((findR l c).2.2.2 = true → findR (addR l a).1 c = findR l c) ∧ ((findR l c).2.2.2 = false → c ≠ a.f0 → (findR (addR l a).1 c).2.2.2 = false) := by
    rcases hc with ⟨i, hi, e1, e2, e3⟩ | ⟨e1, e2, e3⟩
    · rw [e3]; exact ⟨hr, ⟨i, hi, e2⟩, fun _ => rfl, fun h _ => h⟩
    · rw [e3]
      have hra := right_app hr ho e1 e2
      obtain ⟨f1, f2⟩ := findR_app hr hra c
      exact ⟨hra, ⟨l.length, by simp, by simp⟩, f1, f2⟩
  generalize (addR l a).1 = m at *
  obtain ⟨hrm, ⟨i, hi, ei⟩, f1, f2⟩ := key
  rw [AddR_f K m a (by omega) (by omega), FindR_f K m _ (by omega) (by omega), FindR_f K l c (by omega) (by omega), FindR_f K m c (by omega) (by omega), addR_has hrm ho i hi ei, findR_has hrm i hi a.f0 (by rw [ei]), ei, RightR_f K m (by omega) (by omega), hrm]
  simp only [Option.bind_some, if_true]
  rw [SameR_f K m (by omega) (by omega)]
  simp only [Option.bind_some, if_true, BEq.rfl, Bool.and_self]
  cases hq : (findR l c).2.2.2 with
  | true =>
    rw [f1 hq, hq]
    simp only [if_true, BEq.rfl, Bool.and_self]; exact aw
  | false =>
    simp only [Bool.false_eq_true, if_false]
    by_cases e : c = a.f0
    · rw [if_pos e]
      split <;> exact aw
    · rw [f2 hq e]
      simp only [Bool.false_eq_true, if_false]; exact aw
end Go.Proofs.Ytlfmobnmohnjmaa.R
namespace Go.Proofs.Ytlfmobnmohnjmaa.Pure
theorem ReadsAgain : Go.Proofs.Ytlfmobnmohnjmaa.R.handshakerlaw05_ReadsAgain.Pure := Go.Proofs.Ytlfmobnmohnjmaa.R.ReadsAgain
end Go.Proofs.Ytlfmobnmohnjmaa.Pure
