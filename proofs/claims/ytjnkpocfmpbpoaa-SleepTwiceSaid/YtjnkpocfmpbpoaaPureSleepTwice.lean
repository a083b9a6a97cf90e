/-
 PROVED: who sleeps is found, and does not sleep twice; dropped, all others stay as they were; for every list and sleeper. Condition: each argument is of its kind; nothing else.
-/
import Derived.Test.YtjnkpocfmpbpoaaSaLem5
import Derived.Test.YtjnkpocfmpbpoaaSax14
namespace Go.Proofs.Ytjnkpocfmpbpoaa.Sa
open Go.RowKit Go.Proofs.YtjnkpocfmpbpoaaW.PrintWords Go.Proofs.YtjnkpocfmpbpoaaW.PrintLast Go.Proofs.YtjnkpocfmpbpoaaW.PrintMore Go.Proofs.Ytjnkpocfmpbpoaa.Ho
set_option linter.unusedVariables false
set_option linter.unusedSimpArgs false
theorem ins_at {l : List Sp} {s : Sp} {c : Nat} (hc : c ≤ l.length) : c < (l.take c ++ [s] ++ l.drop c).length ∧ (l.take c ++ [s] ++ l.drop c).getD c z26 = s := by
 have h : (l.take c).length = c := by rw [List.length_take]; omega
 refine ⟨by simp; omega, ?_⟩
 rw [List.getD_eq_getElem?_getD, List.append_assoc, List.getElem?_append_right (by omega), h, Nat.sub_self]; rfl
theorem ins_mem {l : List Sp} {s : Sp} {c : Nat} (x : Sp) : x ∈ l.take c ++ [s] ++ l.drop c ↔ x = s ∨ x ∈ l := by
 rw [List.mem_append, List.mem_append, List.mem_singleton]
 constructor
 · rintro ((h | h) | h)
   · exact .inr (List.mem_of_mem_take h)
   · exact .inl h
   · exact .inr (List.mem_of_mem_drop h)
 · rintro (h | h)
   · exact .inl (.inr h)
   · rw [← List.take_append_drop c l] at h
     rcases List.mem_append.1 h with h | h
     · exact .inl (.inl h)
     · exact .inr h
theorem ins_filter {l : List Sp} {s : Sp} {c : Nat} (hno : ∀ x ∈ l, x.f0 ≠ s.f0) : ((l.take c ++ [s] ++ l.drop c).filter fun x => x.f0 != s.f0) = l := by
 rw [List.filter_append, List.filter_append, List.filter_cons, if_neg (by simp), List.filter_nil, List.append_nil]
 have e1 : ((l.take c).filter fun x => x.f0 != s.f0) = l.take c := by
  rw [List.filter_eq_self]; intro x hx; simpa using hno x (List.mem_of_mem_take hx)
 have e2 : ((l.drop c).filter fun x => x.f0 != s.f0) = l.drop c := by
  rw [List.filter_eq_self]; intro x hx; simpa using hno x (List.mem_of_mem_drop hx)
 rw [e1, e2, List.take_append_drop]
theorem SleepTwice : handshakerlaw15_SleepTwice.Pure := by
 intro l0 x1 hl1 hl2 _ _
 refine ⟨l0.length + 3004, ?_⟩
 generalize hK : l0.length + 3004 = K
 unfold handshakerlaw15_SleepTwice.f
 obtain ⟨b, hb, hb'⟩ := Small15_f K l0 (by omega) (by omega)
 obtain ⟨c, hc, hc'⟩ := Small15_f K [x1] (by simp) (by simp; omega)
 rw [hb, Option.bind_some]
 obtain ⟨K, rfl⟩ : ∃ m, K = m + 1 := ⟨K - 1, by omega⟩
 have aw : handshakerlaw15_SleepTwice.j0 (K + 1) l0 true x1.f0 x1.f1 x1.f2 x1.f3 x1.f4 = some true := by
  simp only [handshakerlaw15_SleepTwice.j0]
  rw [if_pos trivial, awake15 K (by omega)]; rfl
 by_cases h1 : b < 0
 · rw [if_pos h1]; exact aw
 rw [if_neg h1, show ([(⟨x1.f0, x1.f1, x1.f2, x1.f3, x1.f4⟩ : Sp)] : List Sp) = [x1] from rfl, hc, Option.bind_some]
 by_cases h2 : c < 0
 · rw [decide_eq_true h2]; exact aw
 rw [decide_eq_false h2]
 have q1 := (hb'.resolve_left h1).2
 have q2 := (hc'.resolve_left h2).2.2 x1 (by simp)
 have hF : FewS l0 := ⟨by omega, q1.2⟩
 simp only [handshakerlaw15_SleepTwice.j0]
 obtain ⟨r, e, hA, hcase⟩ := Add_f K l0 x1 hF q2.1 (by omega)
 rw [if_neg (by decide), hA, Option.bind_some]
 dsimp only
 rcases hcase with ⟨he, hr, _⟩ | ⟨he, hR, hM, hno, i, hCut, hr⟩
 · subst hr
   rw [if_neg he, RefsF_f K r hF (by omega), Option.bind_some, Option.bind_some, SameS_f K r hF (by omega), Option.bind_some, if_pos rfl, awake15 K (by omega)]; rfl
 · obtain ⟨hi1, hi2⟩ := ins_at (l := l0) (s := x1) hCut.1
   have hRa := ins_right hR hM hCut hno
   have hmem : x1 ∈ r := by rw [hr]; exact (ins_mem x1).2 (.inl rfl)
   have hFa : FewS r := by
    rw [hr]
    refine ⟨by simp; omega, fun x hx => ?_⟩
    rcases (ins_mem x).1 hx with h | h
    · rw [h]; exact q2
    · exact q1.2 x h
   rw [← hr] at hRa hi1 hi2
   have hfil := ins_filter (c := i) hno
   rw [← hr] at hfil
   have hany : (r.any fun s => s.f0 == x1.f0) = true := List.any_eq_true.2 ⟨x1, hmem, by simp⟩
   have hany2 : ¬ (l0.any fun s => s.f0 == x1.f0) = true := by
    rw [List.any_eq_true]
    rintro ⟨s, hs, es⟩
    exact hno s hs (by simpa using es)
   have hfind := Find_f K r hFa hRa i hi1 (by omega)
   rw [hi2] at hfind
   obtain ⟨r2, e2, hA2, hcase2⟩ := Add_f K r x1 hFa q2.1 (by omega)
   have he2 : e2 = 9 := by
    rcases hcase2 with ⟨_, _, h⟩ | ⟨_, _, _, h, _⟩
    · exact (h hRa hM).1
    · exact absurd rfl (h x1 hmem)
   have hd1 := Drop_f K r hFa hRa [x1.f0] (by simp) (by omega)
   have hd2 := Drop_f K r hFa hRa [x1.f0, x1.f0] (by simp) (by omega)
   simp only [dropL] at hd1 hd2
   rw [if_pos hany, hfil] at hd1 hd2
   rw [if_neg hany2] at hd2
   rw [if_pos he, hfind, Option.bind_some, hA2, Option.bind_some, hd1, Option.bind_some, hd2, Option.bind_some]
   dsimp only
   rw [if_pos rfl, SRef_f K x1 (by omega) (by omega), Option.bind_some, Option.bind_some]
   dsimp only
   rw [One2_f K x1.f0 x1.f1 x1.f2 x1.f3 (x1.f4.map refO) (by omega) (by rw [List.length_map]; omega) (by omega), Option.bind_some, if_pos rfl, if_pos he2, if_pos rfl, RefsF_f K l0 hF (by omega), Option.bind_some, Option.bind_some, SameS_f K l0 hF (by omega), Option.bind_some, if_pos rfl, if_pos rfl,
    RightF_f K r hFa (by omega), Option.bind_some, if_pos ((rightS_iff r).2 hRa), awake15 K (by omega)]
   rfl
end Go.Proofs.Ytjnkpocfmpbpoaa.Sa
namespace Go.Proofs.Ytjnkpocfmpbpoaa.Pure
theorem SleepTwice : Go.Proofs.Ytjnkpocfmpbpoaa.Sa.handshakerlaw15_SleepTwice.Pure := Go.Proofs.Ytjnkpocfmpbpoaa.Sa.SleepTwice
end Go.Proofs.Ytjnkpocfmpbpoaa.Pure
