/-
 PROVED: what is written is read, and no beginning of it, but the whole; with anything behind it is none, for all codes, numbers and bytes. Condition: each argument is of its kind; nothing else.
-/
import Derived.Test.YtpeblomhhofhkaaHAllLem
import Derived.Test.YtpeblomhhofhkaaHx20
namespace Go.Proofs.Ytpeblomhhofhkaa.H
open Go.RowKit Go.Proofs.YtpeblomhhofhkaaW.PrintWords Go.Proofs.YtpeblomhhofhkaaW.PrintLast Go.Proofs.YtpeblomhhofhkaaW.PrintMore Go.Proofs.Ytpeblomhhofhkaa.Ho
set_option linter.unusedVariables false
set_option linter.unusedSimpArgs false
theorem take_no {l : List (List Stp)} (h : (writeB l).2 = 0) (n : Nat) (hn : n < (bytesL l).length) : readB ((bytesL l).take n) = ([], 2) := by
 by_cases g : (readB ((bytesL l).take n)).2 = 0
 · exfalso
   have hb : byts ((bytesL l).take n) := fun x hx => byts_all l x (List.mem_of_mem_take hx)
   obtain ⟨l', e, hw, eb⟩ := read_ok hb g
   have e1 : bytesL l = bytesL l' ++ (bytesL l).drop n := by rw [← eb, List.take_append_drop]
   obtain ⟨h1, h2, _⟩ := write_ok hw
   obtain ⟨g1, g2, _⟩ := write_ok h
   have a1 := all_read l' ((bytesL l).drop n) (by omega) (fun c hc => check_fine (h2 c hc))
   rw [← e1] at a1
   have a2 := all_read l [] (by omega) (fun c hc => check_fine (g2 c hc))
   rw [List.append_nil] at a2
   rw [a2] at a1
   have e2 : ([] : List Int) = (bytesL l).drop n := congrArg Prod.snd (Option.some.inj a1)
   have e3 : 0 = ((bytesL l).drop n).length := congrArg List.length e2
   rw [List.length_drop] at e3
   omega
 · exact read_no g
theorem bytesL_len {l : List (List Stp)} (h8 : l.length ≤ 8) (hok : ∀ c ∈ l, checkC c = 0) : 0 < (bytesL l).length ∧ (bytesL l).length ≤ 16001 := by
 have := flat_len codeB 2000 l (fun c hc => codeB_len (hok c hc))
 have : 2000 * l.length ≤ 2000 * 8 := Nat.mul_le_mul_left _ h8
 unfold bytesL
 rw [List.length_cons]
 omega
theorem ShapeBack : handshakerlaw09_ShapeBack.Pure := by
 intro l n b hl1 hl2 hl3 hn hb1 hb2 hb3
 have hby : byts b := fun x hx => by
  have := hb3 x hx
  simpa [Lit.wf, IntKind.bits, IntKind.signed, IntKind.min, IntKind.max] using this
 have hn' : 0 ≤ n ∧ n ≤ 65535 := by simpa [Lit.wf, IntKind.bits, IntKind.signed, IntKind.min, IntKind.max] using hn
 refine ⟨l.length + (l.map List.length).sum + 5000, ?_⟩
 generalize hK : l.length + (l.map List.length).sum + 5000 = K
 unfold handshakerlaw09_ShapeBack.f
 obtain ⟨s, hs, hs'⟩ := small_f l K (by omega) (fun c hc => (hl3 c hc).1) (by omega)
 rw [hs, Option.bind_some]
 obtain ⟨K, rfl⟩ : ∃ m, K = m + 1 := ⟨K - 1, by omega⟩
 have aw : handshakerlaw09_ShapeBack.j0 (K + 1) l n b true = some true := by
  simp only [handshakerlaw09_ShapeBack.j0]
  rw [if_pos trivial, awake9 K (by omega)]; rfl
 cases s with
 | false => rw [if_neg (by decide)]; exact aw
 | true =>
  rw [if_pos rfl]
  obtain ⟨h12, hsm⟩ := hs' rfl
  by_cases h20 : (b.length : Int) > 20
  · rw [decide_eq_true h20]; exact aw
  · rw [decide_eq_false h20]
    simp only [handshakerlaw09_ShapeBack.j0]
    rw [if_neg (by decide), Write_f K l (by omega), Option.bind_some]
    by_cases hw : (writeB l).2 = 0
    · obtain ⟨h8, hok, e⟩ := write_ok hw
      obtain ⟨p1, p2⟩ := bytesL_len h8 hok
      have r0 := read_write hw []
      rw [List.append_nil, if_pos rfl] at r0
      have em : Int.tmod (wrap64 n) ((bytesL l).length : Int) = n % ((bytesL l).length : Int) := by
       rw [wr (by omega) (by omega), Int.tmod_eq_emod_of_nonneg (by omega)]
      have m1 := Int.emod_nonneg n (b := ((bytesL l).length : Int)) (by omega)
      have m2 := Int.emod_lt_of_pos n (b := ((bytesL l).length : Int)) (by omega)
      rw [e]
      dsimp only
      rw [if_pos rfl, if_neg (by omega), Read_f K _ (byts_all l) (by omega), Option.bind_some, r0, em]
      generalize n % ((bytesL l).length : Int) = m at m1 m2
      rw [if_pos m1, if_pos (by omega), Read_f K _ (fun x hx => byts_all l x (List.mem_of_mem_take hx)) (by omega), Option.bind_some, take_no hw _ (by omega), Option.bind_some, List.nil_append, if_pos (by simp; omega), Option.bind_some, if_pos (by omega), Read_f K _ (fun x hx => (List.mem_append.1 hx).elim (byts_all l x) (hby x)) (by omega), Option.bind_some, read_write hw b]
      dsimp only
      rw [if_pos rfl, Refs_f K l h12 hsm (by omega), Option.bind_some, Option.bind_some, same_refs K l h12 hsm (by omega), Option.bind_some, if_pos rfl, if_pos rfl, awake9 K (by omega)]
      cases b with
      | nil => rfl
      | cons x b =>
       rw [if_neg (List.cons_ne_nil x b)]
       have : ¬ (((x :: b).length : Int) = 0) := by rw [List.length_cons]; omega
       rw [if_neg (show ¬ ((2 : Int) = 0) by decide), if_neg this]; rfl
    · have e : writeB l = ([], 1) := by
       unfold writeB at hw ⊢
       split at hw
       · exact absurd rfl hw
       · rename_i g; rw [if_neg g]
      rw [if_neg hw, e, if_pos (show ((([] : List Int).length : Int) = 0) from rfl), awake9 K (by omega)]; rfl
end Go.Proofs.Ytpeblomhhofhkaa.H
namespace Go.Proofs.Ytpeblomhhofhkaa.Pure
theorem ShapeBack : Go.Proofs.Ytpeblomhhofhkaa.H.handshakerlaw09_ShapeBack.Pure := Go.Proofs.Ytpeblomhhofhkaa.H.ShapeBack
end Go.Proofs.Ytpeblomhhofhkaa.Pure
