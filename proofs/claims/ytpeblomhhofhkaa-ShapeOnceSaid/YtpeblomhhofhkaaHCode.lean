/-
 PROVED: Plain lemmas on numbers and lists, of what the printed functions answer. No condition beside those of each lemma.
-/
import Derived.Test.YtpeblomhhofhkaaHLem
import Derived.Test.YtpeblomhhofhkaaHx2
import Derived.Test.YtpeblomhhofhkaaHx3
import Derived.Test.YtpeblomhhofhkaaHx4
import Derived.Test.YtpeblomhhofhkaaHx5
import Derived.Test.YtpeblomhhofhkaaHx8
namespace Go.Proofs.Ytpeblomhhofhkaa.H
open Go.RowKit Go.Proofs.YtpeblomhhofhkaaW.PrintWords Go.Proofs.YtpeblomhhofhkaaW.PrintLast Go.Proofs.YtpeblomhhofhkaaW.PrintMore Go.Proofs.Ytpeblomhhofhkaa.Ho
set_option linter.unusedVariables false
set_option linter.unusedSimpArgs false
/-! ### codes -/
def reckB (t : List S50) : Bool := checkB t == 0 && ((cellsB t).length : Int) == 0
theorem reck_f (k : Nat) (t : List S50) (hk : 20 ≤ k) : code_reckons.f k t = some (reckB t) := by
 unfold code_reckons.f reckB
 rw [Check_f k t hk, Cells_f k t hk]
 simp only [Option.bind_some]
 by_cases h : checkB t = 0
 · rw [if_pos h, h]; simp
 · rw [if_neg h, show (checkB t == 0) = false from beq_eq_false_iff_ne.2 h]; rfl
def btw (a lo hi : Int) : Bool := decide (lo ≤ a ∧ a ≤ hi)
def mayC (s : S53) : Bool :=
 if s.f0 = 1 then s.f3.length == 0 && btw s.f1 0 7 && btw s.f2 0 63
 else if s.f0 = 2 then btw s.f1 0 7 && s.f2 == 0 && reckB s.f3
 else if s.f0 = 3 then btw s.f1 0 63 && s.f2 == 0 && reckB s.f3
 else if s.f0 = 4 then btw s.f1 1 24 && s.f2 == 0 && reckB s.f3
 else if s.f0 = 5 then s.f3.length == 0 && s.f1 == 0 && s.f2 == 0
 else if s.f0 = 6 then s.f3.length == 0 && btw s.f1 0 255 && s.f2 == 0
 else if s.f0 = 7 then s.f3.length == 0 && btw s.f1 1 24 && btw s.f2 1 24
 else false
theorem below_f (a m : Int) : code_below.f a m = some (btw a 0 (m - 1)) := by
 unfold code_below.f btw
 by_cases h : a ≥ 0
 · rw [if_pos h]; congr 1; rw [decide_eq_decide]; omega
 · rw [if_neg h]; congr 1; symm; rw [decide_eq_false_iff_not]; omega
theorem long_f (a : Int) : code_long.f a = some (btw a 1 24) := by
 unfold code_long.f btw
 by_cases h : a ≥ 1
 · rw [if_pos h]; congr 1; rw [decide_eq_decide]; omega
 · rw [if_neg h]; congr 1; symm; rw [decide_eq_false_iff_not]; omega
theorem len0 {α : Type} (l : List α) : ((l.length : Int) = 0) ↔ l.length == 0 := by simp
theorem mayC_f (k : Nat) (s : S53) (hk : 20 ≤ k) : code_may.f k s.f0 s.f1 s.f2 s.f3 = some (mayC s) := by
 unfold code_may.f mayC
 simp only [below_f, long_f, reck_f k s.f3 hk, Option.bind_some, len0, Int.reduceSub]
 generalize reckB s.f3 = r
 generalize (s.f3.length == 0) = z
 generalize btw s.f1 0 7 = b1
 generalize btw s.f2 0 63 = b2
 generalize btw s.f1 0 63 = b3
 generalize btw s.f1 1 24 = b4
 generalize btw s.f2 1 24 = b5
 generalize btw s.f1 0 255 = b6
 by_cases h1 : s.f0 = 1
 · rw [if_pos h1, if_pos h1]; cases z <;> cases b1 <;> rfl
 rw [if_neg h1, if_neg h1]
 by_cases h2 : s.f0 = 2
 · rw [if_pos h2, if_pos h2]; by_cases e2 : s.f2 = 0 <;> cases b1 <;> cases r <;> simp [e2]
 rw [if_neg h2, if_neg h2]
 by_cases h3 : s.f0 = 3
 · rw [if_pos h3, if_pos h3]; by_cases e2 : s.f2 = 0 <;> cases b3 <;> cases r <;> simp [e2]
 rw [if_neg h3, if_neg h3]
 by_cases h4 : s.f0 = 4
 · rw [if_pos h4, if_pos h4]; by_cases e2 : s.f2 = 0 <;> cases b4 <;> cases r <;> simp [e2]
 rw [if_neg h4, if_neg h4]
 by_cases h5 : s.f0 = 5
 · rw [if_pos h5, if_pos h5]; by_cases e1 : s.f1 = 0 <;> by_cases e2 : s.f2 = 0 <;> cases z <;> simp [e1, e2]
 rw [if_neg h5, if_neg h5]
 by_cases h6 : s.f0 = 6
 · rw [if_pos h6, if_pos h6]; by_cases e2 : s.f2 = 0 <;> cases z <;> cases b6 <;> simp [e2]
 rw [if_neg h6, if_neg h6]
 by_cases h7 : s.f0 = 7
 · rw [if_pos h7, if_pos h7]; cases z <;> cases b4 <;> cases b5 <;> rfl
 rw [if_neg h7, if_neg h7]
/-- Is a part well, and how deep? (none: it is not) -/
def deepT (c : List S53) : Option Nat :=
 match c with
 | [] => some 0
 | s :: r =>
  if s.f0 = 7 then
   if s.f1.toNat + s.f2.toNat > r.length then none
   else match deepT (r.take s.f1.toNat), deepT ((r.take (s.f1.toNat + s.f2.toNat)).drop s.f1.toNat), deepT (r.drop (s.f1.toNat + s.f2.toNat)) with
    | some a, some b, some n => some (max n (1 + max a b))
    | _, _, _ => none
  else if s.f0 = 4 ∧ s.f1.toNat > r.length then none
  else deepT r
termination_by c.length
decreasing_by all_goals (simp_wf; try omega)
theorem deepT_nil : deepT [] = some 0 := by rw [deepT]
theorem deepT_le : ∀ (n : Nat) (c : List S53) (m : Nat), c.length ≤ n → deepT c = some m → m ≤ c.length := by
 intro n
 induction n with
 | zero =>
  intro c m hc h
  have : c = [] := List.length_eq_zero_iff.1 (by omega)
  subst this
  rw [deepT_nil] at h; cases h; simp
 | succ n ih =>
  intro c m hc h
  cases c with
  | nil => rw [deepT_nil] at h; cases h; simp
  | cons s r =>
   simp only [List.length_cons] at hc ⊢
   rw [deepT] at h
   split at h
   · split at h
     · cases h
     · split at h
       · rename_i a b q e1 e2 e3
         cases h
         have h1 := ih _ _ (by simp; omega) e1
         have h2 := ih _ _ (by simp; omega) e2
         have h3 := ih _ _ (by simp; omega) e3
         simp at h1 h2 h3
         omega
       · cases h
   · split at h
     · cases h
     · have := ih r m (by omega) h; omega
theorem mayC_either {s : S53} (h : mayC s = true) (h7 : s.f0 = 7) : 1 ≤ s.f1 ∧ s.f1 ≤ 24 ∧ 1 ≤ s.f2 ∧ s.f2 ≤ 24 := by
 unfold mayC at h
 rw [if_neg (by omega), if_neg (by omega), if_neg (by omega), if_neg (by omega), if_neg (by omega), if_neg (by omega), if_pos h7] at h
 simp only [Bool.and_eq_true, btw, decide_eq_true_eq] at h
 omega
theorem mayC_skip {s : S53} (h : mayC s = true) (h4 : s.f0 = 4) : 1 ≤ s.f1 ∧ s.f1 ≤ 24 := by
 unfold mayC at h
 rw [if_neg (by omega), if_neg (by omega), if_neg (by omega), if_pos h4] at h
 simp only [Bool.and_eq_true, btw, decide_eq_true_eq] at h
 omega
def outB (d : Option Nat) : Int := match d with | some n => (n : Int) | none => -1
theorem deep_f : ∀ (n : Nat) (c : List S53) (k : Nat), c.length ≤ n → c.length ≤ 24 → (∀ s ∈ c, mayC s = true) → 2 * c.length + 2 ≤ k → code_deep.f k c = some (outB (deepT c)) := by
 intro n
 induction n with
 | zero =>
  intro c k hc _ _ hk
  have : c = [] := List.length_eq_zero_iff.1 (by omega)
  subst this
  obtain ⟨k, rfl⟩ : ∃ m, k = m + 2 := ⟨k - 2, by omega⟩
  simp only [code_deep.f, code_deep.l0]
  rw [if_neg (by simp), deepT_nil]; rfl
 | succ n ih =>
  intro c k hc h24 hm hk
  -- the loop
  have loop : ∀ (d k i o : Nat), i ≤ c.length → c.length - i ≤ d → 2 * (c.length - i) + 1 ≤ k → o ≤ 24 →
   code_deep.l0 k c (o : Int) (i : Int) = some (match deepT (c.drop i) with | some q => ((max o q : Nat) : Int) | none => -1) := by
   intro d
   induction d with
   | zero =>
    intro k i o hi hd hk ho
    obtain ⟨k, rfl⟩ : ∃ m, k = m + 1 := ⟨k - 1, by omega⟩
    rw [List.drop_of_length_le (by omega), deepT_nil]
    simp only [code_deep.l0]
    rw [if_neg (by omega)]; simp
   | succ d ihd =>
    intro k i o hi hd hk ho
    obtain ⟨k, rfl⟩ : ∃ m, k = m + 1 := ⟨k - 1, by omega⟩
    by_cases hlt : i < c.length
    · have hms : mayC (c.getD i z53) = true := hm _ (by
       rw [List.getD_eq_getElem?_getD, List.getElem?_eq_getElem hlt]; exact List.getElem_mem _)
      rw [drop_cons c z53 i hlt, deepT]
      simp only [code_deep.l0]
      rw [if_pos (by omega), if_pos (by omega), wrN (by omega), if_pos (by omega), if_pos (by omega)]
      simp only [Option.bind_some]
      rw [show rd_T53 c (i : Int) = c.getD i z53 from rfl, show (((i + 1 : Nat) : Int)).toNat = i + 1 from by simp]
      generalize c.getD i z53 = s at *
      have hrl : (c.drop (i + 1)).length = c.length - (i + 1) := by simp
      have hmr : ∀ q ∈ c.drop (i + 1), mayC q = true := fun q hq => hm q (List.mem_of_mem_drop hq)
      by_cases h7 : s.f0 = 7
      · obtain ⟨a1, a2, b1, b2⟩ := mayC_either hms h7
        have ew : wrap64 (s.f1 + s.f2) = s.f1 + s.f2 := wr (by omega) (by omega)
        rw [if_pos h7, if_pos h7, ew]
        by_cases hlen : s.f1.toNat + s.f2.toNat > (c.drop (i + 1)).length
        · rw [if_pos (by omega), if_pos hlen]
        · rw [if_neg (by omega), if_neg hlen, if_pos (by omega), if_pos (by omega), show (s.f1 + s.f2).toNat = s.f1.toNat + s.f2.toNat from by omega]
          rw [ih ((c.drop (i + 1)).take s.f1.toNat) k (by simp; omega) (by simp; omega) (fun q hq => hmr q (List.mem_of_mem_take hq)) (by simp; omega)]
          simp only [Option.bind_some]
          rw [if_pos (by omega), if_pos (by omega)]
          rw [ih (((c.drop (i + 1)).take (s.f1.toNat + s.f2.toNat)).drop s.f1.toNat) k (by simp; omega) (by simp; omega) (fun q hq => hmr q (List.mem_of_mem_take (List.mem_of_mem_drop hq))) (by simp; omega)]
          simp only [Option.bind_some]
          have la := fun m => deepT_le _ ((c.drop (i + 1)).take s.f1.toNat) m (Nat.le_refl _)
          have lb := fun m => deepT_le _ (((c.drop (i + 1)).take (s.f1.toNat + s.f2.toNat)).drop s.f1.toNat) m (Nat.le_refl _)
          cases ea : deepT ((c.drop (i + 1)).take s.f1.toNat) with
          | none => rw [if_pos (by simp [outB])]
          | some a =>
           rw [if_neg (by simp [outB])]
           have la := la a ea
           cases eb : deepT (((c.drop (i + 1)).take (s.f1.toNat + s.f2.toNat)).drop s.f1.toNat) with
           | none => rw [if_pos (by simp [outB])]
           | some b =>
            rw [if_neg (by simp [outB])]
            have lb := lb b eb
            simp at la lb
            simp only [outB]
            have em : mx (o : Int) (wrap64 (1 + mx (a : Int) (b : Int))) = ((max o (1 + max a b) : Nat) : Int) := by
             have e1 : mx (a : Int) (b : Int) = ((max a b : Nat) : Int) := by unfold mx; split <;> omega
             rw [e1, wr (by omega) (by omega)]
             unfold mx; split <;> omega
            have ei : wrap64 (wrap64 ((i : Int) + (s.f1 + s.f2)) + 1) = ((i + 1 + (s.f1.toNat + s.f2.toNat) : Nat) : Int) := by
             rw [wr (i := (i : Int) + (s.f1 + s.f2)) (by omega) (by omega), wr (by omega) (by omega)]; omega
            rw [em, ei, ihd k _ _ (by omega) (by omega) (by omega) (by omega), List.drop_drop]
            cases deepT (c.drop (i + 1 + (s.f1.toNat + s.f2.toNat))) with
            | none => rfl
            | some q => simp only; congr 2; omega
      · rw [if_neg h7, if_neg h7]
        have next := ihd k (i + 1) o (by omega) (by omega) (by omega) ho
        by_cases h4 : s.f0 = 4
        · obtain ⟨a1, a2⟩ := mayC_skip hms h4
          rw [if_pos h4]
          by_cases hlen : s.f1.toNat > (c.drop (i + 1)).length
          · rw [if_pos (by omega), if_pos ⟨h4, hlen⟩]
          · rw [if_neg (by omega), if_neg (fun e => hlen e.2)]; exact next
        · rw [if_neg h4, if_neg (fun e => h4 e.1)]; exact next
    · rw [List.drop_of_length_le (by omega), deepT_nil]
      simp only [code_deep.l0]
      rw [if_neg (by omega)]; simp
  obtain ⟨k, rfl⟩ : ∃ m, k = m + 1 := ⟨k - 1, by omega⟩
  simp only [code_deep.f]
  have := loop c.length k 0 0 (by omega) (by omega) (by omega) (by omega)
  rw [List.drop_zero] at this
  rw [show (0 : Int) = ((0 : Nat) : Int) from rfl, this]
  cases deepT c with
  | none => rfl
  | some q => simp [outB]
def mayAllC (c : List S53) : Bool := c.all mayC
def checkC (c : List S53) : Int := if c.length ≤ 24 ∧ mayAllC c = true then (match deepT c with | some n => if n > 6 then 5 else 0 | none => 2) else 1
theorem CheckC_f (k : Nat) (c : List S53) (hk : 60 ≤ k) : code_Check.f k c = some (checkC c) := by
 obtain ⟨k, rfl⟩ : ∃ q, k = q + 1 := ⟨k - 1, by omega⟩
 unfold code_Check.f checkC any_at_code_Check_1.f
 simp only [code_Check.j0]
 by_cases h2 : c.length > 24
 · rw [if_pos (by omega), if_pos trivial, if_neg (by omega)]
 · rw [if_neg (by omega), anyF_T (p := fun s => !(mayC s)) c (fun s _ => by unfold code_Check_1.f; rw [mayC_f _ _ (by omega)]; rfl)]
   simp only [Option.bind_some]
   have ea : (c.any fun s => !(mayC s)) = !(mayAllC c) := by
    unfold mayAllC
    clear h2
    induction c with
    | nil => rfl
    | cons x xs ih => simp only [List.any_cons, List.all_cons, ih]; cases mayC x <;> simp
   rw [ea]
   by_cases h3 : mayAllC c = true
   · rw [h3, if_neg (by simp), if_pos ⟨by omega, rfl⟩, deep_f c.length c k (by omega) (by omega) (List.all_eq_true.1 h3) (by omega)]
     simp only [Option.bind_some]
     cases deepT c with
     | none => rw [if_pos (by simp [outB])]
     | some n =>
      rw [if_neg (by simp [outB]), show outB (some n) = (n : Int) from rfl]
      by_cases h6 : n > 6
      · simp only; rw [if_pos (by omega), if_pos h6]
      · simp only; rw [if_neg (by omega), if_neg h6]
   · rw [if_pos (by simpa using h3), if_neg (fun e => h3 e.2)]
theorem checkC_ok {c : List S53} (h : checkC c = 0) : c.length ≤ 24 ∧ (∀ s ∈ c, mayC s = true) ∧ ∃ n, deepT c = some n := by
 unfold checkC at h
 split at h
 · rename_i h1
   refine ⟨h1.1, List.all_eq_true.1 h1.2, ?_⟩
   cases e : deepT c with
   | none => rw [e] at h; simp at h
   | some n => exact ⟨n, rfl⟩
 · simp at h
theorem Small_l (c : List S53) (hm : c.length < 4398046511104) (d : Nat) : ∀ (k i : Nat), i ≤ c.length → c.length - i = d → d < k → (∀ s ∈ c.take i, s.f3.length ≤ 20) →
 handshakerlaw08_Small.l0 k c c (c.length : Int) (i : Int) = some (-1) ∨ (c.length ≤ 40 ∧ (∀ s ∈ c, s.f3.length ≤ 20) ∧ handshakerlaw08_Small.l0 k c c (c.length : Int) (i : Int) = some (c.length : Int)) := by
 induction d with
 | zero =>
  intro k i hi hd hk hs
  obtain ⟨k, rfl⟩ : ∃ m, k = m + 1 := ⟨k - 1, by omega⟩
  rw [List.take_of_length_le (by omega)] at hs
  simp only [handshakerlaw08_Small.l0]
  rw [if_neg (by omega)]
  by_cases h : c.length > 40
  · rw [if_pos (by omega)]; exact .inl rfl
  · rw [if_neg (by omega)]; exact .inr ⟨by omega, hs, rfl⟩
 | succ d ih =>
  intro k i hi hd hk hs
  obtain ⟨k, rfl⟩ : ∃ m, k = m + 1 := ⟨k - 1, by omega⟩
  simp only [handshakerlaw08_Small.l0]
  rw [if_pos (by omega), if_pos (by omega), if_pos (by omega), wrN (by omega), show rd_T53 c (i : Int) = c.getD i z53 from rfl]
  by_cases h : (c.getD i z53).f3.length > 20
  · rw [if_pos (by omega)]; exact .inl rfl
  · rw [if_neg (by omega)]
    refine ih k (i + 1) (by omega) (by omega) (by omega) fun s hs' => ?_
    rw [List.take_add_one, List.getElem?_eq_getElem (by omega)] at hs'
    rcases List.mem_append.1 hs' with h' | h'
    · exact hs s h'
    · have : s = c.getD i z53 := by
       rw [List.getD_eq_getElem?_getD, List.getElem?_eq_getElem (by omega)]
       simpa using h'
      rw [this]; omega
theorem Small_f (k : Nat) (c : List S53) (hm : c.length < 4398046511104) (hk : c.length < k) :
 handshakerlaw08_Small.f k c = some (-1) ∨ (c.length ≤ 40 ∧ (∀ s ∈ c, s.f3.length ≤ 20) ∧ handshakerlaw08_Small.f k c = some (c.length : Int)) := by
 unfold handshakerlaw08_Small.f
 exact Small_l c hm c.length k 0 (by omega) (by omega) (by omega) (by simp)
end Go.Proofs.Ytpeblomhhofhkaa.H
