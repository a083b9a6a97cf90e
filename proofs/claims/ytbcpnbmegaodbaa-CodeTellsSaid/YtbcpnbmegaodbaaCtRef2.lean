/-
 PROVED: Plain lemmas on numbers and lists, of what the printed functions answer. No condition beside those of each lemma.
-/
import Derived.Test.YtbcpnbmegaodbaaCtLem
import Derived.Test.YtbcpnbmegaodbaaCtCode
import Derived.Test.YtbcpnbmegaodbaaCtRef
import Derived.Test.YtbcpnbmegaodbaaCtx1
import Derived.Test.YtbcpnbmegaodbaaCtx2
import Derived.Test.YtbcpnbmegaodbaaCtx4
import Derived.Test.YtbcpnbmegaodbaaCtx5
import Derived.Test.YtbcpnbmegaodbaaCtx6
import Derived.Test.YtbcpnbmegaodbaaCtx7
namespace Go.Proofs.Ytbcpnbmegaodbaa.Ct
open Go.RowKit Go.Proofs.YtbcpnbmegaodbaaW.PrintWords Go.Proofs.YtbcpnbmegaodbaaW.PrintLast Go.Proofs.YtbcpnbmegaodbaaW.PrintMore Go.Proofs.Ytbcpnbmegaodbaa.Ho
set_option linter.unusedVariables false
set_option linter.unusedSimpArgs false
/-! the cells that a code names -/
def nameC (s : S37) : Option Int := if s.f0 = 1 then some s.f2 else if s.f0 = 3 then some s.f1 else none
def cellsLC (c : List S37) : List Int := c.filterMap nameC
def cellsC (c : List S37) : List Int := if checkC c = 0 then Go.Lib.compact ((cellsLC c).mergeSort fun x y => decide (x ≤ y)) else []
theorem CellsC_l (c : List S37) (hm : c.length ≤ 24) (d : Nat) : ∀ (k i : Nat) (out : List Int), i ≤ c.length → c.length - i = d → d < k → out.length ≤ i →
 code_Cells.l0 k out c (c.length : Int) (i : Int) = some (Go.Lib.compact ((out ++ cellsLC (c.drop i)).mergeSort fun x y => decide (x ≤ y))) := by
 induction d with
 | zero =>
  intro k i out hi hd hk ho
  obtain ⟨k, rfl⟩ : ∃ m, k = m + 1 := ⟨k - 1, by omega⟩
  rw [List.drop_of_length_le (by omega)]
  simp only [code_Cells.l0, slices_Sort.f, slices_Compact.f]
  rw [if_neg (by omega), if_pos (by omega)]
  simp only [Option.bind_some]
  rw [if_pos (by simp; omega)]
  simp [cellsLC]
 | succ d ih =>
  intro k i out hi hd hk ho
  obtain ⟨k, rfl⟩ : ∃ m, k = m + 1 := ⟨k - 1, by omega⟩
  rw [drop_cons c z37 i (by omega)]
  simp only [code_Cells.l0]
  rw [if_pos (by omega), if_pos (by omega), if_pos (by omega), wrN (by omega)]
  rw [show rd_T37 c (i : Int) = c.getD i z37 from rfl]
  generalize c.getD i z37 = o
  have ec : cellsLC (o :: c.drop (i + 1)) = match nameC o with | some v => v :: cellsLC (c.drop (i + 1)) | none => cellsLC (c.drop (i + 1)) := by
   unfold cellsLC
   rw [List.filterMap_cons]
   cases nameC o <;> rfl
  rw [ec]
  unfold nameC
  by_cases h1 : o.f0 = 1
  · rw [if_pos h1, if_pos h1, if_pos (by omega), ih k (i + 1) _ (by omega) (by omega) (by omega) (by simp; omega)]
    simp
  · rw [if_neg h1, if_neg h1]
    by_cases h3 : o.f0 = 3
    · rw [if_pos h3, if_pos h3, if_pos (by omega), ih k (i + 1) _ (by omega) (by omega) (by omega) (by simp; omega)]
      simp
    · rw [if_neg h3, if_neg h3]
      exact ih k (i + 1) _ (by omega) (by omega) (by omega) (by omega)
theorem CellsC_f (k : Nat) (c : List S37) (hk : 60 ≤ k) : code_Cells.f k c = some (cellsC c) := by
 unfold code_Cells.f cellsC
 rw [CheckC_f k c hk]
 simp only [Option.bind_some]
 by_cases h : checkC c = 0
 · rw [if_pos h, if_pos h]
   have := checkC_ok h
   exact CellsC_l c (by omega) c.length k 0 [] (by omega) (by omega) (by omega) (by simp)
 · rw [if_neg h, if_neg h]
/-! ### the document's code -/
abbrev cvC (s : S37) : S66 := ⟨s.f0, s.f1, s.f2, refT s.f3⟩
def refC (c : List S37) : List S66 := c.map cvC
theorem RefC_l (c : List S37) (hm : c.length ≤ 40) (hs : ∀ s ∈ c, s.f3.length ≤ 20) (d : Nat) : ∀ (k i : Nat) (out : List S66), i ≤ c.length → c.length - i = d → d + 30 < k → out.length ≤ i →
 handshakerlaw08_Ref.l0 k out c (c.length : Int) (i : Int) = some (out ++ refC (c.drop i)) := by
 induction d with
 | zero =>
  intro k i out hi hd hk ho
  obtain ⟨k, rfl⟩ : ∃ m, k = m + 1 := ⟨k - 1, by omega⟩
  rw [List.drop_of_length_le (by omega)]
  simp only [handshakerlaw08_Ref.l0]
  rw [if_neg (by omega)]
  simp [refC]
 | succ d ih =>
  intro k i out hi hd hk ho
  obtain ⟨k, rfl⟩ : ∃ m, k = m + 1 := ⟨k - 1, by omega⟩
  have hl := hs (c.getD i z37) (by
   rw [List.getD_eq_getElem?_getD, List.getElem?_eq_getElem (by omega)]; exact List.getElem_mem _)
  rw [drop_cons c z37 i (by omega)]
  simp only [handshakerlaw08_Ref.l0]
  rw [if_pos (by omega), if_pos (by omega), if_pos (by omega), show rd_T37 c (i : Int) = c.getD i z37 from rfl, Ref_f k _ (by omega) (by omega)]
  simp only [Option.bind_some]
  rw [if_pos (by omega), wrN (by omega), ih k (i + 1) _ (by omega) (by omega) (by omega) (by simp; omega)]
  simp only [refC, List.map_cons, List.append_assoc, List.singleton_append]
theorem RefC_f (k : Nat) (c : List S37) (hm : c.length ≤ 40) (hs : ∀ s ∈ c, s.f3.length ≤ 20) (hk : 80 < k) : handshakerlaw08_Ref.f k c = some (refC c) := by
 unfold handshakerlaw08_Ref.f
 exact RefC_l c hm hs c.length k 0 [] (by omega) (by omega) (by omega) (by simp)
theorem refC_len (c : List S37) : (refC c).length = c.length := by simp [refC]
theorem refC_at (c : List S37) (i : Nat) (hi : i < c.length) : rd_T66 (refC c) (i : Int) = cvC (c.getD i z37) := by
 unfold rd_T66 refC
 rw [List.getD_eq_getElem?_getD, List.getD_eq_getElem?_getD, List.getElem?_map]
 simp [List.getElem?_eq_getElem hi]
theorem rreck_f (k : Nat) (t : List S41) (hk : 1400 < k) : handshakerref08_reckons.f k (refT t) = some (reckB t) := by
 unfold handshakerref08_reckons.f reckB
 rw [rCheck_f k t (by omega), rCells_f k t hk, ← cells_same]
 simp only [Option.bind_some]
 by_cases h : checkB t = 0
 · rw [if_pos h, h]; simp
 · rw [if_neg h, show (checkB t == 0) = false from beq_eq_false_iff_ne.2 h]; rfl
theorem ge_le (a lo hi : Int) (x : Option Bool) : (if a ≥ lo then (if a ≤ hi then x else some false) else some false) = if btw a lo hi = true then x else some false := by
 unfold btw
 by_cases h1 : a ≥ lo
 · by_cases h2 : a ≤ hi
   · rw [if_pos h1, if_pos h2, if_pos (decide_eq_true ⟨h1, h2⟩)]
   · rw [if_pos h1, if_neg h2, if_neg (by simp; omega)]
 · rw [if_neg h1, if_neg (by simp; omega)]
theorem ge_leD (a lo hi : Int) : (if a ≥ lo then some (decide (a ≤ hi)) else some false) = some (btw a lo hi) := by
 unfold btw
 by_cases h1 : a ≥ lo
 · rw [if_pos h1]; congr 1; rw [decide_eq_decide]; omega
 · rw [if_neg h1]; congr 1; symm; rw [decide_eq_false_iff_not]; omega
theorem rone_f (k : Nat) (s : S37) (hk : 1400 < k) : handshakerref08_one.f k s.f0 s.f1 s.f2 (refT s.f3) = some (mayC s) := by
 unfold handshakerref08_one.f mayC
 simp only [rreck_f k s.f3 hk, Option.bind_some, len0, ref_len, ge_le, ge_leD]
 generalize reckB s.f3 = r
 generalize (s.f3.length == 0) = z
 generalize btw s.f1 0 7 = b1
 generalize btw s.f2 0 63 = b2
 generalize btw s.f1 0 63 = b3
 generalize btw s.f1 1 24 = b4
 generalize btw s.f2 1 24 = b5
 generalize btw s.f1 0 255 = b6
 by_cases h1 : s.f0 = 1
 · rw [if_pos h1, if_pos h1]; cases z <;> cases b1 <;> rfl
 rw [if_neg h1, if_neg h1]
 by_cases h2 : s.f0 = 2
 · rw [if_pos h2, if_pos h2]; by_cases e2 : s.f2 = 0 <;> cases b1 <;> cases r <;> simp [e2]
 rw [if_neg h2, if_neg h2]
 by_cases h3 : s.f0 = 3
 · rw [if_pos h3, if_pos h3]; by_cases e2 : s.f2 = 0 <;> cases b3 <;> cases r <;> simp [e2]
 rw [if_neg h3, if_neg h3]
 by_cases h4 : s.f0 = 4
 · rw [if_pos h4, if_pos h4]; by_cases e2 : s.f2 = 0 <;> cases b4 <;> cases r <;> simp [e2]
 rw [if_neg h4, if_neg h4]
 by_cases h5 : s.f0 = 5
 · rw [if_pos h5, if_pos h5]; by_cases e1 : s.f1 = 0 <;> by_cases e2 : s.f2 = 0 <;> cases z <;> simp [e1, e2]
 rw [if_neg h5, if_neg h5]
 by_cases h6 : s.f0 = 6
 · rw [if_pos h6, if_pos h6]; by_cases e2 : s.f2 = 0 <;> cases z <;> cases b6 <;> simp [e2]
 rw [if_neg h6, if_neg h6]
 by_cases h7 : s.f0 = 7
 · rw [if_pos h7, if_pos h7]; cases z <;> cases b4 <;> cases b5 <;> rfl
 rw [if_neg h7, if_neg h7]
/-- A part of a code. -/
def part (c : List S37) (a b : Nat) : List S37 := (c.take b).drop a
theorem part_len (c : List S37) (a b : Nat) (hb : b ≤ c.length) : (part c a b).length = b - a := by unfold part; simp; omega
theorem part_cons (c : List S37) (a b : Nat) (h : a < b) (hb : b ≤ c.length) : part c a b = c.getD a z37 :: part c (a + 1) b := by
 unfold part
 rw [drop_cons (c.take b) z37 a (by simp; omega)]
 congr 1
 rw [List.getD_eq_getElem?_getD, List.getD_eq_getElem?_getD, List.getElem?_take, if_pos h]
theorem part_nil (c : List S37) (a b : Nat) (h : b ≤ a) : part c a b = [] := by
 unfold part
 rw [List.drop_of_length_le (by simp; omega)]
theorem part_take (c : List S37) (a b m : Nat) (h : a + m ≤ b) : (part c a b).take m = part c a (a + m) := by
 unfold part
 rw [List.take_drop, List.take_take, Nat.min_eq_left h]
theorem part_drop (c : List S37) (a b m : Nat) : (part c a b).drop m = part c (a + m) b := by
 unfold part
 rw [List.drop_drop]
theorem well_f (c : List S37) (h24 : c.length ≤ 24) (hm : ∀ s ∈ c, mayC s = true) : ∀ (n a b k : Nat), b - a ≤ n → a ≤ b → b ≤ c.length → 2 * (b - a) + 2 ≤ k →
 ∃ v : Nat, v ≤ b - a ∧ handshakerref08_well.f k (refC c) (a : Int) (b : Int) = some ((match deepT (part c a b) with | some q => (q : Int) | none => (v : Int)), (deepT (part c a b)).isSome) := by
 intro n
 induction n with
 | zero =>
  intro a b k hn hab hb hk
  obtain ⟨k, rfl⟩ : ∃ m, k = m + 1 := ⟨k - 1, by omega⟩
  simp only [handshakerref08_well.f]
  rw [if_pos (by omega), part_nil c a b (by omega), deepT_nil]
  exact ⟨0, by omega, rfl⟩
 | succ n ih =>
  intro a b k hn hab hb hk
  obtain ⟨k, rfl⟩ : ∃ m, k = m + 2 := ⟨k - 2, by omega⟩
  by_cases e : a = b
  · simp only [handshakerref08_well.f]
    rw [if_pos (by omega), part_nil c a b (by omega), deepT_nil]
    exact ⟨0, by omega, rfl⟩
  · have hms : mayC (c.getD a z37) = true := hm _ (by
     rw [List.getD_eq_getElem?_getD, List.getElem?_eq_getElem (by omega)]; exact List.getElem_mem _)
    have pl := part_len c (a + 1) b hb
    rw [part_cons c a b (by omega) hb, deepT]
    simp only [handshakerref08_well.f]
    rw [if_neg (by omega), if_pos (by omega), if_pos (by rw [refC_len]; omega), refC_at c a (by omega), wrN (by omega)]
    generalize c.getD a z37 = s at *
    by_cases h4 : s.f0 = 4
    · obtain ⟨a1, a2⟩ := mayC_skip hms h4
      rw [if_pos (show (cvC s).f0 = 4 from h4), if_neg (by omega)]
      have ew : wrap64 (((a + 1 : Nat) : Int) + (cvC s).f1) = ((a + 1 : Nat) : Int) + s.f1 := wr (by simp only; omega) (by simp only; omega)
      rw [ew]
      simp only [handshakerref08_well.j0]
      by_cases hl : s.f1.toNat > (part c (a + 1) b).length
      · rw [if_pos (by simp; omega), if_pos ⟨h4, hl⟩]
        exact ⟨0, by omega, rfl⟩
      · rw [if_neg (by simp; omega), if_neg (show ¬ s.f0 = 7 by omega), if_neg (fun e => hl e.2), wrN (by omega)]
        obtain ⟨v, hv, ev⟩ := ih (a + 1) b k (by omega) (by omega) hb (by omega)
        rw [ev]
        exact ⟨v, by omega, rfl⟩
    · rw [if_neg (show ¬ (cvC s).f0 = 4 from h4)]
      simp only [handshakerref08_well.j0]
      rw [if_neg (by decide)]
      by_cases h7 : s.f0 = 7
      · obtain ⟨a1, a2, b1, b2⟩ := mayC_either hms h7
        rw [if_pos h7, if_pos h7, wrN (by omega)]
        have ew1 : wrap64 (((a + 1 : Nat) : Int) + s.f1) = ((a + 1 + s.f1.toNat : Nat) : Int) := by rw [wr (by omega) (by omega)]; omega
        have ew2 : wrap64 (((a + 1 + s.f1.toNat : Nat) : Int) + s.f2) = ((a + 1 + (s.f1.toNat + s.f2.toNat) : Nat) : Int) := by rw [wr (by omega) (by omega)]; omega
        rw [ew1, ew2]
        by_cases hl : s.f1.toNat + s.f2.toNat > (part c (a + 1) b).length
        · rw [if_pos (by omega), if_pos hl]
          exact ⟨0, by omega, rfl⟩
        · rw [if_neg (by omega), if_neg hl]
          obtain ⟨v1, hv1, ev1⟩ := ih (a + 1) (a + 1 + s.f1.toNat) k (by omega) (by omega) (by omega) (by omega)
          obtain ⟨v2, hv2, ev2⟩ := ih (a + 1 + s.f1.toNat) (a + 1 + (s.f1.toNat + s.f2.toNat)) k (by omega) (by omega) (by omega) (by omega)
          obtain ⟨v3, hv3, ev3⟩ := ih (a + 1 + (s.f1.toNat + s.f2.toNat)) b k (by omega) (by omega) hb (by omega)
          rw [ev1, ev2, ev3]
          simp only [Option.bind_some]
          rw [part_take c (a + 1) b s.f1.toNat (by omega), part_take c (a + 1) b (s.f1.toNat + s.f2.toNat) (by omega), part_drop, part_drop]
          have l1 := fun m => deepT_le _ (part c (a + 1) (a + 1 + s.f1.toNat)) m (Nat.le_refl _)
          have l2 := fun m => deepT_le _ (part c (a + 1 + s.f1.toNat) (a + 1 + (s.f1.toNat + s.f2.toNat))) m (Nat.le_refl _)
          have l3 := fun m => deepT_le _ (part c (a + 1 + (s.f1.toNat + s.f2.toNat)) b) m (Nat.le_refl _)
          rw [part_len _ _ _ (by omega)] at l1 l2 l3
          have key : ∀ x y z : Nat, x ≤ 24 → y ≤ 24 → z ≤ 24 → mx (mx (z : Int) (wrap64 (1 + (x : Int)))) (wrap64 (1 + (y : Int))) = ((max z (1 + max x y) : Nat) : Int) := by
           intro x y z hx hy hz
           rw [wr (i := 1 + (x : Int)) (by omega) (by omega), wr (i := 1 + (y : Int)) (by omega) (by omega)]
           have e1 : mx (z : Int) (1 + (x : Int)) = ((max z (1 + x) : Nat) : Int) := by unfold mx; split <;> omega
           rw [e1]
           unfold mx; split <;> omega
          cases e1 : deepT (part c (a + 1) (a + 1 + s.f1.toNat)) with
          | none =>
           simp only [Option.isSome_none]
           rw [if_neg (by decide)]
           cases e2 : deepT (part c (a + 1 + s.f1.toNat) (a + 1 + (s.f1.toNat + s.f2.toNat))) with
           | none =>
            cases e3 : deepT (part c (a + 1 + (s.f1.toNat + s.f2.toNat)) b) with
            | none => exact ⟨max v3 (1 + max v1 v2), by omega, by simp only; rw [key v1 v2 v3 (by omega) (by omega) (by omega)]; try rfl⟩
            | some q3 => have := l3 q3 e3; exact ⟨max q3 (1 + max v1 v2), by omega, by simp only; rw [key v1 v2 q3 (by omega) (by omega) (by omega)]; try rfl⟩
           | some q2 =>
            have := l2 q2 e2
            cases e3 : deepT (part c (a + 1 + (s.f1.toNat + s.f2.toNat)) b) with
            | none => exact ⟨max v3 (1 + max v1 q2), by omega, by simp only; rw [key v1 q2 v3 (by omega) (by omega) (by omega)]; try rfl⟩
            | some q3 => have := l3 q3 e3; exact ⟨max q3 (1 + max v1 q2), by omega, by simp only; rw [key v1 q2 q3 (by omega) (by omega) (by omega)]; try rfl⟩
          | some q1 =>
           have := l1 q1 e1
           simp only [Option.isSome_some, if_true]
           cases e2 : deepT (part c (a + 1 + s.f1.toNat) (a + 1 + (s.f1.toNat + s.f2.toNat))) with
           | none =>
            simp only [Option.isSome_none]
            rw [if_neg (by decide)]
            cases e3 : deepT (part c (a + 1 + (s.f1.toNat + s.f2.toNat)) b) with
            | none => exact ⟨max v3 (1 + max q1 v2), by omega, by simp only; rw [key q1 v2 v3 (by omega) (by omega) (by omega)]; try rfl⟩
            | some q3 => have := l3 q3 e3; exact ⟨max q3 (1 + max q1 v2), by omega, by simp only; rw [key q1 v2 q3 (by omega) (by omega) (by omega)]; try rfl⟩
           | some q2 =>
            have := l2 q2 e2
            simp only [Option.isSome_some, if_true]
            cases e3 : deepT (part c (a + 1 + (s.f1.toNat + s.f2.toNat)) b) with
            | none => exact ⟨max v3 (1 + max q1 q2), by omega, by simp only; rw [key q1 q2 v3 (by omega) (by omega) (by omega)]; try rfl⟩
            | some q3 => have := l3 q3 e3; exact ⟨0, by omega, by simp only; rw [key q1 q2 q3 (by omega) (by omega) (by omega)]; try rfl⟩
      · rw [if_neg h7, if_neg h7, if_neg (fun e => h4 e.1), wrN (by omega)]
        obtain ⟨v, hv, ev⟩ := ih (a + 1) b k (by omega) (by omega) hb (by omega)
        rw [ev]
        exact ⟨v, by omega, rfl⟩
end Go.Proofs.Ytbcpnbmegaodbaa.Ct
