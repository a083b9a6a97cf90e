/-
  PROVED: whether any operations stand well, which cells they name, how many numbers they need and what is told are what the document says, for every term, heap and registers. Condition: each argument is of its kind; nothing else.
-/
import Derived.Test.YtbcpnbmegaodbaaTcLem
import Derived.Test.YtbcpnbmegaodbaaTcLem2
import Derived.Test.YtbcpnbmegaodbaaTcLem3
import Derived.Test.YtbcpnbmegaodbaaTcRef
import Derived.Test.YtbcpnbmegaodbaaTcRef2
import Derived.Test.YtbcpnbmegaodbaaTcRef3
import Derived.Test.YtbcpnbmegaodbaaTcx1
import Derived.Test.YtbcpnbmegaodbaaTcx6
import Derived.Test.YtbcpnbmegaodbaaTcx7
namespace Go.Proofs.Ytbcpnbmegaodbaa.Tc
open Go.RowKit Go.Proofs.YtbcpnbmegaodbaaW.PrintWords Go.Proofs.YtbcpnbmegaodbaaW.PrintLast Go.Proofs.YtbcpnbmegaodbaaW.PrintMore Go.Proofs.Ytbcpnbmegaodbaa.Ho
set_option linter.unusedVariables false
set_option linter.unusedSimpArgs false
/-! ### the cells that the document names -/
def refCells (t : List S41) : List Int := ((List.range 64).filter fun c => t.any fun o => o.f0 == 2 && o.f1 == ((c : Nat) : Int)).map fun c => ((c : Nat) : Int)
theorem rCells_l1 (t : List S41) (hm : t.length ≤ 12) (c K : Nat) (out : List Int) (r : Option (List Int)) (ho : out.length < 4611686018427) (he : ∀ k, K < k → handshakerref07_Cells.l0 k (refT t) (if (t.any fun o => o.f0 == 2 && o.f1 == (c : Int)) = true then out ++ [(c : Int)] else out) (wrap64 ((c : Int) + 1)) = r) (d : Nat) : ∀ (k i : Nat) (b : Bool), i ≤ t.length → t.length - i = d → d + K + 1 < k → b = ((t.take i).any fun o => o.f0 == 2 && o.f1 == (c : Int)) →
    handshakerref07_Cells.l1 k (refT t) out (c : Int) b (i : Int) = r := by
  induction d with
  | zero =>
    intro k i b hi hd hk hb
    obtain ⟨k, rfl⟩ : ∃ m, k = m + 1 := ⟨k - 1, by omega⟩
    rw [List.take_of_length_le (by omega)] at hb
    have he' := he k (by omega)
    simp only [handshakerref07_Cells.l1]
    rw [if_neg (by rw [ref_len]; omega)]
    cases b with
    | true =>
      rw [if_pos hb.symm] at he'
      rw [if_pos rfl, if_pos (by omega)]
      exact he'
    | false =>
      rw [if_neg (by rw [← hb]; decide)] at he'
      rw [if_neg (by decide)]
      exact he'
  | succ d ih =>
    intro k i b hi hd hk hb
    obtain ⟨k, rfl⟩ : ∃ m, k = m + 1 := ⟨k - 1, by omega⟩
    have et := take_sn t i (by omega)
    have en : ((t.take (i + 1)).any fun o => o.f0 == 2 && o.f1 == (c : Int)) = (b || ((t.getD i z41).f0 == 2 && (t.getD i z41).f1 == (c : Int))) := by
      rw [et, List.any_append, ← hb]; simp
    simp only [handshakerref07_Cells.l1]
    rw [if_pos (by rw [ref_len]; omega), wrN (by omega), ref_at t i (by omega)]
    generalize t.getD i z41 = o at *
    cases b with
    | true =>
      rw [if_pos rfl]
      exact ih k (i + 1) true (by omega) (by omega) (by omega) (by rw [en]; rfl)
    | false =>
      rw [if_neg (by decide), if_pos (by omega)]
      by_cases h2 : o.f0 = 2
      · rw [if_pos (show (cv o).f0 = 2 from h2)]
        exact ih k (i + 1) _ (by omega) (by omega) (by omega) (by rw [en, h2]; simp)
      · rw [if_neg (show ¬ (cv o).f0 = 2 from h2)]
        exact ih k (i + 1) _ (by omega) (by omega) (by omega) (by rw [en, show (o.f0 == 2) = false from beq_eq_false_iff_ne.2 h2]; rfl)
theorem rCells_l0 (t : List S41) (hm : t.length ≤ 12) (d : Nat) : ∀ (k c : Nat), c ≤ 64 → 64 - c = d → 20 * d + 20 < k →
    handshakerref07_Cells.l0 k (refT t) (((List.range c).filter fun c => t.any fun o => o.f0 == 2 && o.f1 == ((c : Nat) : Int)).map fun c => ((c : Nat) : Int)) (c : Int) = some (refCells t) := by
  induction d with
  | zero =>
    intro k c hc hd hk
    obtain ⟨k, rfl⟩ : ∃ m, k = m + 1 := ⟨k - 1, by omega⟩
    have : c = 64 := by omega
    subst this
    simp only [handshakerref07_Cells.l0]
    rw [if_neg (by omega)]
    rfl
  | succ d ih =>
    intro k c hc hd hk
    obtain ⟨k, rfl⟩ : ∃ m, k = m + 1 := ⟨k - 1, by omega⟩
    simp only [handshakerref07_Cells.l0]
    rw [if_pos (by omega)]
    refine rCells_l1 t hm c (20 * d + 20) _ _ ?_ (fun k hk => ?_) t.length k 0 false (by omega) (by omega) (by omega) (by simp)
    · rw [List.length_map]
      refine Nat.lt_of_le_of_lt (List.length_filter_le _ _) ?_
      rw [List.length_range]; omega
    · rw [wrN (by omega), ← ih k (c + 1) (by omega) (by omega) hk, List.range_succ, List.filter_append, List.map_append]
      by_cases hx : (t.any fun o => o.f0 == 2 && o.f1 == (c : Int)) = true
      · rw [if_pos hx]; simp only [List.filter_cons, hx, if_true, List.filter_nil, List.map_cons, List.map_nil]
      · rw [if_neg hx]; simp only [List.filter_cons, hx, List.filter_nil, List.map_nil, List.append_nil, if_false, Bool.false_eq_true]
theorem rCells_f (k : Nat) (t : List S41) (hk : 1400 < k) : handshakerref07_Cells.f k (refT t) = some (if checkB t = 0 then refCells t else []) := by
  unfold handshakerref07_Cells.f
  rw [rCheck_f k t (by omega)]
  simp only [Option.bind_some]
  by_cases h1 : checkB t = 0
  · rw [if_pos h1, if_pos h1]
    obtain ⟨c1, c2, c3, c4⟩ := checkB_ok h1
    exact rCells_l0 t c2 64 k 0 (by omega) (by omega) (by omega)
  · rw [if_neg h1, if_neg h1]
/-- Rows that rise and have the same elements are the same. -/
theorem rise_ext : ∀ (a b : List Int), a.Pairwise (· < ·) → b.Pairwise (· < ·) → (∀ x, x ∈ a ↔ x ∈ b) → a = b
  | [], [], _, _, _ => rfl
  | [], y :: b, _, _, h => by have := (h y).2 (by simp); simp at this
  | x :: a, [], _, _, h => by have := (h x).1 (by simp); simp at this
  | x :: a, y :: b, ha, hb, h => by
    obtain ⟨a1, a2⟩ := List.pairwise_cons.1 ha
    obtain ⟨b1, b2⟩ := List.pairwise_cons.1 hb
    have exy : x = y := by
      rcases List.mem_cons.1 ((h x).1 (by simp)) with e | e
      · exact e
      · rcases List.mem_cons.1 ((h y).2 (by simp)) with e2 | e2
        · exact e2.symm
        · have := a1 y e2
          have := b1 x e
          omega
    subst exy
    rw [rise_ext a b a2 b2 fun z => ?_]
    constructor
    · intro hz
      rcases List.mem_cons.1 ((h z).1 (by simp [hz])) with e | e
      · have := a1 z hz; omega
      · exact e
    · intro hz
      rcases List.mem_cons.1 ((h z).2 (by simp [hz])) with e | e
      · have := b1 z hz; omega
      · exact e
theorem mem_comp (l : List Int) (x : Int) : x ∈ Go.Lib.compact l ↔ x ∈ l := by
  constructor
  · intro h
    unfold Go.Lib.compact Go.Lib.compactUpTo at h
    obtain ⟨i, hi, rfl⟩ := List.mem_map.1 h
    have hi' : i < l.length := List.mem_range.1 (List.mem_filter.1 hi).1
    simp [getElem!_pos, hi']
  intro h
  have key : ∀ i : Nat, i < l.length → ∃ j, j ≤ i ∧ Go.Lib.keeps l.toArray j = true ∧ l.toArray[j]! = l.toArray[i]! := by
    intro i
    induction i with
    | zero => intro _; exact ⟨0, by omega, by simp [Go.Lib.keeps], rfl⟩
    | succ i ih =>
      intro hi
      by_cases e : l.toArray[i + 1]! = l.toArray[i]!
      · obtain ⟨j, h1, h2, h3⟩ := ih (by omega)
        exact ⟨j, by omega, h2, h3.trans e.symm⟩
      · exact ⟨i + 1, by omega, by unfold Go.Lib.keeps; exact decide_eq_true (.inr (by simpa using e)), rfl⟩
  obtain ⟨i, hi, rfl⟩ := List.mem_iff_getElem.1 h
  obtain ⟨j, h1, h2, h3⟩ := key i hi
  unfold Go.Lib.compact Go.Lib.compactUpTo
  refine List.mem_map.2 ⟨j, List.mem_filter.2 ⟨List.mem_range.2 (by omega), h2⟩, ?_⟩
  rw [h3]
  simp [getElem!_pos, hi]
theorem comp_rise (l : List Int) (hs : l.Pairwise (· ≤ ·)) : (Go.Lib.compact l).Pairwise (· < ·) := by
  unfold Go.Lib.compact Go.Lib.compactUpTo
  rw [List.pairwise_map]
  have hp : (List.range l.length).Pairwise (· < ·) := List.pairwise_lt_range
  have hp2 := List.Pairwise.filter (Go.Lib.keeps l.toArray) hp
  refine List.Pairwise.imp_of_mem ?_ hp2
  intro i j hi hj hij
  have hi1 : i < l.length := List.mem_range.1 (List.mem_filter.1 hi).1
  have hj1 : j < l.length := List.mem_range.1 (List.mem_filter.1 hj).1
  have hk := (List.mem_filter.1 hj).2
  unfold Go.Lib.keeps at hk
  have hk := of_decide_eq_true hk
  have hne : l.toArray[j]! ≠ l.toArray[j - 1]! := by
    rcases hk with h | h
    · omega
    · exact h
  have hget := List.pairwise_iff_getElem.1 hs
  have e1 : ∀ q, (hq : q < l.length) → l.toArray[q]! = l[q] := fun q hq => by simp [getElem!_pos, hq]
  rw [e1 j hj1, e1 (j - 1) (by omega)] at hne
  rw [e1 i hi1, e1 j hj1]
  have h1 : l[j - 1] ≤ l[j] := hget (j - 1) j (by omega) hj1 (by omega)
  have h2 : l[i] ≤ l[j - 1] := by
    by_cases e : i = j - 1
    · subst e; exact Int.le_refl _
    · exact hget i (j - 1) hi1 (by omega) (by omega)
  omega
theorem cells_same (t : List S41) : cellsB t = if checkB t = 0 then refCells t else [] := by
  unfold cellsB
  by_cases h1 : checkB t = 0
  · rw [if_pos h1, if_pos h1]
    obtain ⟨c1, c2, c3, c4⟩ := checkB_ok h1
    refine rise_ext _ _ (comp_rise _ ?_) ?_ fun x => ?_
    · have := List.pairwise_mergeSort (le := fun x y : Int => decide (x ≤ y)) (by intro a b c; simp; omega) (by intro a b; simp; omega) (cellsL t)
      exact this.imp fun h => of_decide_eq_true h
    · unfold refCells
      rw [List.pairwise_map]
      exact (List.Pairwise.filter _ List.pairwise_lt_range).imp fun h => by omega
    · rw [mem_comp, List.mem_mergeSort]
      unfold cellsL refCells
      simp only [List.mem_map, List.mem_filter, List.mem_range, List.any_eq_true, Bool.and_eq_true, beq_iff_eq]
      constructor
      · rintro ⟨o, ⟨h2, h3⟩, rfl⟩
        have hmo := c3 o h2
        unfold mayB at hmo
        rw [if_neg (by omega), if_pos h3] at hmo
        have hmo := of_decide_eq_true hmo
        exact ⟨o.f1.toNat, ⟨by omega, o, h2, h3, by omega⟩, by omega⟩
      · rintro ⟨c, ⟨h2, o, h3, h4, h5⟩, rfl⟩
        exact ⟨o, ⟨h3, h4⟩, h5⟩
  · rw [if_neg h1, if_neg h1]
theorem Numbers_l (l : List Int) (hm : l.length < 4398046511104) (d : Nat) : ∀ (k i : Nat), i ≤ l.length → l.length - i = d → d < k → handshakerref03_Numbers.l0 k l l (i : Int) = some true := by
  induction d with
  | zero =>
    intro k i hi hd hk
    obtain ⟨k, rfl⟩ : ∃ m, k = m + 1 := ⟨k - 1, by omega⟩
    simp only [handshakerref03_Numbers.l0]
    rw [if_neg (by omega)]
  | succ d ih =>
    intro k i hi hd hk
    obtain ⟨k, rfl⟩ : ∃ m, k = m + 1 := ⟨k - 1, by omega⟩
    simp only [handshakerref03_Numbers.l0]
    rw [if_pos (by omega), if_pos (by omega), if_pos (by omega), if_pos trivial, wrN (by omega)]
    exact ih k (i + 1) (by omega) (by omega) (by omega)
theorem Numbers_f (k : Nat) (l : List Int) (hm : l.length < 4398046511104) (hk : l.length < k) : handshakerref03_Numbers.f k l l = some true := by
  unfold handshakerref03_Numbers.f
  rw [if_pos rfl]
  exact Numbers_l l hm l.length k 0 (by omega) (by omega) (by omega)
theorem TermTells : handshakerlaw07_TermTells.Pure := by
  intro t h regs _ _ _ _ _ _ _ _ hregs
  refine ⟨2002, ?_⟩
  generalize hK : (2002 : Nat) = K
  obtain ⟨K, rfl⟩ : ∃ q, K = q + 1 := ⟨K - 1, by omega⟩
  have aw : ∀ (b : Bool), b = true → handshakerlaw07_TermTells.j0 (K + 1) t h regs b = some true := by
    intro b hb
    simp only [handshakerlaw07_TermTells.j0]
    rw [if_pos hb, awake7 _ (by omega)]; rfl
  unfold handshakerlaw07_TermTells.f
  by_cases h1 : (t.length : Int) > 30
  · rw [if_pos h1]; exact aw _ rfl
  rw [if_neg h1]
  by_cases h2 : (h.length : Int) > 100
  · rw [if_pos h2]; exact aw _ rfl
  rw [if_neg h2]
  by_cases h4 : (regs.length : Int) > 20
  · exact aw _ (by simpa using h4)
  have hg : ∀ y ∈ regs, -9223372036854775808 ≤ y ∧ y ≤ 9223372036854775807 := by
    intro y hy
    simpa [Lit.wf, IntKind.bits, IntKind.signed, IntKind.min, IntKind.max] using hregs y hy
  simp only [handshakerlaw07_TermTells.j0]
  rw [if_neg (by simpa using h4)]
  simp only [Eval_f K t _ regs (show 20 ≤ K by omega), Ref_f K t (show t.length < 4398046511104 by omega) (show t.length < K by omega), rEval_f K t h regs (show 110 ≤ K by omega) (show h.length < 4398046511104 by omega) (show h.length < K by omega) hg, Check_f K t (show 20 ≤ K by omega), rCheck_f K t (show 40 ≤ K by omega), Cells_f K t (show 20 ≤ K by omega), rCells_f K t (show 1400 < K by omega), Deep_f K t (show 20 ≤ K by omega), rDeep_f K t (show 110 ≤ K by omega), awake7 K (show 60 ≤ K by omega), Option.bind_some, ← cells_same, if_true]
  have hl := cellsB_len t
  rw [Numbers_f K _ (by omega) (by omega)]
  rfl
end Go.Proofs.Ytbcpnbmegaodbaa.Tc
namespace Go.Proofs.Ytbcpnbmegaodbaa.Pure
theorem TermTells : Go.Proofs.Ytbcpnbmegaodbaa.Tc.handshakerlaw07_TermTells.Pure := Go.Proofs.Ytbcpnbmegaodbaa.Tc.TermTells
end Go.Proofs.Ytbcpnbmegaodbaa.Pure
