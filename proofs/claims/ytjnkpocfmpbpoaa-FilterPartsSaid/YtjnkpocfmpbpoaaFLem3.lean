/-
 PROVED: Plain lemmas on numbers and lists, of what the printed functions answer. No condition beside those of each lemma.
-/
import Derived.Test.YtjnkpocfmpbpoaaFLem
import Derived.Test.YtjnkpocfmpbpoaaFLem2
import Derived.Test.YtjnkpocfmpbpoaaFx3
import Derived.Test.YtjnkpocfmpbpoaaFx4
import Derived.Test.YtjnkpocfmpbpoaaFx5
import Derived.Test.YtjnkpocfmpbpoaaFx6
import Derived.Test.YtjnkpocfmpbpoaaFx7
import Derived.Test.YtjnkpocfmpbpoaaFx8
import Derived.Test.YtjnkpocfmpbpoaaFx15
namespace Go.Proofs.Ytjnkpocfmpbpoaa.F
open Go.RowKit Go.Proofs.YtjnkpocfmpbpoaaW.PrintWords Go.Proofs.YtjnkpocfmpbpoaaW.PrintLast Go.Proofs.YtjnkpocfmpbpoaaW.PrintMore Go.Proofs.Ytjnkpocfmpbpoaa.Ho
set_option linter.unusedVariables false
set_option linter.unusedSimpArgs false
theorem mid_f (i j : Nat) (h : i + j < 4611686018427387904) : wrap64 ((IntKind.u64.wrap (wrap64 ((i : Int) + (j : Int)))) / 2) = (((i + j) / 2 : Nat) : Int) := by
 have e1 : wrap64 ((i : Int) + (j : Int)) = ((i + j : Nat) : Int) := by rw [wr (by omega) (by omega)]; omega
 have e2 : IntKind.u64.wrap ((i + j : Nat) : Int) = ((i + j : Nat) : Int) := by
  unfold IntKind.wrap
  simp only [IntKind.bits, IntKind.signed]
  first | omega | (simp; omega)
 rw [e1, e2, wr (by omega) (by omega)]; omega
theorem cmp_f (a b : Int) : cmp_Compare.f a b = some (if a < b then -1 else if a > b then 1 else 0) := by
 unfold cmp_Compare.f cmp_isNaN.f
 simp only [Option.bind_some, bne_self_eq_false, Bool.false_eq_true, if_false]
 split
 · rfl
 · split <;> rfl
/-- The first place whose version is not below v: below it all are below. -/
def Cut (p : List S26) (v : Int) (i : Nat) : Prop := i ≤ p.length ∧ (∀ j, j < i → (p.getD j z26).f0 < v) ∧ (∀ j, i ≤ j → j < p.length → v ≤ (p.getD j z26).f0)
theorem search_l (p : List S26) (v : Int) (hm : p.length < 1073741824) (hs : ∀ i j, i < j → j < p.length → (p.getD i z26).f0 < (p.getD j z26).f0) : ∀ (d k i j : Nat), i ≤ j → j ≤ p.length → j - i ≤ d → d + 1 < k → (∀ m, m < i → (p.getD m z26).f0 < v) → (∀ m, j ≤ m → m < p.length → v ≤ (p.getD m z26).f0) →
 ∃ c, Cut p v c ∧ slices_BinarySearchFunc_at_sleep_place_1.l0 k p v (p.length : Int) (i : Int) (j : Int) = some ((c : Int), decide (c < p.length ∧ (p.getD c z26).f0 = v)) := by
 intro d
 induction d with
 | zero =>
  intro k i j hij hj hd hk h1 h2
  obtain ⟨k, rfl⟩ : ∃ m, k = m + 1 := ⟨k - 1, by omega⟩
  have : i = j := by omega
  subst this
  refine ⟨i, ⟨hj, h1, h2⟩, ?_⟩
  simp only [slices_BinarySearchFunc_at_sleep_place_1.l0]
  rw [if_neg (by omega)]
  by_cases h : i < p.length
  · rw [if_pos (by omega), if_pos (by omega), if_pos (by omega)]
    unfold sleep_place_1.f
    rw [cmp_f, show rd_T26 p (i : Int) = p.getD i z26 from rfl]
    simp only [Option.bind_some]
    have := h2 i (Nat.le_refl _) h
    by_cases e : (p.getD i z26).f0 = v
    · rw [if_neg (by omega), if_neg (by omega), decide_eq_true ⟨h, e⟩]; rfl
    · rw [if_neg (by omega), if_pos (by omega), decide_eq_false (fun g => e g.2)]; rfl
  · rw [if_neg (by omega), decide_eq_false (fun g => h g.1)]
 | succ d ih =>
  intro k i j hij hj hd hk h1 h2
  by_cases e : i = j
  · exact ih k i j hij hj (by omega) (by omega) h1 h2
  obtain ⟨k, rfl⟩ : ∃ m, k = m + 1 := ⟨k - 1, by omega⟩
  have hmid : i ≤ (i + j) / 2 ∧ (i + j) / 2 < j := by omega
  simp only [slices_BinarySearchFunc_at_sleep_place_1.l0]
  rw [if_pos (by omega), mid_f i j (by omega)]
  generalize (i + j) / 2 = m at *
  rw [if_pos (by omega), if_pos (by omega), wrN (by omega)]
  unfold sleep_place_1.f
  rw [cmp_f, show rd_T26 p (m : Int) = p.getD m z26 from rfl]
  simp only [Option.bind_some]
  by_cases hlt : (p.getD m z26).f0 < v
  · rw [if_pos hlt, if_pos (by decide)]
    refine ih k (m + 1) j (by omega) hj (by omega) (by omega) (fun q hq => ?_) h2
    by_cases eq : q = m
    · rw [eq]; exact hlt
    · have := hs q m (by omega) (by omega); omega
  · rw [if_neg hlt, if_neg (by split <;> decide)]
    refine ih k i m (by omega) (by omega) (by omega) (by omega) h1 (fun q hq hq2 => ?_)
    by_cases eq : q = m
    · rw [eq]; omega
    · have := hs m q (by omega) hq2; omega
theorem search_f (k : Nat) (p : List S26) (v : Int) (hm : p.length < 1073741824) (hs : ∀ i j, i < j → j < p.length → (p.getD i z26).f0 < (p.getD j z26).f0) (hk : p.length + 1 < k) :
 ∃ c, Cut p v c ∧ slices_BinarySearchFunc_at_sleep_place_1.f k p v = some ((c : Int), decide (c < p.length ∧ (p.getD c z26).f0 = v)) := by
 unfold slices_BinarySearchFunc_at_sleep_place_1.f
 exact search_l p v hm hs p.length k 0 p.length (by omega) (by omega) (by omega) (by omega) (fun m hm => by omega) (fun m h1 h2 => by omega)
/-! ### who sleeps -/
abbrev Sp := S26
abbrev Wr := S62
theorem getD_in {α : Type} (l : List α) (z : α) (i : Nat) (h : i < l.length) : l.getD i z ∈ l := by
 rw [List.getD_eq_getElem?_getD, List.getElem?_eq_getElem h]; exact List.getElem_mem _
theorem take_snG {α : Type} (l : List α) (z : α) (i : Nat) (hi : i < l.length) : l.take (i + 1) = l.take i ++ [l.getD i z] := by
 rw [List.take_add_one, List.getD_eq_getElem?_getD, List.getElem?_eq_getElem hi]; rfl
theorem mem_takeG {α : Type} (l : List α) (z : α) (i : Nat) (x : α) (hi : i ≤ l.length) (h : x ∈ l.take i) : ∃ m, m < i ∧ l.getD m z = x := by
 obtain ⟨m, hm, rfl⟩ := List.mem_iff_getElem.1 h
 rw [List.length_take] at hm
 refine ⟨m, by omega, ?_⟩
 rw [List.getD_eq_getElem?_getD, List.getElem?_eq_getElem (by omega), List.getElem_take]; rfl
def tickB (a : Int) : Bool := decide (0 ≤ a ∧ a ≤ 2147483647)
theorem tick_f (a : Int) : tick_Right.f a = some (tickB a) := by
 unfold tick_Right.f tickB
 by_cases h : a ≥ 0
 · rw [if_pos h]; congr 1; rw [decide_eq_decide]; omega
 · rw [if_neg h]; congr 1; symm; rw [decide_eq_false_iff_not]; omega
theorem Equal_l (a b : List Int) (hl : a.length = b.length) (hm : a.length < 4398046511104) (d : Nat) : ∀ (k i : Nat), i ≤ a.length → a.length - i = d → d < k → slices_Equal.l0 k a b (a.length : Int) (i : Int) = some (decide (a.drop i = b.drop i)) := by
 induction d with
 | zero =>
  intro k i hi hd hk
  obtain ⟨k, rfl⟩ : ∃ m, k = m + 1 := ⟨k - 1, by omega⟩
  simp only [slices_Equal.l0]
  rw [if_neg (by omega), List.drop_of_length_le (by omega), List.drop_of_length_le (by omega)]; rfl
 | succ d ih =>
  intro k i hi hd hk
  obtain ⟨k, rfl⟩ : ∃ m, k = m + 1 := ⟨k - 1, by omega⟩
  simp only [slices_Equal.l0]
  rw [if_pos (by omega), if_pos (by omega), if_pos (by omega), if_pos (by omega), wrN (by omega), ih k (i + 1) (by omega) (by omega) (by omega), drop_cons a 0 i (by omega), drop_cons b 0 i (by omega), show rd a (i : Int) = a.getD i 0 from rfl, show rd b (i : Int) = b.getD i 0 from rfl]
  by_cases e : a.getD i 0 = b.getD i 0
  · rw [if_pos e, e]; congr 1; rw [decide_eq_decide]; simp
  · rw [if_neg e]; congr 1; symm; rw [decide_eq_false_iff_not]; intro h; injection h with h _; exact e h
theorem Equal_f (k : Nat) (a b : List Int) (hm : a.length < 4398046511104) (hk : a.length < k) : slices_Equal.f k a b = some (decide (a = b)) := by
 unfold slices_Equal.f
 by_cases hl : a.length = b.length
 · rw [if_pos (by omega)]
   have := Equal_l a b hl hm a.length k 0 (by omega) (by omega) (by omega)
   exact this
 · rw [if_neg (by omega)]; congr 1; symm; rw [decide_eq_false_iff_not]; intro h; exact hl (by rw [h])
theorem SCells_l (w : List Wr) (hm : w.length < 4398046511104) (d : Nat) : ∀ (k i : Nat), i ≤ w.length → w.length - i = d → d < k → sleep_Sleeper_cells.l0 k ((w.take i).map fun x => x.f0) w (w.length : Int) (i : Int) = some (w.map fun x => x.f0) := by
 induction d with
 | zero =>
  intro k i hi hd hk
  obtain ⟨k, rfl⟩ : ∃ m, k = m + 1 := ⟨k - 1, by omega⟩
  simp only [sleep_Sleeper_cells.l0]
  rw [if_neg (by omega), List.take_of_length_le (by omega)]
 | succ d ih =>
  intro k i hi hd hk
  obtain ⟨k, rfl⟩ : ∃ m, k = m + 1 := ⟨k - 1, by omega⟩
  have next := ih k (i + 1) (by omega) (by omega) (by omega)
  rw [take_snG w z62 i (by omega), List.map_append] at next
  simp only [sleep_Sleeper_cells.l0]
  rw [if_pos (by omega), if_pos (by omega), if_pos (by omega), if_pos (by rw [List.length_map, List.length_take]; omega), wrN (by omega), show rd_T62 w (i : Int) = w.getD i z62 from rfl]
  exact next
theorem SCells_f (k : Nat) (a b c : Int) (w : List Wr) (t : List S80) (hm : w.length < 4398046511104) (hk : w.length < k) : sleep_Sleeper_cells.f k a b c w t = some (w.map fun x => x.f0) := by
 unfold sleep_Sleeper_cells.f
 exact SCells_l w hm w.length k 0 (by omega) (by omega) (by omega)
def okW (w : List Wr) (i : Nat) : Prop := (0 ≤ (w.getD i z62).f0 ∧ (w.getD i z62).f0 < 64) ∧ inR (w.getD i z62).f1 = true ∧ (0 < i → (w.getD (i - 1) z62).f0 < (w.getD i z62).f0)
instance (w : List Wr) (i : Nat) : Decidable (okW w i) := by unfold okW; infer_instance
def watchB (w : List Wr) : Bool := decide (w.length ≤ 24 ∧ ∀ i, i < w.length → okW w i)
theorem watchB_iff (w : List Wr) : watchB w = true ↔ w.length ≤ 24 ∧ ∀ i, i < w.length → okW w i := by unfold watchB; rw [decide_eq_true_eq]
theorem watch_l (w : List Wr) (hm : w.length < 4398046511104) (d : Nat) : ∀ (k i : Nat), i ≤ w.length → w.length - i = d → d < k → (∀ j, j < i → okW w j) → sleep_watches.l0 k w w (w.length : Int) (i : Int) = some (watchB w) := by
 induction d with
 | zero =>
  intro k i hi hd hk h
  obtain ⟨k, rfl⟩ : ∃ m, k = m + 1 := ⟨k - 1, by omega⟩
  simp only [sleep_watches.l0]
  rw [if_neg (by omega)]
  unfold watchB
  congr 1
  rw [decide_eq_decide]
  exact ⟨fun g => ⟨by omega, fun j hj => h j (by omega)⟩, fun g => by omega⟩
 | succ d ih =>
  intro k i hi hd hk h
  obtain ⟨k, rfl⟩ : ∃ m, k = m + 1 := ⟨k - 1, by omega⟩
  have no : ¬ okW w i → some false = some (watchB w) := fun g => by
   unfold watchB
   rw [decide_eq_false (fun e => g (e.2 i (by omega)))]
  have yes : okW w i → sleep_watches.l0 k w w (w.length : Int) ((i + 1 : Nat) : Int) = some (watchB w) := fun g => by
   refine ih k (i + 1) (by omega) (by omega) (by omega) fun j hj => ?_
   by_cases ej : j = i
   · rw [ej]; exact g
   · exact h j (by omega)
  simp only [sleep_watches.l0]
  rw [if_pos (by omega), if_pos (by omega), if_pos (by omega), right_f, wrN (by omega), show rd_T62 w (i : Int) = w.getD i z62 from rfl]
  by_cases a0 : (w.getD i z62).f0 < 0
  · rw [if_pos a0]; exact no fun g => by have := g.1.1; omega
  rw [if_neg a0]
  by_cases a1 : (w.getD i z62).f0 ≥ 64
  · rw [if_pos a1]; exact no fun g => by have := g.1.2; omega
  rw [if_neg a1, Option.bind_some]
  by_cases a2 : inR (w.getD i z62).f1 = true
  · rw [if_pos a2]
    by_cases hz : i = 0
    · rw [if_neg (by omega)]
      exact yes ⟨⟨by omega, by omega⟩, a2, fun g => by omega⟩
    · have ew : wrap64 ((i : Int) - 1) = ((i - 1 : Nat) : Int) := by rw [wr (by omega) (by omega)]; omega
      rw [if_pos (by omega), ew, if_pos (by omega), if_pos (by omega), show rd_T62 w ((i - 1 : Nat) : Int) = w.getD (i - 1) z62 from rfl]
      by_cases a4 : (w.getD (i - 1) z62).f0 ≥ (w.getD i z62).f0
      · rw [if_pos a4]; exact no fun g => by have := g.2.2 (by omega); omega
      · rw [if_neg a4]; exact yes ⟨⟨by omega, by omega⟩, a2, fun _ => by omega⟩
  · rw [if_neg a2]; exact no fun g => a2 g.2.1
theorem watch_f (k : Nat) (w : List Wr) (hm : w.length < 4398046511104) (hk : w.length < k) : sleep_watches.f k w = some (watchB w) := by
 unfold sleep_watches.f
 exact watch_l w hm w.length k 0 (by omega) (by omega) (by omega) (fun j hj => by omega)
def maySp (s : Sp) : Bool := decide (1 ≤ s.f0 ∧ s.f0 ≤ 8) && (tickB s.f2 && (watchB s.f3 && (if s.f1 = 3 then (if checkB s.f4 = 0 then (if (s.f4.any fun o => o.f0 == 3) = true then false else decide ((s.f3.map fun x => x.f0) = cellsB s.f4)) else false) else if s.f1 = 1 then s.f4.length == 0 else if s.f1 = 2 then s.f4.length == 0 else false)))
theorem maySp_f (k : Nat) (s : Sp) (hw : s.f3.length ≤ 1000) (hk : 1100 < k) : sleep_Sleeper_may.f k s.f0 s.f1 s.f2 s.f3 s.f4 = some (maySp s) := by
 obtain ⟨k, rfl⟩ : ∃ m, k = m + 1 := ⟨k - 1, by omega⟩
 obtain ⟨who, mode, til, w, t⟩ := s
 have hw' : w.length ≤ 1000 := hw
 unfold sleep_Sleeper_may.f maySp
 dsimp only
 have bad : sleep_Sleeper_may.j0 (k + 1) true who mode til w t = some false := by
  simp only [sleep_Sleeper_may.j0]; rw [if_pos trivial]
 by_cases h1 : who < 1
 · rw [if_pos h1, bad, decide_eq_false (show ¬ (1 ≤ who ∧ who ≤ 8) by omega)]; rfl
 rw [if_neg h1]
 by_cases h2 : who > 8
 · rw [if_pos h2, bad, decide_eq_false (show ¬ (1 ≤ who ∧ who ≤ 8) by omega)]; rfl
 rw [if_neg h2, tick_f, Option.bind_some, decide_eq_true (show 1 ≤ who ∧ who ≤ 8 by omega), Bool.true_and]
 by_cases h3 : tickB til = true
 · rw [if_pos h3, watch_f (k + 1) w (by omega) (by omega), Option.bind_some, h3, Bool.true_and]
   by_cases h4 : watchB w = true
   · rw [h4, Bool.true_and]
     simp only [sleep_Sleeper_may.j0]
     rw [if_neg (show ¬ (!true) = true by decide)]
     by_cases m3 : mode = 3
     · rw [if_pos m3, if_pos m3]
       unfold any_at_sleep_Sleeper_may_1.f
       rw [anyF_T (f := fun x : S80 => sleep_Sleeper_may_1.f x.f0 x.f1) (p := fun o => o.f0 == 3) t (fun x _ => rfl), Option.bind_some, Check_f k t (by omega), Option.bind_some]
       by_cases hc : checkB t = 0
       · rw [if_pos hc, if_pos hc]
         by_cases hn : (t.any fun o => o.f0 == 3) = true
         · rw [if_pos hn, if_pos hn]
         · rw [if_neg hn, if_neg hn, SCells_f k who mode til w t (by omega) (by omega), Option.bind_some, Cells_f k t (by omega), Option.bind_some, Equal_f k _ _ (by rw [List.length_map]; omega) (by rw [List.length_map]; omega)]; rfl
       · rw [if_neg hc, if_neg hc]
     · rw [if_neg m3, if_neg m3]
       have el : ((t.length : Int) == 0) = (t.length == 0) := by
        rw [Bool.eq_iff_iff, beq_iff_eq, beq_iff_eq]; omega
       by_cases m1 : mode = 1
       · rw [if_pos m1, if_pos m1, el]
       · rw [if_neg m1, if_neg m1]
         by_cases m2 : mode = 2
         · rw [if_pos m2, if_pos m2, el]
         · rw [if_neg m2, if_neg m2]
   · rw [Bool.eq_false_iff.2 h4]
     exact bad
 · rw [if_neg h3, bad, Bool.eq_false_iff.2 h3]; rfl
abbrev Lt (a b : Sp) : Prop := a.f0 < b.f0
abbrev RS (l : List Sp) : Prop := (∀ x ∈ l, maySp x = true) ∧ l.Pairwise Lt
def rightS (l : List Sp) : Bool := decide (RS l)
theorem rightS_iff (l : List Sp) : rightS l = true ↔ RS l := by unfold rightS; rw [decide_eq_true_eq]
theorem rightS_no {l : List Sp} (h : ¬ RS l) : rightS l = false := by unfold rightS; rw [decide_eq_false_iff_not]; exact h
theorem lt_at {l : List Sp} (h : l.Pairwise Lt) (i j : Nat) (hij : i < j) (hj : j < l.length) : (l.getD i z26).f0 < (l.getD j z26).f0 := by
 have := List.pairwise_iff_getElem.1 h i j (by omega) hj hij
 rw [List.getD_eq_getElem?_getD, List.getElem?_eq_getElem (by omega), List.getD_eq_getElem?_getD, List.getElem?_eq_getElem hj]
 exact this
theorem RightS_l (l : List Sp) (hm : l.length < 4398046511104) (hw : ∀ x ∈ l, x.f3.length ≤ 1000) (d : Nat) : ∀ (k i : Nat), i ≤ l.length → l.length - i = d → d + 1200 < k → (∀ x ∈ l.take i, maySp x = true) → (l.take i).Pairwise Lt →
 sleep_Right.l0 k l l (l.length : Int) (i : Int) = some (rightS l) := by
 induction d with
 | zero =>
  intro k i hi hd hk h1 h2
  obtain ⟨k, rfl⟩ : ∃ m, k = m + 1 := ⟨k - 1, by omega⟩
  rw [List.take_of_length_le (by omega)] at h1 h2
  simp only [sleep_Right.l0]
  rw [if_neg (by omega), (rightS_iff l).2 ⟨h1, h2⟩]
 | succ d ih =>
  intro k i hi hd hk h1 h2
  obtain ⟨k, rfl⟩ : ∃ m, k = m + 1 := ⟨k - 1, by omega⟩
  have hmem := getD_in l z26 i (by omega)
  have hs := take_snG l z26 i (by omega)
  have yes : maySp (l.getD i z26) = true → (∀ x ∈ l.take i, Lt x (l.getD i z26)) → sleep_Right.l0 k l l (l.length : Int) ((i + 1 : Nat) : Int) = some (rightS l) := fun g1 g2 => by
   refine ih k (i + 1) (by omega) (by omega) (by omega) (fun x hx => ?_) ?_
   · rw [hs] at hx
     rcases List.mem_append.1 hx with hx | hx
     · exact h1 x hx
     · rw [List.mem_singleton.1 hx]; exact g1
   · rw [hs, List.pairwise_append]
     exact ⟨h2, List.pairwise_singleton _ _, fun x hx y hy => by rw [List.mem_singleton.1 hy]; exact g2 x hx⟩
  simp only [sleep_Right.l0]
  rw [if_pos (by omega), if_pos (by omega), if_pos (by omega), show rd_T26 l (i : Int) = l.getD i z26 from rfl, maySp_f k _ (hw _ hmem) (by omega), wrN (by omega), Option.bind_some]
  by_cases a1 : maySp (l.getD i z26) = true
  · rw [if_pos a1]
    by_cases hz : i = 0
    · rw [if_neg (by omega)]
      exact yes a1 (fun x hx => by rw [hz] at hx; simp at hx)
    · have ew : wrap64 ((i : Int) - 1) = ((i - 1 : Nat) : Int) := by rw [wr (by omega) (by omega)]; omega
      rw [if_pos (by omega), ew, if_pos (by omega), if_pos (by omega), show rd_T26 l ((i - 1 : Nat) : Int) = l.getD (i - 1) z26 from rfl]
      by_cases a4 : (l.getD (i - 1) z26).f0 ≥ (l.getD i z26).f0
      · rw [if_pos a4, rightS_no]
        intro g
        have := lt_at g.2 (i - 1) i (by omega) (by omega)
        omega
      · rw [if_neg a4]
        refine yes a1 fun x hx => ?_
        obtain ⟨m, hm', rfl⟩ := mem_takeG l z26 i x (by omega) hx
        by_cases e : m = i - 1
        · rw [e]; show _ < _; omega
        · have hlt : (l.getD m z26).f0 < (l.getD (i - 1) z26).f0 := by
           have := lt_at h2 m (i - 1) (by omega) (by rw [List.length_take]; omega)
           have tk : ∀ q, q < i → (l.take i).getD q z26 = l.getD q z26 := fun q hq => by
            rw [List.getD_eq_getElem?_getD, List.getD_eq_getElem?_getD, List.getElem?_take, if_pos hq]
           rwa [tk m hm', tk (i - 1) (by omega)] at this
          show _ < _
          omega
  · rw [if_neg a1, rightS_no (fun g => a1 (g.1 _ hmem))]
theorem RightS_f (k : Nat) (l : List Sp) (hm : l.length < 4398046511104) (hw : ∀ x ∈ l, x.f3.length ≤ 1000) (hk : l.length + 1200 < k) : sleep_Right.f k l = some (rightS l) := by
 unfold sleep_Right.f
 exact RightS_l l hm hw l.length k 0 (by omega) (by omega) (by omega) (by simp) (by simp)
theorem place_f (k : Nat) (l : List Sp) (w : Int) (hm : l.length < 1073741824) (h : l.Pairwise Lt) (hk : l.length + 1 < k) :
 ∃ c, Cut l w c ∧ sleep_place.f k l w = some ((c : Int), decide (c < l.length ∧ (l.getD c z26).f0 = w)) := by
 obtain ⟨c, h1, h2⟩ := search_f k l w hm (fun i j hij hj => lt_at h i j hij hj) hk
 exact ⟨c, h1, by unfold sleep_place.f; rw [h2]; rfl⟩
abbrev FewS (l : List Sp) : Prop := l.length ≤ 30 ∧ ∀ x ∈ l, x.f3.length ≤ 40 ∧ x.f4.length ≤ 20
theorem RightF_f (k : Nat) (l : List Sp) (h : FewS l) (hk : 1300 < k) : sleep_Right.f k l = some (rightS l) :=
 RightS_f k l (by have := h.1; omega) (fun x hx => by have := (h.2 x hx).1; omega) (by have := h.1; omega)
theorem Small15_l (l : List Sp) (hm : l.length < 4398046511104) (d : Nat) : ∀ (k i : Nat), i ≤ l.length → l.length - i = d → d < k → (∀ x ∈ l.take i, x.f3.length ≤ 40 ∧ x.f4.length ≤ 20) →
 ∃ b : Int, handshakerlaw15_Small.l0 k l l (l.length : Int) (i : Int) = some b ∧ (b < 0 ∨ (0 ≤ b ∧ l.length ≤ 20 ∧ ∀ x ∈ l, x.f3.length ≤ 40 ∧ x.f4.length ≤ 20)) := by
 induction d with
 | zero =>
  intro k i hi hd hk h
  obtain ⟨k, rfl⟩ : ∃ m, k = m + 1 := ⟨k - 1, by omega⟩
  rw [List.take_of_length_le (by omega)] at h
  simp only [handshakerlaw15_Small.l0]
  rw [if_neg (by omega)]
  by_cases h2 : (l.length : Int) > 20
  · rw [if_pos h2]; exact ⟨-1, rfl, .inl (by decide)⟩
  · rw [if_neg h2]; exact ⟨_, rfl, .inr ⟨by omega, by omega, h⟩⟩
 | succ d ih =>
  intro k i hi hd hk h
  obtain ⟨k, rfl⟩ : ∃ m, k = m + 1 := ⟨k - 1, by omega⟩
  simp only [handshakerlaw15_Small.l0]
  rw [if_pos (by omega), if_pos (by omega), if_pos (by omega), wrN (by omega), show rd_T26 l (i : Int) = l.getD i z26 from rfl]
  by_cases h1 : ((l.getD i z26).f3.length : Int) > 40
  · rw [if_pos h1]; exact ⟨-1, rfl, .inl (by decide)⟩
  rw [if_neg h1]
  by_cases h2 : ((l.getD i z26).f4.length : Int) > 20
  · rw [if_pos h2]; exact ⟨-1, rfl, .inl (by decide)⟩
  rw [if_neg h2]
  refine ih k (i + 1) (by omega) (by omega) (by omega) fun x hx => ?_
  rw [take_snG l z26 i (by omega)] at hx
  rcases List.mem_append.1 hx with hx | hx
  · exact h x hx
  · rw [List.mem_singleton.1 hx]; omega
theorem Small15_f (k : Nat) (l : List Sp) (hm : l.length < 4398046511104) (hk : l.length < k) : ∃ b : Int, handshakerlaw15_Small.f k l = some b ∧ (b < 0 ∨ (0 ≤ b ∧ l.length ≤ 20 ∧ ∀ x ∈ l, x.f3.length ≤ 40 ∧ x.f4.length ≤ 20)) := by
 unfold handshakerlaw15_Small.f
 exact Small15_l l hm l.length k 0 (by omega) (by omega) (by omega) (by simp)
/-! ### who watches -/
theorem Index_l (l : List Int) (a : Int) (hm : l.length < 4398046511104) (d : Nat) : ∀ (k i : Nat), i ≤ l.length → l.length - i = d → d < k → slices_Index.l0 k l a (l.length : Int) (i : Int) = some (idxT (fun x => x == a) (l.drop i) (i : Int)) := by
 induction d with
 | zero =>
  intro k i hi hd hk
  obtain ⟨k, rfl⟩ : ∃ m, k = m + 1 := ⟨k - 1, by omega⟩
  simp only [slices_Index.l0]
  rw [if_neg (by omega), List.drop_of_length_le (by omega)]; rfl
 | succ d ih =>
  intro k i hi hd hk
  obtain ⟨k, rfl⟩ : ∃ m, k = m + 1 := ⟨k - 1, by omega⟩
  simp only [slices_Index.l0]
  rw [if_pos (by omega), if_pos (by omega), if_pos (by omega), wrN (by omega), show rd l (i : Int) = l.getD i 0 from rfl, drop_cons l 0 i (by omega), ih k (i + 1) (by omega) (by omega) (by omega)]
  by_cases e : a = l.getD i 0
  · rw [if_pos e, idxT_yes (by simpa using e.symm)]
  · rw [if_neg e, idxT_no (by simpa using fun h => e h.symm)]; rfl
theorem Contains_f (k : Nat) (l : List Int) (a : Int) (hm : l.length < 4398046511104) (hk : l.length < k) : slices_Contains.f k l a = some (l.contains a) := by
 unfold slices_Contains.f slices_Index.f
 have := Index_l l a hm l.length k 0 (by omega) (by omega) (by omega)
 rw [show ((0 : Nat) : Int) = 0 from rfl, List.drop_zero] at this
 rw [this, Option.bind_some]
 congr 1
 rcases idxT_cases (fun x => x == a) 0 l 0 with ⟨h1, h2⟩ | ⟨j, hj, h1, h2, _⟩
 · rw [h1, decide_eq_false (by decide)]
   symm
   rw [Bool.eq_false_iff]
   intro h
   have := h2 a (List.contains_iff_mem.1 h)
   simp at this
 · rw [h1, decide_eq_true (by omega)]
   symm
   rw [List.contains_iff_mem]
   have e : l.getD j 0 = a := by simpa using h2
   rw [← e]
   exact getD_in l 0 j hj
def isOf (cells : List Int) (s : Sp) : Bool := s.f3.any fun w => cells.contains w.f0
theorem anyOf_f (k : Nat) (w : List Wr) (cells : List Int) (hm : cells.length < 4398046511104) (hk : cells.length < k) : any_at_sleep_Of_1.f k (w.map fun x => x.f0) cells = some (w.any fun x => cells.contains x.f0) := by
 unfold any_at_sleep_Of_1.f
 rw [anyF_T (f := fun x : Int => sleep_Of_1.f k x cells) (p := fun c => cells.contains c) _ (fun x _ => by unfold sleep_Of_1.f; rw [Contains_f k cells x hm hk]; rfl), List.any_map]
 rfl
theorem Of_l (l : List Sp) (cells : List Int) (hF : FewS l) (hm : cells.length ≤ 100) (d : Nat) : ∀ (k i : Nat), i ≤ l.length → l.length - i = d → d + 200 < k →
 sleep_Of.l0 k (((l.take i).filter (isOf cells)).map fun s => s.f0) l (l.length : Int) (i : Int) cells = some ((l.filter (isOf cells)).map fun s => s.f0) := by
 have hlen := hF.1
 induction d with
 | zero =>
  intro k i hi hd hk
  obtain ⟨k, rfl⟩ : ∃ m, k = m + 1 := ⟨k - 1, by omega⟩
  simp only [sleep_Of.l0]
  rw [if_neg (by omega), List.take_of_length_le (by omega)]
 | succ d ih =>
  intro k i hi hd hk
  obtain ⟨k, rfl⟩ : ∃ m, k = m + 1 := ⟨k - 1, by omega⟩
  have next := ih k (i + 1) (by omega) (by omega) (by omega)
  have hs := hF.2 _ (getD_in l z26 i (by omega))
  rw [take_snG l z26 i (by omega), List.filter_append, List.map_append] at next
  simp only [sleep_Of.l0]
  rw [if_pos (by omega), if_pos (by omega), if_pos (by omega), show rd_T26 l (i : Int) = l.getD i z26 from rfl, wrN (by omega)]
  generalize l.getD i z26 = s at *
  rw [SCells_f k s.f0 s.f1 s.f2 s.f3 s.f4 (by omega) (by omega), Option.bind_some, anyOf_f k s.f3 cells (by omega) (by omega), Option.bind_some, show (s.f3.any fun x => cells.contains x.f0) = isOf cells s from rfl]
  by_cases h : isOf cells s = true
  · rw [if_pos h, if_pos (by
     rw [List.length_map]
     refine Nat.lt_of_le_of_lt (List.length_filter_le _ _) ?_
     rw [List.length_take]; omega)]
    rw [List.filter_cons, if_pos h] at next
    exact next
  · rw [if_neg h]
    rw [List.filter_cons, if_neg h, List.filter_nil, List.map_nil, List.append_nil] at next
    exact next
theorem Of_f (k : Nat) (l : List Sp) (cells : List Int) (hF : FewS l) (hR : RS l) (hm : cells.length ≤ 100) (hk : 1400 < k) : sleep_Of.f k l cells = some ((l.filter (isOf cells)).map fun s => s.f0) := by
 have hlen := hF.1
 unfold sleep_Of.f
 rw [RightF_f _ l hF (by omega), Option.bind_some, if_pos ((rightS_iff l).2 hR)]
 have := Of_l l cells hF hm l.length k 0 (by omega) (by omega) (by omega)
 exact this
theorem Of_no (k : Nat) (l : List Sp) (cells : List Int) (hF : FewS l) (hR : ¬ rightS l = true) (hk : 1400 < k) : sleep_Of.f k l cells = some [] := by
 unfold sleep_Of.f
 rw [RightF_f _ l hF (by omega), Option.bind_some, if_neg hR]
end Go.Proofs.Ytjnkpocfmpbpoaa.F
