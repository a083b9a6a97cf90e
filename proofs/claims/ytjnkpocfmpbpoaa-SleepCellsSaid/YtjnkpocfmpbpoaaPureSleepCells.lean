/-
 PROVED: somebody is told of by a cell just if they watch it, and by all cells if they watch anything, for every list and cell. Condition: each argument is of its kind; nothing else.
-/
import Derived.Test.YtjnkpocfmpbpoaaScLem3
import Derived.Test.YtjnkpocfmpbpoaaScx7
import Derived.Test.YtjnkpocfmpbpoaaScx9
namespace Go.Proofs.Ytjnkpocfmpbpoaa.Sc
open Go.RowKit Go.Proofs.YtjnkpocfmpbpoaaW.PrintWords Go.Proofs.YtjnkpocfmpbpoaaW.PrintLast Go.Proofs.YtjnkpocfmpbpoaaW.PrintMore Go.Proofs.Ytjnkpocfmpbpoaa.Ho
set_option linter.unusedVariables false
set_option linter.unusedSimpArgs false
/-! ### who watches -/
theorem Index_l (l : List Int) (a : Int) (hm : l.length < 4398046511104) (d : Nat) : ∀ (k i : Nat), i ≤ l.length → l.length - i = d → d < k → slices_Index.l0 k l a (l.length : Int) (i : Int) = some (idxT (fun x => x == a) (l.drop i) (i : Int)) := by
 induction d with
 | zero =>
  intro k i hi hd hk
  obtain ⟨k, rfl⟩ : ∃ m, k = m + 1 := ⟨k - 1, by omega⟩
  simp only [slices_Index.l0]
  rw [if_neg (by omega), List.drop_of_length_le (by omega)]; rfl
 | succ d ih =>
  intro k i hi hd hk
  obtain ⟨k, rfl⟩ : ∃ m, k = m + 1 := ⟨k - 1, by omega⟩
  simp only [slices_Index.l0]
  rw [if_pos (by omega), if_pos (by omega), if_pos (by omega), wrN (by omega), show rd l (i : Int) = l.getD i 0 from rfl, drop_cons l 0 i (by omega), ih k (i + 1) (by omega) (by omega) (by omega)]
  by_cases e : a = l.getD i 0
  · rw [if_pos e, idxT_yes (by simpa using e.symm)]
  · rw [if_neg e, idxT_no (by simpa using fun h => e h.symm)]; rfl
theorem Contains_f (k : Nat) (l : List Int) (a : Int) (hm : l.length < 4398046511104) (hk : l.length < k) : slices_Contains.f k l a = some (l.contains a) := by
 unfold slices_Contains.f slices_Index.f
 have := Index_l l a hm l.length k 0 (by omega) (by omega) (by omega)
 rw [show ((0 : Nat) : Int) = 0 from rfl, List.drop_zero] at this
 rw [this, Option.bind_some]
 congr 1
 rcases idxT_cases (fun x => x == a) 0 l 0 with ⟨h1, h2⟩ | ⟨j, hj, h1, h2, _⟩
 · rw [h1, decide_eq_false (by decide)]
   symm
   rw [Bool.eq_false_iff]
   intro h
   have := h2 a (List.contains_iff_mem.1 h)
   simp at this
 · rw [h1, decide_eq_true (by omega)]
   symm
   rw [List.contains_iff_mem]
   have e : l.getD j 0 = a := by simpa using h2
   rw [← e]
   exact getD_in l 0 j hj
def isOf (cells : List Int) (s : Sp) : Bool := s.f3.any fun w => cells.contains w.f0
theorem anyOf_f (k : Nat) (w : List Wr) (cells : List Int) (hm : cells.length < 4398046511104) (hk : cells.length < k) : any_at_sleep_Of_1.f k (w.map fun x => x.f0) cells = some (w.any fun x => cells.contains x.f0) := by
 unfold any_at_sleep_Of_1.f
 rw [anyF_T (f := fun x : Int => sleep_Of_1.f k x cells) (p := fun c => cells.contains c) _ (fun x _ => by unfold sleep_Of_1.f; rw [Contains_f k cells x hm hk]; rfl), List.any_map]
 rfl
theorem Of_l (l : List Sp) (cells : List Int) (hF : FewS l) (hm : cells.length ≤ 100) (d : Nat) : ∀ (k i : Nat), i ≤ l.length → l.length - i = d → d + 200 < k →
 sleep_Of.l0 k (((l.take i).filter (isOf cells)).map fun s => s.f0) l (l.length : Int) (i : Int) cells = some ((l.filter (isOf cells)).map fun s => s.f0) := by
 have hlen := hF.1
 induction d with
 | zero =>
  intro k i hi hd hk
  obtain ⟨k, rfl⟩ : ∃ m, k = m + 1 := ⟨k - 1, by omega⟩
  simp only [sleep_Of.l0]
  rw [if_neg (by omega), List.take_of_length_le (by omega)]
 | succ d ih =>
  intro k i hi hd hk
  obtain ⟨k, rfl⟩ : ∃ m, k = m + 1 := ⟨k - 1, by omega⟩
  have next := ih k (i + 1) (by omega) (by omega) (by omega)
  have hs := hF.2 _ (getD_in l z26 i (by omega))
  rw [take_snG l z26 i (by omega), List.filter_append, List.map_append] at next
  simp only [sleep_Of.l0]
  rw [if_pos (by omega), if_pos (by omega), if_pos (by omega), show rd_T26 l (i : Int) = l.getD i z26 from rfl, wrN (by omega)]
  generalize l.getD i z26 = s at *
  rw [SCells_f k s.f0 s.f1 s.f2 s.f3 s.f4 (by omega) (by omega), Option.bind_some, anyOf_f k s.f3 cells (by omega) (by omega), Option.bind_some, show (s.f3.any fun x => cells.contains x.f0) = isOf cells s from rfl]
  by_cases h : isOf cells s = true
  · rw [if_pos h, if_pos (by
     rw [List.length_map]
     refine Nat.lt_of_le_of_lt (List.length_filter_le _ _) ?_
     rw [List.length_take]; omega)]
    rw [List.filter_cons, if_pos h] at next
    exact next
  · rw [if_neg h]
    rw [List.filter_cons, if_neg h, List.filter_nil, List.map_nil, List.append_nil] at next
    exact next
theorem Of_f (k : Nat) (l : List Sp) (cells : List Int) (hF : FewS l) (hR : RS l) (hm : cells.length ≤ 100) (hk : 1400 < k) : sleep_Of.f k l cells = some ((l.filter (isOf cells)).map fun s => s.f0) := by
 have hlen := hF.1
 unfold sleep_Of.f
 rw [RightF_f _ l hF (by omega), Option.bind_some, if_pos ((rightS_iff l).2 hR)]
 have := Of_l l cells hF hm l.length k 0 (by omega) (by omega) (by omega)
 exact this
theorem NumbersL (l : List Int) (hm : l.length < 4398046511104) (d : Nat) : ∀ (k i : Nat), i ≤ l.length → l.length - i = d → d < k → handshakerref03_Numbers.l0 k l l (i : Int) = some true := by
 induction d with
 | zero =>
  intro k i hi hd hk
  obtain ⟨k, rfl⟩ : ∃ m, k = m + 1 := ⟨k - 1, by omega⟩
  simp only [handshakerref03_Numbers.l0]
  rw [if_neg (by omega)]
 | succ d ih =>
  intro k i hi hd hk
  obtain ⟨k, rfl⟩ : ∃ m, k = m + 1 := ⟨k - 1, by omega⟩
  simp only [handshakerref03_Numbers.l0]
  rw [if_pos (by omega), if_pos (by omega), if_pos (by omega), if_pos trivial, wrN (by omega)]
  exact ih k (i + 1) (by omega) (by omega) (by omega)
theorem NumbersF (k : Nat) (l : List Int) (hm : l.length < 4398046511104) (hk : l.length < k) : handshakerref03_Numbers.f k l l = some true := by
 unfold handshakerref03_Numbers.f
 rw [if_pos rfl]
 exact NumbersL l hm l.length k 0 (by omega) (by omega) (by omega)
def all64 : List Int := (List.range 64).map fun (i : Nat) => (i : Int)
def onOf (cell : Int) (s : Sp) : Bool := s.f3.any fun w => w.f0 == cell
def some0 (s : Sp) : Bool := decide (0 < s.f3.length)
theorem isOf_one (cell : Int) : isOf [cell] = onOf cell := by
 funext s
 unfold isOf onOf
 congr 1
 funext w
 rw [Bool.eq_iff_iff]
 simp [List.contains_cons]
theorem isOf_none : isOf [] = fun _ => false := by
 funext s
 unfold isOf
 simp
theorem isOf_all {s : Sp} (h : maySp s = true) : isOf all64 s = some0 s := by
 unfold isOf some0
 have hw : watchB s.f3 = true := by
  unfold maySp at h
  rw [Bool.and_eq_true, Bool.and_eq_true, Bool.and_eq_true] at h
  exact h.2.2.1
 have hk := ((watchB_iff _).1 hw).2
 rw [Bool.eq_iff_iff, List.any_eq_true, decide_eq_true_eq]
 constructor
 · rintro ⟨w, hm, _⟩
   exact List.length_pos_of_mem hm
 · intro h0
   refine ⟨s.f3.getD 0 z62, getD_in _ _ 0 h0, ?_⟩
   have := (hk 0 h0).1
   rw [List.contains_iff_mem]
   unfold all64
   exact List.mem_map.2 ⟨(s.f3.getD 0 z62).f0.toNat, List.mem_range.2 (by omega), by omega⟩
theorem filter_le {α : Type} (p : α → Bool) (l : List α) (i : Nat) : ((l.take i).filter p).length ≤ (l.filter p).length := by
 have : (l.filter p).length = ((l.take i).filter p).length + ((l.drop i).filter p).length := by
  rw [← List.length_append, ← List.filter_append, List.take_append_drop]
 omega
theorem filter_at {α : Type} (p : α → Bool) (z : α) (l : List α) (i : Nat) (hi : i < l.length) (hp : p (l.getD i z) = true) : ((l.take i).filter p).length < (l.filter p).length ∧ (l.filter p).getD ((l.take i).filter p).length z = l.getD i z := by
 have e : l.filter p = (l.take i).filter p ++ (l.getD i z :: (l.drop (i + 1)).filter p) := by
  have h : l = l.take i ++ (l.getD i z :: l.drop (i + 1)) := by rw [← drop_cons l z i hi, List.take_append_drop]
  have h2 : l.filter p = (l.take i ++ (l.getD i z :: l.drop (i + 1))).filter p := congrArg _ h
  rw [h2, List.filter_append, List.filter_cons, if_pos hp]
 refine ⟨by rw [e, List.length_append, List.length_cons]; omega, ?_⟩
 rw [e, List.getD_eq_getElem?_getD, List.getElem?_append_right (Nat.le_refl _), Nat.sub_self]
 rfl
theorem Cells_l1 (l : List Sp) (cell : Int) (hF : FewS l) (hR : RS l) (d : Nat) : ∀ (k i : Nat), i ≤ l.length → l.length - i = d → 60 * d + 4000 < k →
 handshakerlaw15_SleepCells.l1 k l cell ((l.filter (onOf cell)).map fun s => s.f0) all64 (((l.take i).filter some0).map fun s => s.f0) (((l.take i).filter (onOf cell)).length : Int) l (l.length : Int) (i : Int) = some true := by
 have hlen := hF.1
 induction d with
 | zero =>
  intro k i hi hd hk
  obtain ⟨k, rfl⟩ : ∃ m, k = m + 1 := ⟨k - 1, by omega⟩
  rw [List.take_of_length_le (by omega)]
  simp only [handshakerlaw15_SleepCells.l1]
  have hall : l.filter (isOf all64) = l.filter some0 := by
   apply List.filter_congr
   intro x hx
   exact isOf_all (hR.1 x hx)
  have hle := List.length_filter_le some0 l
  rw [if_neg (by omega), if_pos (by rw [List.length_map]), Of_f k l all64 hF hR (by unfold all64; simp) (by omega), Option.bind_some, hall, NumbersF k _ (by rw [List.length_map]; omega) (by rw [List.length_map]; omega), Option.bind_some, if_pos rfl, Of_f k l [] hF hR (by simp) (by omega), Option.bind_some, isOf_none, if_pos (by simp), awake15 k (by omega)]
  rfl
 | succ d ih =>
  intro k i hi hd hk
  obtain ⟨k, rfl⟩ : ∃ m, k = m + 1 := ⟨k - 1, by omega⟩
  have hs := hF.2 _ (getD_in l z26 i (by omega))
  have hat := filter_at (onOf cell) z26 l i (by omega)
  have hle := filter_le (onOf cell) l i
  have hsl : (((l.take i).filter some0).map fun s => s.f0).length < 17592186044416 := by
   rw [List.length_map]
   refine Nat.lt_of_le_of_lt (List.length_filter_le _ _) ?_
   rw [List.length_take]; omega
  have hfl : (l.filter (onOf cell)).length ≤ l.length := List.length_filter_le _ _
  simp only [handshakerlaw15_SleepCells.l1]
  rw [if_pos (by omega), if_pos (by omega), if_pos (by omega), show rd_T26 l (i : Int) = l.getD i z26 from rfl]
  have hts := take_snG l z26 i (by omega)
  obtain ⟨C, hC⟩ : ∃ C, C = 60 * d + 4005 := ⟨_, rfl⟩
  have hkC : (l.getD i z26).f3.length + C < k := by omega
  -- behind the inner loop
  have after : ∀ k, C < k → handshakerlaw15_SleepCells.l2 k l cell ((l.filter (onOf cell)).map fun s => s.f0) all64 (((l.take i).filter some0).map fun s => s.f0) (((l.take i).filter (onOf cell)).length : Int) (onOf cell (l.getD i z26)) l (l.length : Int) (i : Int) (l.getD i z26).f3 ((l.getD i z26).f3.length : Int) ((l.getD i z26).f3.length : Int) (l.getD i z26).f0 (l.getD i z26).f1 (l.getD i z26).f2 (l.getD i z26).f3 (l.getD i z26).f4 = some true := by
   intro k hk
   obtain ⟨k, rfl⟩ : ∃ m, k = m + 2 := ⟨k - 2, by omega⟩
   have next := ih k (i + 1) (by omega) (by omega) (by omega)
   have next2 := ih (k + 1) (i + 1) (by omega) (by omega) (by omega)
   rw [hts, List.filter_append, List.filter_append, List.map_append] at next next2
   generalize hse : l.getD i z26 = s at *
   have f1 : ∀ p : Sp → Bool, [s].filter p = if p s = true then [s] else [] := fun p => by rw [List.filter_cons]; rfl
   rw [f1, f1] at next next2
   have hso : some0 s = decide ((s.f3.length : Int) > 0) := by
    unfold some0; rw [decide_eq_decide]; omega
   have hdec : (some0 s = true) ↔ (s.f3.length : Int) > 0 := by rw [hso, decide_eq_true_eq]
   simp only [handshakerlaw15_SleepCells.l2]
   rw [if_neg (by omega)]
   by_cases hon : onOf cell s = true
   · obtain ⟨g1, g2⟩ := hat hon
     have hrd : rd ((l.filter (onOf cell)).map fun s => s.f0) (((l.take i).filter (onOf cell)).length : Int) = s.f0 := by
      show ((l.filter (onOf cell)).map fun s => s.f0).getD ((l.take i).filter (onOf cell)).length 0 = s.f0
      rw [List.getD_eq_getElem?_getD, List.getElem?_map]
      rw [List.getD_eq_getElem?_getD, List.getElem?_eq_getElem g1] at g2
      rw [List.getElem?_eq_getElem g1]
      have g3 : (l.filter (onOf cell))[((l.take i).filter (onOf cell)).length] = s := g2
      rw [g3]; rfl
     rw [if_pos hon, if_neg (by rw [List.length_map]; omega), if_pos (by omega), if_pos (by rw [List.length_map]; omega), hrd, bne_self_eq_false]
     simp only [handshakerlaw15_SleepCells.j4]
     rw [if_neg (by decide), wrN (by omega), wrN (by omega)]
     rw [if_pos hon, List.length_append] at next
     by_cases h0 : (s.f3.length : Int) > 0
     · rw [if_pos h0, if_pos hsl]
       rw [if_pos (hdec.2 h0)] at next
       exact next
     · rw [if_neg h0]
       rw [if_neg (fun e => h0 (hdec.1 e)), List.map_nil, List.append_nil] at next
       exact next
   · rw [if_neg hon, wrN (by omega)]
     rw [if_neg hon, List.append_nil] at next2
     by_cases h0 : (s.f3.length : Int) > 0
     · rw [if_pos h0, if_pos hsl]
       rw [if_pos (hdec.2 h0)] at next2
       exact next2
     · rw [if_neg h0]
       rw [if_neg (fun e => h0 (hdec.1 e)), List.map_nil, List.append_nil] at next2
       exact next2
  clear hC hk ih hat
  have inner : ∀ (e k m : Nat), m ≤ (l.getD i z26).f3.length → (l.getD i z26).f3.length - m = e → e + C < k →
   handshakerlaw15_SleepCells.l2 k l cell ((l.filter (onOf cell)).map fun s => s.f0) all64 (((l.take i).filter some0).map fun s => s.f0) (((l.take i).filter (onOf cell)).length : Int) (((l.getD i z26).f3.take m).any fun w => w.f0 == cell) l (l.length : Int) (i : Int) (l.getD i z26).f3 ((l.getD i z26).f3.length : Int) (m : Int) (l.getD i z26).f0 (l.getD i z26).f1 (l.getD i z26).f2 (l.getD i z26).f3 (l.getD i z26).f4 = some true := by
   intro e
   induction e with
   | zero =>
    intro k m hm he hk
    obtain rfl : m = (l.getD i z26).f3.length := by omega
    rw [List.take_length]
    exact after k (by omega)
   | succ e ihe =>
    intro k m hm he hk
    obtain ⟨k, rfl⟩ : ∃ q, k = q + 1 := ⟨k - 1, by omega⟩
    have next := ihe k (m + 1) (by omega) (by omega) (by omega)
    rw [take_snG _ z62 m (by omega), List.any_append] at next
    simp only [handshakerlaw15_SleepCells.l2]
    rw [if_pos (by omega), if_pos (by omega), if_pos (by omega), wrN (by omega), show rd_T62 (l.getD i z26).f3 (m : Int) = (l.getD i z26).f3.getD m z62 from rfl]
    by_cases h : (((l.getD i z26).f3.take m).any fun w => w.f0 == cell) = true
    · rw [if_pos h]
      rw [h, Bool.true_or] at next
      exact next
    · rw [if_neg h]
      rw [Bool.eq_false_iff.2 h, Bool.false_or] at next
      simp only [List.any_cons, List.any_nil, Bool.or_false] at next
      exact next
  exact inner (l.getD i z26).f3.length k 0 (by omega) (by omega) hkC
theorem Cells_l0 (l : List Sp) (cell : Int) (of : List Int) (hof : of = (l.filter (onOf cell)).map fun s => s.f0) (hF : FewS l) (hR : RS l) (d : Nat) : ∀ (k i : Nat), i ≤ 64 → 64 - i = d → d + 60 * l.length + 4100 < k →
 handshakerlaw15_SleepCells.l0 k l cell of ((List.range i).map fun (j : Nat) => (j : Int)) (i : Int) = some true := by
 induction d with
 | zero =>
  intro k i hi hd hk
  obtain ⟨k, rfl⟩ : ∃ m, k = m + 1 := ⟨k - 1, by omega⟩
  obtain rfl : i = 64 := by omega
  simp only [handshakerlaw15_SleepCells.l0]
  rw [if_neg (by omega), hof]
  exact Cells_l1 l cell hF hR l.length k 0 (by omega) (by omega) (by omega)
 | succ d ih =>
  intro k i hi hd hk
  obtain ⟨k, rfl⟩ : ∃ m, k = m + 1 := ⟨k - 1, by omega⟩
  have next := ih k (i + 1) (by omega) (by omega) (by omega)
  rw [List.range_succ, List.map_append] at next
  simp only [handshakerlaw15_SleepCells.l0]
  rw [if_pos (by omega), if_pos (by rw [List.length_map, List.length_range]; omega), wrN (by omega)]
  exact next
theorem SleepCells : handshakerlaw15_SleepCells.Pure := by
 intro l0 a1 hl1 hl2 _ _
 refine ⟨l0.length + 9004, ?_⟩
 generalize hK : l0.length + 9004 = K
 unfold handshakerlaw15_SleepCells.f
 obtain ⟨s, hs, hs'⟩ := Small15_f K l0 (by omega) (by omega)
 rw [hs, Option.bind_some]
 obtain ⟨K, rfl⟩ : ∃ m, K = m + 1 := ⟨K - 1, by omega⟩
 have aw : handshakerlaw15_SleepCells.j0 (K + 1) l0 a1 true = some true := by
  simp only [handshakerlaw15_SleepCells.j0]
  rw [if_pos trivial, awake15 K (by omega)]; rfl
 by_cases g : s < 0
 · rw [if_pos g]; exact aw
 rw [if_neg g]
 have q1 := (hs'.resolve_left g).2
 have hF : FewS l0 := ⟨by omega, q1.2⟩
 rw [RightF_f _ l0 hF (by omega), Option.bind_some]
 by_cases hr : rightS l0 = true
 · have hR := (rightS_iff l0).1 hr
   rw [hr]
   simp only [handshakerlaw15_SleepCells.j0]
   rw [if_neg (show ¬ (!true) = true by decide), Of_f K l0 [a1] hF hR (by simp) (by omega), Option.bind_some, isOf_one]
   exact Cells_l0 l0 a1 _ rfl hF hR 64 K 0 (by omega) (by omega) (by omega)
 · rw [Bool.eq_false_iff.2 hr]; exact aw
end Go.Proofs.Ytjnkpocfmpbpoaa.Sc
namespace Go.Proofs.Ytjnkpocfmpbpoaa.Pure
theorem SleepCells : Go.Proofs.Ytjnkpocfmpbpoaa.Sc.handshakerlaw15_SleepCells.Pure := Go.Proofs.Ytjnkpocfmpbpoaa.Sc.SleepCells
end Go.Proofs.Ytjnkpocfmpbpoaa.Pure
