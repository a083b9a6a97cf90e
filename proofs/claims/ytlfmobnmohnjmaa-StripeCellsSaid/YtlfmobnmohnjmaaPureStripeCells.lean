/-
 PROVED: each cell has one record, and so have those that are as many cells farther on as there are records, for every table, number and list of cells. Condition: each argument is of its kind; nothing else.
-/
import Derived.Test.YtlfmobnmohnjmaaTLem
import Derived.Test.YtlfmobnmohnjmaaTLem3
import Derived.Test.YtlfmobnmohnjmaaTx12
namespace Go.Proofs.Ytlfmobnmohnjmaa.T
open Go.RowKit Go.Proofs.YtlfmobnmohnjmaaW.PrintWords Go.Proofs.YtlfmobnmohnjmaaW.PrintLast Go.Proofs.YtlfmobnmohnjmaaW.PrintMore Go.Proofs.Ytlfmobnmohnjmaa.Ho
set_option linter.unusedVariables false
set_option linter.unusedSimpArgs false
theorem wf16 {y : Int} (h : (Lit.int .u16 y).wf = true) : 0 ≤ y ∧ y ≤ 65535 := by simpa [Lit.wf, IntKind.bits, IntKind.signed, IntKind.min, IntKind.max] using h
theorem rev_at (l : List Int) (i : Nat) (hi : i < l.length) : l.reverse.getD i 0 = l.getD (l.length - 1 - i) 0 := by
 rw [List.getD_eq_getElem?_getD, List.getD_eq_getElem?_getD, List.getElem?_reverse hi]
theorem Cells_l (t : List S67) (ht : rightT t = true) (cells : List Int) (hm : cells.length ≤ 30) (hc : ∀ c ∈ cells, 0 ≤ c ∧ c ≤ 65535) (x : Int) (hx : 0 ≤ x ∧ x < t.length) (d : Nat) : ∀ (k i : Nat), i ≤ cells.length → cells.length - i = d → d + 300 < k →
 handshakerlaw03_StripeCells.l0 k t cells [x] [x] (cells.take i) (cells.reverse.take i) (cells.length : Int) (i : Int) = some true := by
 have hn : 1 ≤ t.length ∧ t.length ≤ 16 := ⟨(rightT_ok ht).1, (rightT_ok ht).2.1⟩
 induction d with
 | zero =>
  intro k i hi hd hk
  obtain ⟨k, rfl⟩ : ∃ m, k = m + 1 := ⟨k - 1, by omega⟩
  have hrl : cells.reverse.length = cells.length := List.length_reverse
  rw [List.take_of_length_le (by omega), List.take_of_length_le (by omega)]
  have hpos : ∀ c ∈ cells, 0 ≤ c := fun c h => (hc c h).1
  have hpos2 : ∀ c ∈ cells.reverse, 0 ≤ c := fun c h => hpos c (List.mem_reverse.1 h)
  have hle := rise_le t.length _ (ofL_up t.length cells) (ofL_rng (n := t.length) (by omega) hpos)
  have hle2 := ofL_len t.length cells
  simp only [handshakerlaw03_StripeCells.l0]
  rw [if_neg (by omega), if_pos (by simp), if_pos (by simp), if_pos (show rd [x] 0 ≥ 0 from hx.1), if_pos (show rd [x] 0 < (t.length : Int) from hx.2), Numbers_f k [x] (by simp) (by simp; omega), Of_f k t [] (by simp) (by simp; omega), Of_f k t cells (by omega) (by omega), Of_f k t cells.reverse (by omega) (by omega)]
  simp only [Option.bind_some, if_true]
  rw [ofT_in ht (cells := []) (fun c h => by cases h), ofT_in ht hpos, ofT_in ht hpos2, ofL_same t.length cells.reverse cells (fun c => List.mem_reverse)]
  have e0 : ofL t.length ([] : List Int) = [] := by
   rw [List.eq_nil_iff_forall_not_mem]
   intro y hy
   obtain ⟨c, hc, _⟩ := (ofL_mem _ _ y).1 hy
   cases hc
  rw [e0, if_pos (by simp), Numbers_f k _ (by omega) (by omega)]
  simp only [Option.bind_some, if_true]
  rw [if_pos (by unfold mn; split <;> omega), awake3 k (by omega)]; rfl
 | succ d ih =>
  intro k i hi hd hk
  obtain ⟨k, rfl⟩ : ∃ m, k = m + 1 := ⟨k - 1, by omega⟩
  have hrl : cells.reverse.length = cells.length := List.length_reverse
  have next := ih k (i + 1) (by omega) (by omega) (by omega)
  rw [take_snG cells 0 i (by omega), take_snG cells.reverse 0 i (by omega), rev_at cells i (by omega)] at next
  have h1 := hc _ (getD_in cells 0 i (by omega))
  have h2 := hc _ (getD_in cells 0 (cells.length - 1 - i) (by omega))
  have ew : wrap64 (wrap64 ((cells.length : Int) - 1) - (i : Int)) = ((cells.length - 1 - i : Nat) : Int) := by
   rw [wr (i := (cells.length : Int) - 1) (by omega) (by omega), wr (by omega) (by omega)]; omega
  simp only [handshakerlaw03_StripeCells.l0]
  rw [ew, if_pos (by omega), if_pos (by omega), if_pos (by omega), if_pos (by rw [List.length_take]; omega), if_pos (by omega), if_pos (by omega), if_pos (by rw [List.length_take]; omega), wrN (by omega), show rd cells (i : Int) = cells.getD i 0 from rfl, show rd cells ((cells.length - 1 - i : Nat) : Int) = cells.getD (cells.length - 1 - i) 0 from rfl, wr (i := cells.getD i 0) (by omega) (by omega), wr (i := cells.getD (cells.length - 1 - i) 0) (by omega) (by omega)]
  exact next
theorem StripeCells : handshakerlaw03_StripeCells.Pure := by
 intro t c cells _ _ _ wc _ _ wcs
 have hc := wf16 wc
 obtain ⟨K, hK⟩ : ∃ K, t.length + cells.length + 900 = K := ⟨_, rfl⟩
 refine ⟨K + 1, ?_⟩
 have hj : handshakerlaw03_StripeCells.j0 (K + 1) t c cells true = some true := by
  simp only [handshakerlaw03_StripeCells.j0, if_true]; rw [awake3 K (by omega)]; rfl
 unfold handshakerlaw03_StripeCells.f
 by_cases h1 : (t.length : Int) > 16
 · rw [if_pos h1]; exact hj
 rw [if_neg h1]
 by_cases h2 : (cells.length : Int) > 30
 · rw [if_pos h2]; exact hj
 rw [if_neg h2, RightT_f]
 simp only [Option.bind_some]
 by_cases ht : ¬ rightT t = true
 · rw [show rightT t = false from by simpa using ht]; exact hj
 replace ht := Decidable.not_not.mp ht
 rw [ht]
 have hn : 1 ≤ t.length ∧ t.length ≤ 16 := ⟨(rightT_ok ht).1, (rightT_ok ht).2.1⟩
 simp only [handshakerlaw03_StripeCells.j0]
 rw [if_neg (by decide), wr (i := c) (by omega) (by omega), wr (i := c + (t.length : Int)) (by omega) (by omega), Of_f K t [c] (by simp) (by simp; omega), Of_f K t [c + (t.length : Int)] (by simp) (by simp; omega), ofT_in ht (by intro x hx; rw [List.mem_singleton.1 hx]; omega), ofT_in ht (by intro x hx; rw [List.mem_singleton.1 hx]; omega), ofL_one, ofL_one]
 simp only [Option.bind_some]
 obtain ⟨m, e1, e2, e3⟩ := tmodN c t.length (by omega) (by omega)
 obtain ⟨m', e1', e2', e3'⟩ := tmodN (c + (t.length : Int)) t.length (by omega) (by omega)
 have em : m' = m := by rw [e3, e3', show (c + (t.length : Int)).toNat = c.toNat + t.length from by omega, Nat.add_mod_right]
 rw [e1, e1', em]
 exact Cells_l t ht cells (by omega) (fun y hy => wf16 (wcs y hy)) (m : Int) (by omega) cells.length K 0 (by omega) (by omega) (by omega)
end Go.Proofs.Ytlfmobnmohnjmaa.T
namespace Go.Proofs.Ytlfmobnmohnjmaa.Pure
theorem StripeCells : Go.Proofs.Ytlfmobnmohnjmaa.T.handshakerlaw03_StripeCells.Pure := Go.Proofs.Ytlfmobnmohnjmaa.T.StripeCells
end Go.Proofs.Ytlfmobnmohnjmaa.Pure
