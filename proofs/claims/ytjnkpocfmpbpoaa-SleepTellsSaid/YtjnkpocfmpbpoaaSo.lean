/- From the library's contracts of slices.Sort and slices.Compact on whole numbers (words 'Holds', 'putRow', 'grow') to rows of the call's own. -/
import Derived.Test.YtjnkpocfmpbpoaaWWords
import Derived.Test.YtjnkpocfmpbpoaaWLast
import Derived.Test.YtjnkpocfmpbpoaaWKept
import Derived.Test.YtjnkpocfmpbpoaaWMore
import Derived.Sort.Row
import Derived.Sort.Grow
import Derived.Lib.SlicesCompact
namespace Go.Proofs.Ytjnkpocfmpbpoaa.So
open Go.RowKit Go.Proofs.YtjnkpocfmpbpoaaW.PrintWords Go.Proofs.YtjnkpocfmpbpoaaW.PrintLast
open Go.Sort (Holds putRow putCells grow onCells mapBlock)
set_option linter.unusedVariables false
set_option linter.unusedSimpArgs false
abbrev dI : Kd Int := Kd.int .i64
theorem holds_of {e base : Nat} {w : World} {ok : Nat → Prop} {l : List Int} {g cap : Nat} (h : dI.R e w base ok (.slice (some ⟨g, 0, none⟩) l.length cap) l) : Holds (Value.int .i64) w g 0 l.toArray := by
  intro j hj
  simp only [List.size_toArray] at hj
  have := Kd.R_cell (d := (0 : Int)) (h1 := fun _ => rfl) (enc := Value.int .i64) h (j : Int) (by omega) (by omega)
  rw [Int.toNat_natCast] at this
  rw [Nat.zero_add]
  refine ⟨this.1.trans ?_, this.2⟩
  congr 2
  unfold rdOf
  simp [List.getElem?_eq_getElem hj, hj]
theorem put_block (w : World) (q g : Nat) (d : Array Int) (os : Array Obj) (hg : g < w.heap.size) (i : Nat) (hi : i < w.heap.size) :
    (grow (putRow (Value.int .i64) (Sort.ahead w q) g 0 d) os).heap[i]? = if g = i then (w.heap[i]?).map (onCells (putCells (Value.int .i64) 0 d)) else w.heap[i]? := by
  show ((w.heap.modify g (onCells (putCells (Value.int .i64) 0 d))) ++ os)[i]? = _
  rw [Array.getElem?_append_left (by simpa using hi), Array.getElem?_modify]
theorem put_size (w : World) (q g : Nat) (d : Array Int) (os : Array Obj) : w.heap.size ≤ (grow (putRow (Value.int .i64) (Sort.ahead w q) g 0 d) os).heap.size := by
  show w.heap.size ≤ ((w.heap.modify g (onCells (putCells (Value.int .i64) 0 d))) ++ os).size
  simp
theorem put_below {w0 w : World} (hB : Below w0.heap.size w0 w) (q g : Nat) (d : Array Int) (os : Array Obj) (hg : g < w.heap.size) (hb : w0.heap.size ≤ g) : Below w0.heap.size w0 (grow (putRow (Value.int .i64) (Sort.ahead w q) g 0 d) os) :=
  ⟨hB.os, hB.tape, hB.output, Nat.le_trans hB.size (put_size w q g d os), fun i hi => by
    rw [put_block w q g d os hg i (Nat.lt_of_lt_of_le hi hB.size), if_neg (by omega)]
    exact hB.block i hi⟩
theorem put_kept {w : World} {P : Nat → Prop} (q g : Nat) (d : Array Int) (os : Array Obj) (hg : g < w.heap.size) (hP : P g) : Kept w (grow (putRow (Value.int .i64) (Sort.ahead w q) g 0 d) os) P :=
  ⟨put_size w q g d os, fun i hi hn => by
    rw [put_block w q g d os hg i hi, if_neg (by intro e; subst e; exact hn hP)]⟩
/-- The row behind such a write: of what was laid the first r. -/
theorem put_row {e base : Nat} {w : World} {ok : Nat → Prop} {l : List Int} {g cap : Nat} (h : dI.R e w base ok (.slice (some ⟨g, 0, none⟩) l.length cap) l) (q : Nat) (d r : List Int) (os : Array Obj) (hd : d.length = l.length) (hr : d.take r.length = r) (hp : 0 < l.length) :
    dI.R e (grow (putRow (Value.int .i64) (Sort.ahead w q) g 0 d.toArray) os) base ok (.slice (some ⟨g, 0, none⟩) r.length cap) r := by
  have ho := Kd.own_of_R (enc := Value.int .i64) (h1 := fun _ => rfl) h
  obtain ⟨_, ho2⟩ := ho
  rcases ho2 with ⟨e1, _⟩ | ⟨g', cap', cur, e1, hb, hcell, hn, hm, hs, ht⟩
  · cases e1
  · injection e1 with e1 e2 e3
    injection e1 with e1
    injection e1 with e1
    subst e1 e3
    have hg : g < w.heap.size := (Array.getElem?_eq_some_iff.1 hcell).1
    have hrl : r.length ≤ l.length := by
      have := congrArg List.length hr
      rw [List.length_take] at this
      omega
    refine Kd.R_of_own (enc := Value.int .i64) (h1 := fun _ => rfl) ⟨?_, .inr ⟨g, cap, putCells (Value.int .i64) 0 d.toArray cur, rfl, hb, ?_, by omega, hm, ?_, ?_⟩⟩ (fun k hk => h.1 k (by simpa [Value.ownBlock] using hk))
    · simp [encs]
    · rw [put_block w q g d.toArray os hg g hg, if_pos rfl, hcell]
      rfl
    · unfold putCells
      simpa using hs
    · apply List.ext_getElem?
      intro i
      by_cases hi : i < r.length
      · have hic : i < cur.size := by omega
        rw [List.getElem?_take, if_pos (by omega)]
        unfold putCells
        rw [Array.getElem?_toList, Array.getElem?_mapIdx, Array.getElem?_eq_getElem hic]
        simp only [Option.map_some, Nat.zero_le, Nat.zero_add, true_and, List.size_toArray]
        rw [if_pos (by omega)]
        have hdi : i < d.length := by omega
        have hri : r[i]? = d[i]? := by
          conv => lhs; rw [← hr]
          rw [List.getElem?_take, if_pos hi]
        simp [encs, hri, hdi]
      · rw [List.getElem?_eq_none (by rw [List.length_take]; omega)]
        rw [List.getElem?_eq_none (by simp [encs]; omega)]
theorem compact_len (l : List Int) : (Go.Lib.compact l).length ≤ l.length := by
  unfold Go.Lib.compact Go.Lib.compactUpTo
  rw [List.length_map]
  refine Nat.le_trans (List.length_filter_le _ _) ?_
  simp
end Go.Proofs.Ytjnkpocfmpbpoaa.So
