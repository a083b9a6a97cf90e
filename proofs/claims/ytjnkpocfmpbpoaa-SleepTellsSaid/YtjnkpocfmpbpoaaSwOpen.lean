/- The laws' struct arguments, opened: what came in reads as the printed contracts ask. -/
import Derived.Test.YtjnkpocfmpbpoaaOp
import Derived.Test.YtjnkpocfmpbpoaaSwx0
import Derived.Test.YtjnkpocfmpbpoaaSwx19
namespace Go.Proofs.Ytjnkpocfmpbpoaa.Sw
open Go.RowKit Go.Proofs.YtjnkpocfmpbpoaaW.PrintWords Go.Proofs.YtjnkpocfmpbpoaaW.PrintLast Go.Proofs.Ytjnkpocfmpbpoaa.Op
set_option linter.unusedVariables false
theorem heapS62 : Kd.Heap k62 := Kd.heap_iso _ (Kd.heap_pair (Kd.heap_int .i64) (Kd.heap_int .i64))
theorem opensS62 : Opens Try.prog k62 62 wfS62 := by
  intro H enc w base spare held fuel cs x h
  obtain ⟨xs, n, _, _, hlen, hxl, hf⟩ := DataW.trod_struct Try.underlying62 h
  have hlen2 : cs.length = 2 := hlen.trans (by kernel_rfl)
  have hxl2 : xs.length = 2 := hxl
  have o3 : Try.prog.cellsOf 3 = 1 := by kernel_rfl
  obtain ⟨c0, c1, rfl⟩ := len2 hlen2
  have g0 : DataW.trod enc Try.prog w base spare held n 3 [c0] = some (xs[0]'(by omega)) := by
    have e := hf 0 _ rfl
    rw [show xs[0]? = some (xs[0]'(by omega)) from List.getElem?_eq_getElem (by omega)] at e
    simpa [o3] using e
  obtain ⟨y0, hK0, hw0⟩ := (opens_int Try.underlying3) g0
  have g1 : DataW.trod enc Try.prog w base spare held n 3 [c1] = some (xs[1]'(by omega)) := by
    have e := hf 1 _ rfl
    rw [show xs[1]? = some (xs[1]'(by omega)) from List.getElem?_eq_getElem (by omega)] at e
    simpa [o3] using e
  obtain ⟨y1, hK1, hw1⟩ := (opens_int Try.underlying3) g1
  exact ⟨⟨y0, y1⟩, ⟨[c0], [c1], rfl, hK0, hK1⟩, ⟨hw0, hw1⟩⟩

theorem heapS80 : Kd.Heap k80 := Kd.heap_iso _ (Kd.heap_pair (Kd.heap_int .i64) (Kd.heap_int .i64))
theorem opensS80 : Opens Try.prog k80 80 wfS80 := by
  intro H enc w base spare held fuel cs x h
  obtain ⟨xs, n, _, _, hlen, hxl, hf⟩ := DataW.trod_struct Try.underlying80 h
  have hlen2 : cs.length = 2 := hlen.trans (by kernel_rfl)
  have hxl2 : xs.length = 2 := hxl
  have o3 : Try.prog.cellsOf 3 = 1 := by kernel_rfl
  obtain ⟨c0, c1, rfl⟩ := len2 hlen2
  have g0 : DataW.trod enc Try.prog w base spare held n 3 [c0] = some (xs[0]'(by omega)) := by
    have e := hf 0 _ rfl
    rw [show xs[0]? = some (xs[0]'(by omega)) from List.getElem?_eq_getElem (by omega)] at e
    simpa [o3] using e
  obtain ⟨y0, hK0, hw0⟩ := (opens_int Try.underlying3) g0
  have g1 : DataW.trod enc Try.prog w base spare held n 3 [c1] = some (xs[1]'(by omega)) := by
    have e := hf 1 _ rfl
    rw [show xs[1]? = some (xs[1]'(by omega)) from List.getElem?_eq_getElem (by omega)] at e
    simpa [o3] using e
  obtain ⟨y1, hK1, hw1⟩ := (opens_int Try.underlying3) g1
  exact ⟨⟨y0, y1⟩, ⟨[c0], [c1], rfl, hK0, hK1⟩, ⟨hw0, hw1⟩⟩

theorem heapS26 : Kd.Heap k26 := Kd.heap_iso _ (Kd.heap_pair (Kd.heap_int .i64) (Kd.heap_pair (Kd.heap_int .i64) (Kd.heap_pair (Kd.heap_int .i64) (Kd.heap_pair (Kd.heap_slice _ heapS62) (Kd.heap_slice _ heapS80)))))
theorem opensS26 : Opens Try.prog k26 26 wfS26 := by
  intro H enc w base spare held fuel cs x h
  obtain ⟨xs, n, _, _, hlen, hxl, hf⟩ := DataW.trod_struct Try.underlying26 h
  have hlen2 : cs.length = 5 := hlen.trans (by kernel_rfl)
  have hxl2 : xs.length = 5 := hxl
  have o3 : Try.prog.cellsOf 3 = 1 := by kernel_rfl
  have o23 : Try.prog.cellsOf 23 = 1 := by kernel_rfl
  have o24 : Try.prog.cellsOf 24 = 1 := by kernel_rfl
  obtain ⟨c0, c1, c2, c3, c4, rfl⟩ := len5 hlen2
  have g0 : DataW.trod enc Try.prog w base spare held n 3 [c0] = some (xs[0]'(by omega)) := by
    have e := hf 0 _ rfl
    rw [show xs[0]? = some (xs[0]'(by omega)) from List.getElem?_eq_getElem (by omega)] at e
    simpa [o3] using e
  obtain ⟨y0, hK0, hw0⟩ := (opens_int Try.underlying3) g0
  have g1 : DataW.trod enc Try.prog w base spare held n 3 [c1] = some (xs[1]'(by omega)) := by
    have e := hf 1 _ rfl
    rw [show xs[1]? = some (xs[1]'(by omega)) from List.getElem?_eq_getElem (by omega)] at e
    simpa [o3] using e
  obtain ⟨y1, hK1, hw1⟩ := (opens_int Try.underlying3) g1
  have g2 : DataW.trod enc Try.prog w base spare held n 3 [c2] = some (xs[2]'(by omega)) := by
    have e := hf 2 _ rfl
    rw [show xs[2]? = some (xs[2]'(by omega)) from List.getElem?_eq_getElem (by omega)] at e
    simpa [o3] using e
  obtain ⟨y2, hK2, hw2⟩ := (opens_int Try.underlying3) g2
  have g3 : DataW.trod enc Try.prog w base spare held n 23 [c3] = some (xs[3]'(by omega)) := by
    have e := hf 3 _ rfl
    rw [show xs[3]? = some (xs[3]'(by omega)) from List.getElem?_eq_getElem (by omega)] at e
    simpa [o23] using e
  obtain ⟨y3, hK3, hw3⟩ := (opens_slice Try.underlying23 opensS62 (by kernel_rfl)) g3
  have g4 : DataW.trod enc Try.prog w base spare held n 24 [c4] = some (xs[4]'(by omega)) := by
    have e := hf 4 _ rfl
    rw [show xs[4]? = some (xs[4]'(by omega)) from List.getElem?_eq_getElem (by omega)] at e
    simpa [o24] using e
  obtain ⟨y4, hK4, hw4⟩ := (opens_slice Try.underlying24 opensS80 (by kernel_rfl)) g4
  exact ⟨⟨y0, y1, y2, y3, y4⟩, ⟨[c0], [c1, c2, c3, c4], rfl, hK0, ⟨[c1], [c2, c3, c4], rfl, hK1, ⟨[c2], [c3, c4], rfl, hK2, ⟨[c3], [c4], rfl, hK3, hK4⟩⟩⟩⟩, ⟨hw0, hw1, hw2, hw3, hw4⟩⟩
end Go.Proofs.Ytjnkpocfmpbpoaa.Sw
