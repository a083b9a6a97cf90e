/- The laws' struct arguments, opened: what came in reads as the printed contracts ask. -/
import Derived.Test.YtjnkpocfmpbpoaaOp
import Derived.Test.YtjnkpocfmpbpoaaSex0
import Derived.Test.YtjnkpocfmpbpoaaSex11
namespace Go.Proofs.Ytjnkpocfmpbpoaa.Se
open Go.RowKit Go.Proofs.YtjnkpocfmpbpoaaW.PrintWords Go.Proofs.YtjnkpocfmpbpoaaW.PrintLast Go.Proofs.Ytjnkpocfmpbpoaa.Op
set_option linter.unusedVariables false
theorem heapS57 : Kd.Heap k57 := Kd.heap_iso _ (Kd.heap_pair (Kd.heap_int .i64) (Kd.heap_pair (Kd.heap_int .i64) (Kd.heap_int .i64)))
theorem opensS57 : Opens Try.prog k57 57 wfS57 := by
  intro H enc w base spare held fuel cs x h
  obtain ⟨xs, n, _, _, hlen, hxl, hf⟩ := DataW.trod_struct Try.underlying57 h
  have hlen2 : cs.length = 3 := hlen.trans (by kernel_rfl)
  have hxl2 : xs.length = 3 := hxl
  have o3 : Try.prog.cellsOf 3 = 1 := by kernel_rfl
  obtain ⟨c0, c1, c2, rfl⟩ := len3 hlen2
  have g0 : DataW.trod enc Try.prog w base spare held n 3 [c0] = some (xs[0]'(by omega)) := by
    have e := hf 0 _ rfl
    rw [show xs[0]? = some (xs[0]'(by omega)) from List.getElem?_eq_getElem (by omega)] at e
    simpa [o3] using e
  obtain ⟨y0, hK0, hw0⟩ := (opens_int Try.underlying3) g0
  have g1 : DataW.trod enc Try.prog w base spare held n 3 [c1] = some (xs[1]'(by omega)) := by
    have e := hf 1 _ rfl
    rw [show xs[1]? = some (xs[1]'(by omega)) from List.getElem?_eq_getElem (by omega)] at e
    simpa [o3] using e
  obtain ⟨y1, hK1, hw1⟩ := (opens_int Try.underlying3) g1
  have g2 : DataW.trod enc Try.prog w base spare held n 3 [c2] = some (xs[2]'(by omega)) := by
    have e := hf 2 _ rfl
    rw [show xs[2]? = some (xs[2]'(by omega)) from List.getElem?_eq_getElem (by omega)] at e
    simpa [o3] using e
  obtain ⟨y2, hK2, hw2⟩ := (opens_int Try.underlying3) g2
  exact ⟨⟨y0, y1, y2⟩, ⟨[c0], [c1, c2], rfl, hK0, ⟨[c1], [c2], rfl, hK1, hK2⟩⟩, ⟨hw0, hw1, hw2⟩⟩
end Go.Proofs.Ytjnkpocfmpbpoaa.Se
