/- The laws' struct arguments, opened: what came in reads as the printed contracts ask. -/
import Derived.Test.YtlfmobnmohnjmaaOp
import Derived.Test.YtlfmobnmohnjmaaTx0
import Derived.Test.YtlfmobnmohnjmaaTx7
namespace Go.Proofs.Ytlfmobnmohnjmaa.T
open Go.RowKit Go.Proofs.YtlfmobnmohnjmaaW.PrintWords Go.Proofs.YtlfmobnmohnjmaaW.PrintLast Go.Proofs.Ytlfmobnmohnjmaa.Op
set_option linter.unusedVariables false
theorem heapS67 : Kd.Heap k67 := Kd.heap_iso _ (Kd.heap_pair (Kd.heap_int .i64) (Kd.heap_int .i64))
theorem opensS67 : Opens Try.prog k67 67 wfS67 := by
  intro H enc w base spare held fuel cs x h
  obtain ⟨xs, n, _, _, hlen, hxl, hf⟩ := DataW.trod_struct Try.underlying67 h
  have hlen2 : cs.length = 2 := hlen.trans (by kernel_rfl)
  have hxl2 : xs.length = 2 := hxl
  have o3 : Try.prog.cellsOf 3 = 1 := by kernel_rfl
  obtain ⟨c0, c1, rfl⟩ := len2 hlen2
  have g0 : DataW.trod enc Try.prog w base spare held n 3 [c0] = some (xs[0]'(by omega)) := by
    have e := hf 0 _ rfl
    rw [show xs[0]? = some (xs[0]'(by omega)) from List.getElem?_eq_getElem (by omega)] at e
    simpa [o3] using e
  obtain ⟨y0, hK0, hw0⟩ := (opens_int Try.underlying3) g0
  have g1 : DataW.trod enc Try.prog w base spare held n 3 [c1] = some (xs[1]'(by omega)) := by
    have e := hf 1 _ rfl
    rw [show xs[1]? = some (xs[1]'(by omega)) from List.getElem?_eq_getElem (by omega)] at e
    simpa [o3] using e
  obtain ⟨y1, hK1, hw1⟩ := (opens_int Try.underlying3) g1
  exact ⟨⟨y0, y1⟩, ⟨[c0], [c1], rfl, hK0, hK1⟩, ⟨hw0, hw1⟩⟩
end Go.Proofs.Ytlfmobnmohnjmaa.T
