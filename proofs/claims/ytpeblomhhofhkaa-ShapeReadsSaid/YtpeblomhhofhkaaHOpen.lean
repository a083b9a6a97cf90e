/- The laws' struct arguments, opened: what came in reads as the printed contracts ask. -/
import Derived.Test.YtpeblomhhofhkaaOp
import Derived.Test.YtpeblomhhofhkaaHx0
import Derived.Test.YtpeblomhhofhkaaHx8
namespace Go.Proofs.Ytpeblomhhofhkaa.H
open Go.RowKit Go.Proofs.YtpeblomhhofhkaaW.PrintWords Go.Proofs.YtpeblomhhofhkaaW.PrintLast Go.Proofs.Ytpeblomhhofhkaa.Op
set_option linter.unusedVariables false
theorem heapS50 : Kd.Heap k50 := Kd.heap_iso _ (Kd.heap_pair (Kd.heap_int .i64) (Kd.heap_int .i64))
theorem opensS50 : Opens Try.prog k50 50 wfS50 := by
  intro H enc w base spare held fuel cs x h
  obtain ⟨xs, n, _, _, hlen, hxl, hf⟩ := DataW.trod_struct Try.underlying50 h
  have hlen2 : cs.length = 2 := hlen.trans (by kernel_rfl)
  have hxl2 : xs.length = 2 := hxl
  have o3 : Try.prog.cellsOf 3 = 1 := by kernel_rfl
  obtain ⟨c0, c1, rfl⟩ := len2 hlen2
  have g0 : DataW.trod enc Try.prog w base spare held n 3 [c0] = some (xs[0]'(by omega)) := by
    have e := hf 0 _ rfl
    rw [show xs[0]? = some (xs[0]'(by omega)) from List.getElem?_eq_getElem (by omega)] at e
    simpa [o3] using e
  obtain ⟨y0, hK0, hw0⟩ := (opens_int Try.underlying3) g0
  have g1 : DataW.trod enc Try.prog w base spare held n 3 [c1] = some (xs[1]'(by omega)) := by
    have e := hf 1 _ rfl
    rw [show xs[1]? = some (xs[1]'(by omega)) from List.getElem?_eq_getElem (by omega)] at e
    simpa [o3] using e
  obtain ⟨y1, hK1, hw1⟩ := (opens_int Try.underlying3) g1
  exact ⟨⟨y0, y1⟩, ⟨[c0], [c1], rfl, hK0, hK1⟩, ⟨hw0, hw1⟩⟩

theorem heapS53 : Kd.Heap k53 := Kd.heap_iso _ (Kd.heap_pair (Kd.heap_int .i64) (Kd.heap_pair (Kd.heap_int .i64) (Kd.heap_pair (Kd.heap_int .i64) (Kd.heap_slice _ heapS50))))
theorem opensS53 : Opens Try.prog k53 53 wfS53 := by
  intro H enc w base spare held fuel cs x h
  obtain ⟨xs, n, _, _, hlen, hxl, hf⟩ := DataW.trod_struct Try.underlying53 h
  have hlen2 : cs.length = 4 := hlen.trans (by kernel_rfl)
  have hxl2 : xs.length = 4 := hxl
  have o3 : Try.prog.cellsOf 3 = 1 := by kernel_rfl
  have o51 : Try.prog.cellsOf 51 = 1 := by kernel_rfl
  obtain ⟨c0, c1, c2, c3, rfl⟩ := len4 hlen2
  have g0 : DataW.trod enc Try.prog w base spare held n 3 [c0] = some (xs[0]'(by omega)) := by
    have e := hf 0 _ rfl
    rw [show xs[0]? = some (xs[0]'(by omega)) from List.getElem?_eq_getElem (by omega)] at e
    simpa [o3] using e
  obtain ⟨y0, hK0, hw0⟩ := (opens_int Try.underlying3) g0
  have g1 : DataW.trod enc Try.prog w base spare held n 3 [c1] = some (xs[1]'(by omega)) := by
    have e := hf 1 _ rfl
    rw [show xs[1]? = some (xs[1]'(by omega)) from List.getElem?_eq_getElem (by omega)] at e
    simpa [o3] using e
  obtain ⟨y1, hK1, hw1⟩ := (opens_int Try.underlying3) g1
  have g2 : DataW.trod enc Try.prog w base spare held n 3 [c2] = some (xs[2]'(by omega)) := by
    have e := hf 2 _ rfl
    rw [show xs[2]? = some (xs[2]'(by omega)) from List.getElem?_eq_getElem (by omega)] at e
    simpa [o3] using e
  obtain ⟨y2, hK2, hw2⟩ := (opens_int Try.underlying3) g2
  have g3 : DataW.trod enc Try.prog w base spare held n 51 [c3] = some (xs[3]'(by omega)) := by
    have e := hf 3 _ rfl
    rw [show xs[3]? = some (xs[3]'(by omega)) from List.getElem?_eq_getElem (by omega)] at e
    simpa [o51] using e
  obtain ⟨y3, hK3, hw3⟩ := (opens_slice Try.underlying51 opensS50 (by kernel_rfl)) g3
  exact ⟨⟨y0, y1, y2, y3⟩, ⟨[c0], [c1, c2, c3], rfl, hK0, ⟨[c1], [c2, c3], rfl, hK1, ⟨[c2], [c3], rfl, hK2, hK3⟩⟩⟩, ⟨hw0, hw1, hw2, hw3⟩⟩
end Go.Proofs.Ytpeblomhhofhkaa.H
