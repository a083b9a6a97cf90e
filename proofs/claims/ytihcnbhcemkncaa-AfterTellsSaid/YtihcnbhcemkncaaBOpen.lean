/- The laws' struct arguments, opened: what came in reads as the printed contracts ask. -/
import Derived.Test.YtihcnbhcemkncaaOp
import Derived.Test.YtihcnbhcemkncaaBx0
import Derived.Test.YtihcnbhcemkncaaBx15
namespace Go.Proofs.Ytihcnbhcemkncaa.B
open Go.RowKit Go.Proofs.YtihcnbhcemkncaaW.PrintWords Go.Proofs.YtihcnbhcemkncaaW.PrintLast Go.Proofs.Ytihcnbhcemkncaa.Op
set_option linter.unusedVariables false
theorem heapS61 : Kd.Heap k61 := Kd.heap_iso _ (Kd.heap_pair (Kd.heap_int .i64) (Kd.heap_pair (Kd.heap_int .i64) (Kd.heap_int .i64)))
theorem opensS61 : Opens Try.prog k61 61 wfS61 := by
  intro H enc w base spare held fuel cs x h
  obtain ⟨xs, n, _, _, hlen, hxl, hf⟩ := DataW.trod_struct Try.underlying61 h
  have hlen2 : cs.length = 3 := hlen.trans (by kernel_rfl)
  have hxl2 : xs.length = 3 := hxl
  have o3 : Try.prog.cellsOf 3 = 1 := by kernel_rfl
  obtain ⟨c0, c1, c2, rfl⟩ := len3 hlen2
  have g0 : DataW.trod enc Try.prog w base spare held n 3 [c0] = some (xs[0]'(by omega)) := by
    have e := hf 0 _ rfl
    rw [show xs[0]? = some (xs[0]'(by omega)) from List.getElem?_eq_getElem (by omega)] at e
    simpa [o3] using e
  obtain ⟨y0, hK0, hw0⟩ := (opens_int Try.underlying3) g0
  have g1 : DataW.trod enc Try.prog w base spare held n 3 [c1] = some (xs[1]'(by omega)) := by
    have e := hf 1 _ rfl
    rw [show xs[1]? = some (xs[1]'(by omega)) from List.getElem?_eq_getElem (by omega)] at e
    simpa [o3] using e
  obtain ⟨y1, hK1, hw1⟩ := (opens_int Try.underlying3) g1
  have g2 : DataW.trod enc Try.prog w base spare held n 3 [c2] = some (xs[2]'(by omega)) := by
    have e := hf 2 _ rfl
    rw [show xs[2]? = some (xs[2]'(by omega)) from List.getElem?_eq_getElem (by omega)] at e
    simpa [o3] using e
  obtain ⟨y2, hK2, hw2⟩ := (opens_int Try.underlying3) g2
  exact ⟨⟨y0, y1, y2⟩, ⟨[c0], [c1, c2], rfl, hK0, ⟨[c1], [c2], rfl, hK1, hK2⟩⟩, ⟨hw0, hw1, hw2⟩⟩

theorem heapS25 : Kd.Heap k25 := Kd.heap_iso _ (Kd.heap_pair (Kd.heap_int .i64) (Kd.heap_slice _ heapS61))
theorem opensS25 : Opens Try.prog k25 25 wfS25 := by
  intro H enc w base spare held fuel cs x h
  obtain ⟨xs, n, _, _, hlen, hxl, hf⟩ := DataW.trod_struct Try.underlying25 h
  have hlen2 : cs.length = 2 := hlen.trans (by kernel_rfl)
  have hxl2 : xs.length = 2 := hxl
  have o3 : Try.prog.cellsOf 3 = 1 := by kernel_rfl
  have o23 : Try.prog.cellsOf 23 = 1 := by kernel_rfl
  obtain ⟨c0, c1, rfl⟩ := len2 hlen2
  have g0 : DataW.trod enc Try.prog w base spare held n 3 [c0] = some (xs[0]'(by omega)) := by
    have e := hf 0 _ rfl
    rw [show xs[0]? = some (xs[0]'(by omega)) from List.getElem?_eq_getElem (by omega)] at e
    simpa [o3] using e
  obtain ⟨y0, hK0, hw0⟩ := (opens_int Try.underlying3) g0
  have g1 : DataW.trod enc Try.prog w base spare held n 23 [c1] = some (xs[1]'(by omega)) := by
    have e := hf 1 _ rfl
    rw [show xs[1]? = some (xs[1]'(by omega)) from List.getElem?_eq_getElem (by omega)] at e
    simpa [o23] using e
  obtain ⟨y1, hK1, hw1⟩ := (opens_slice Try.underlying23 opensS61 (by kernel_rfl)) g1
  exact ⟨⟨y0, y1⟩, ⟨[c0], [c1], rfl, hK0, hK1⟩, ⟨hw0, hw1⟩⟩

theorem heapS66 : Kd.Heap k66 := Kd.heap_iso _ (Kd.heap_pair Kd.heap_bool (Kd.heap_int .i64))
theorem opensS66 : Opens Try.prog k66 66 wfS66 := by
  intro H enc w base spare held fuel cs x h
  obtain ⟨xs, n, _, _, hlen, hxl, hf⟩ := DataW.trod_struct Try.underlying66 h
  have hlen2 : cs.length = 2 := hlen.trans (by kernel_rfl)
  have hxl2 : xs.length = 2 := hxl
  have o3 : Try.prog.cellsOf 3 = 1 := by kernel_rfl
  have o4 : Try.prog.cellsOf 4 = 1 := by kernel_rfl
  obtain ⟨c0, c1, rfl⟩ := len2 hlen2
  have g0 : DataW.trod enc Try.prog w base spare held n 4 [c0] = some (xs[0]'(by omega)) := by
    have e := hf 0 _ rfl
    rw [show xs[0]? = some (xs[0]'(by omega)) from List.getElem?_eq_getElem (by omega)] at e
    simpa [o4] using e
  obtain ⟨y0, hK0, hw0⟩ := (opens_bool Try.underlying4) g0
  have g1 : DataW.trod enc Try.prog w base spare held n 3 [c1] = some (xs[1]'(by omega)) := by
    have e := hf 1 _ rfl
    rw [show xs[1]? = some (xs[1]'(by omega)) from List.getElem?_eq_getElem (by omega)] at e
    simpa [o3] using e
  obtain ⟨y1, hK1, hw1⟩ := (opens_int Try.underlying3) g1
  exact ⟨⟨y0, y1⟩, ⟨[c0], [c1], rfl, hK0, hK1⟩, ⟨hw0, hw1⟩⟩
end Go.Proofs.Ytihcnbhcemkncaa.B
