/- The laws' struct arguments, opened: what came in reads as the printed contracts ask. -/
import Derived.Test.YtihcnbhcemkncaaOp
import Derived.Test.YtihcnbhcemkncaaOx0
import Derived.Test.YtihcnbhcemkncaaOx6
import Derived.Test.YtihcnbhcemkncaaOx8
namespace Go.Proofs.Ytihcnbhcemkncaa.O
open Go.RowKit Go.Proofs.YtihcnbhcemkncaaW.PrintWords Go.Proofs.YtihcnbhcemkncaaW.PrintLast Go.Proofs.Ytihcnbhcemkncaa.Op
set_option linter.unusedVariables false
theorem heapS66 : Kd.Heap k66 := Kd.heap_iso _ (Kd.heap_pair Kd.heap_bool (Kd.heap_int .i64))
theorem opensS66 : Opens Try.prog k66 66 wfS66 := by
  intro H enc w base spare held fuel cs x h
  obtain ⟨xs, n, _, _, hlen, hxl, hf⟩ := DataW.trod_struct Try.underlying66 h
  have hlen2 : cs.length = 2 := hlen.trans (by kernel_rfl)
  have hxl2 : xs.length = 2 := hxl
  have o3 : Try.prog.cellsOf 3 = 1 := by kernel_rfl
  have o4 : Try.prog.cellsOf 4 = 1 := by kernel_rfl
  obtain ⟨c0, c1, rfl⟩ := len2 hlen2
  have g0 : DataW.trod enc Try.prog w base spare held n 4 [c0] = some (xs[0]'(by omega)) := by
    have e := hf 0 _ rfl
    rw [show xs[0]? = some (xs[0]'(by omega)) from List.getElem?_eq_getElem (by omega)] at e
    simpa [o4] using e
  obtain ⟨y0, hK0, hw0⟩ := (opens_bool Try.underlying4) g0
  have g1 : DataW.trod enc Try.prog w base spare held n 3 [c1] = some (xs[1]'(by omega)) := by
    have e := hf 1 _ rfl
    rw [show xs[1]? = some (xs[1]'(by omega)) from List.getElem?_eq_getElem (by omega)] at e
    simpa [o3] using e
  obtain ⟨y1, hK1, hw1⟩ := (opens_int Try.underlying3) g1
  exact ⟨⟨y0, y1⟩, ⟨[c0], [c1], rfl, hK0, hK1⟩, ⟨hw0, hw1⟩⟩

theorem heapS80 : Kd.Heap k80 := Kd.heap_iso _ (Kd.heap_pair (Kd.heap_int .i64) (Kd.heap_slice _ heapS66))
theorem opensS80 : Opens Try.prog k80 80 wfS80 := by
  intro H enc w base spare held fuel cs x h
  obtain ⟨xs, n, _, _, hlen, hxl, hf⟩ := DataW.trod_struct Try.underlying80 h
  have hlen2 : cs.length = 2 := hlen.trans (by kernel_rfl)
  have hxl2 : xs.length = 2 := hxl
  have o3 : Try.prog.cellsOf 3 = 1 := by kernel_rfl
  have o26 : Try.prog.cellsOf 26 = 1 := by kernel_rfl
  obtain ⟨c0, c1, rfl⟩ := len2 hlen2
  have g0 : DataW.trod enc Try.prog w base spare held n 3 [c0] = some (xs[0]'(by omega)) := by
    have e := hf 0 _ rfl
    rw [show xs[0]? = some (xs[0]'(by omega)) from List.getElem?_eq_getElem (by omega)] at e
    simpa [o3] using e
  obtain ⟨y0, hK0, hw0⟩ := (opens_int Try.underlying3) g0
  have g1 : DataW.trod enc Try.prog w base spare held n 26 [c1] = some (xs[1]'(by omega)) := by
    have e := hf 1 _ rfl
    rw [show xs[1]? = some (xs[1]'(by omega)) from List.getElem?_eq_getElem (by omega)] at e
    simpa [o26] using e
  obtain ⟨y1, hK1, hw1⟩ := (opens_slice Try.underlying26 opensS66 (by kernel_rfl)) g1
  exact ⟨⟨y0, y1⟩, ⟨[c0], [c1], rfl, hK0, hK1⟩, ⟨hw0, hw1⟩⟩

theorem heapS77 : Kd.Heap k77 := Kd.heap_iso _ (Kd.heap_pair (Kd.heap_int .i64) (Kd.heap_int .i64))
theorem opensS77 : Opens Try.prog k77 77 wfS77 := by
  intro H enc w base spare held fuel cs x h
  obtain ⟨xs, n, _, _, hlen, hxl, hf⟩ := DataW.trod_struct Try.underlying77 h
  have hlen2 : cs.length = 2 := hlen.trans (by kernel_rfl)
  have hxl2 : xs.length = 2 := hxl
  have o3 : Try.prog.cellsOf 3 = 1 := by kernel_rfl
  obtain ⟨c0, c1, rfl⟩ := len2 hlen2
  have g0 : DataW.trod enc Try.prog w base spare held n 3 [c0] = some (xs[0]'(by omega)) := by
    have e := hf 0 _ rfl
    rw [show xs[0]? = some (xs[0]'(by omega)) from List.getElem?_eq_getElem (by omega)] at e
    simpa [o3] using e
  obtain ⟨y0, hK0, hw0⟩ := (opens_int Try.underlying3) g0
  have g1 : DataW.trod enc Try.prog w base spare held n 3 [c1] = some (xs[1]'(by omega)) := by
    have e := hf 1 _ rfl
    rw [show xs[1]? = some (xs[1]'(by omega)) from List.getElem?_eq_getElem (by omega)] at e
    simpa [o3] using e
  obtain ⟨y1, hK1, hw1⟩ := (opens_int Try.underlying3) g1
  exact ⟨⟨y0, y1⟩, ⟨[c0], [c1], rfl, hK0, hK1⟩, ⟨hw0, hw1⟩⟩
end Go.Proofs.Ytihcnbhcemkncaa.O
