/- The laws' struct arguments, opened: what came in reads as the printed contracts ask. -/
import Derived.Test.YtbcpnbmegaodbaaOp
import Derived.Test.YtbcpnbmegaodbaaCox0
import Derived.Test.YtbcpnbmegaodbaaCox4
namespace Go.Proofs.Ytbcpnbmegaodbaa.Co
open Go.RowKit Go.Proofs.YtbcpnbmegaodbaaW.PrintWords Go.Proofs.YtbcpnbmegaodbaaW.PrintLast Go.Proofs.Ytbcpnbmegaodbaa.Op
set_option linter.unusedVariables false
theorem heapS41 : Kd.Heap k41 := Kd.heap_iso _ (Kd.heap_pair (Kd.heap_int .i64) (Kd.heap_int .i64))
theorem opensS41 : Opens Try.prog k41 41 wfS41 := by
  intro H enc w base spare held fuel cs x h
  obtain ⟨xs, n, _, _, hlen, hxl, hf⟩ := DataW.trod_struct Try.underlying41 h
  have hlen2 : cs.length = 2 := hlen.trans (by kernel_rfl)
  have hxl2 : xs.length = 2 := hxl
  have o3 : Try.prog.cellsOf 3 = 1 := by kernel_rfl
  obtain ⟨c0, c1, rfl⟩ := len2 hlen2
  have g0 : DataW.trod enc Try.prog w base spare held n 3 [c0] = some (xs[0]'(by omega)) := by
    have e := hf 0 _ rfl
    rw [show xs[0]? = some (xs[0]'(by omega)) from List.getElem?_eq_getElem (by omega)] at e
    simpa [o3] using e
  obtain ⟨y0, hK0, hw0⟩ := (opens_int Try.underlying3) g0
  have g1 : DataW.trod enc Try.prog w base spare held n 3 [c1] = some (xs[1]'(by omega)) := by
    have e := hf 1 _ rfl
    rw [show xs[1]? = some (xs[1]'(by omega)) from List.getElem?_eq_getElem (by omega)] at e
    simpa [o3] using e
  obtain ⟨y1, hK1, hw1⟩ := (opens_int Try.underlying3) g1
  exact ⟨⟨y0, y1⟩, ⟨[c0], [c1], rfl, hK0, hK1⟩, ⟨hw0, hw1⟩⟩

theorem heapS37 : Kd.Heap k37 := Kd.heap_iso _ (Kd.heap_pair (Kd.heap_int .i64) (Kd.heap_pair (Kd.heap_int .i64) (Kd.heap_pair (Kd.heap_int .i64) (Kd.heap_slice _ heapS41))))
theorem opensS37 : Opens Try.prog k37 37 wfS37 := by
  intro H enc w base spare held fuel cs x h
  obtain ⟨xs, n, _, _, hlen, hxl, hf⟩ := DataW.trod_struct Try.underlying37 h
  have hlen2 : cs.length = 4 := hlen.trans (by kernel_rfl)
  have hxl2 : xs.length = 4 := hxl
  have o3 : Try.prog.cellsOf 3 = 1 := by kernel_rfl
  have o35 : Try.prog.cellsOf 35 = 1 := by kernel_rfl
  obtain ⟨c0, c1, c2, c3, rfl⟩ := len4 hlen2
  have g0 : DataW.trod enc Try.prog w base spare held n 3 [c0] = some (xs[0]'(by omega)) := by
    have e := hf 0 _ rfl
    rw [show xs[0]? = some (xs[0]'(by omega)) from List.getElem?_eq_getElem (by omega)] at e
    simpa [o3] using e
  obtain ⟨y0, hK0, hw0⟩ := (opens_int Try.underlying3) g0
  have g1 : DataW.trod enc Try.prog w base spare held n 3 [c1] = some (xs[1]'(by omega)) := by
    have e := hf 1 _ rfl
    rw [show xs[1]? = some (xs[1]'(by omega)) from List.getElem?_eq_getElem (by omega)] at e
    simpa [o3] using e
  obtain ⟨y1, hK1, hw1⟩ := (opens_int Try.underlying3) g1
  have g2 : DataW.trod enc Try.prog w base spare held n 3 [c2] = some (xs[2]'(by omega)) := by
    have e := hf 2 _ rfl
    rw [show xs[2]? = some (xs[2]'(by omega)) from List.getElem?_eq_getElem (by omega)] at e
    simpa [o3] using e
  obtain ⟨y2, hK2, hw2⟩ := (opens_int Try.underlying3) g2
  have g3 : DataW.trod enc Try.prog w base spare held n 35 [c3] = some (xs[3]'(by omega)) := by
    have e := hf 3 _ rfl
    rw [show xs[3]? = some (xs[3]'(by omega)) from List.getElem?_eq_getElem (by omega)] at e
    simpa [o35] using e
  obtain ⟨y3, hK3, hw3⟩ := (opens_slice Try.underlying35 opensS41 (by kernel_rfl)) g3
  exact ⟨⟨y0, y1, y2, y3⟩, ⟨[c0], [c1, c2, c3], rfl, hK0, ⟨[c1], [c2, c3], rfl, hK1, ⟨[c2], [c3], rfl, hK2, hK3⟩⟩⟩, ⟨hw0, hw1, hw2, hw3⟩⟩
end Go.Proofs.Ytbcpnbmegaodbaa.Co
