/- The laws' struct arguments, opened: what came in reads as the printed contracts ask. -/
import Derived.Test.YtlfeohglfjnnhaaOp
import Derived.Test.YtlfeohglfjnnhaaHpx0
import Derived.Test.YtlfeohglfjnnhaaHpx5
namespace Go.Proofs.Ytlfeohglfjnnhaa.Hp
open Go.RowKit Go.Proofs.YtlfeohglfjnnhaaW.PrintWords Go.Proofs.YtlfeohglfjnnhaaW.PrintLast Go.Proofs.Ytlfeohglfjnnhaa.Op
set_option linter.unusedVariables false
theorem opensS59 : Opens Try.prog k59 59 wfS59 := by
  intro H enc w base spare held fuel cs x h
  obtain ⟨xs, n, _, _, hlen, hxl, hf⟩ := DataW.trod_struct Try.underlying59 h
  have hlen2 : cs.length = 2 := hlen.trans (by kernel_rfl)
  have hxl2 : xs.length = 2 := hxl
  have o3 : Try.prog.cellsOf 3 = 1 := by kernel_rfl
  have o4 : Try.prog.cellsOf 4 = 1 := by kernel_rfl
  match cs, hlen2 with
  | [c0, c1], _ =>
    have g0 : DataW.trod enc Try.prog w base spare held n 4 [c0] = some (xs[0]'(by omega)) := by
      have e := hf 0 _ rfl
      rw [show xs[0]? = some (xs[0]'(by omega)) from List.getElem?_eq_getElem (by omega)] at e
      simpa [o4] using e
    obtain ⟨y0, hK0, hw0⟩ := (opens_bool Try.underlying4) g0
    have g1 : DataW.trod enc Try.prog w base spare held n 3 [c1] = some (xs[1]'(by omega)) := by
      have e := hf 1 _ rfl
      rw [show xs[1]? = some (xs[1]'(by omega)) from List.getElem?_eq_getElem (by omega)] at e
      simpa [o3] using e
    obtain ⟨y1, hK1, hw1⟩ := (opens_int Try.underlying3) g1
    exact ⟨⟨y0, y1⟩, ⟨[c0], [c1], rfl, hK0, hK1⟩, ⟨hw0, hw1⟩⟩

theorem opensS62 : Opens Try.prog k62 62 wfS62 := by
  intro H enc w base spare held fuel cs x h
  obtain ⟨xs, n, _, _, hlen, hxl, hf⟩ := DataW.trod_struct Try.underlying62 h
  have hlen2 : cs.length = 2 := hlen.trans (by kernel_rfl)
  have hxl2 : xs.length = 2 := hxl
  have o3 : Try.prog.cellsOf 3 = 1 := by kernel_rfl
  match cs, hlen2 with
  | [c0, c1], _ =>
    have g0 : DataW.trod enc Try.prog w base spare held n 3 [c0] = some (xs[0]'(by omega)) := by
      have e := hf 0 _ rfl
      rw [show xs[0]? = some (xs[0]'(by omega)) from List.getElem?_eq_getElem (by omega)] at e
      simpa [o3] using e
    obtain ⟨y0, hK0, hw0⟩ := (opens_int Try.underlying3) g0
    have g1 : DataW.trod enc Try.prog w base spare held n 3 [c1] = some (xs[1]'(by omega)) := by
      have e := hf 1 _ rfl
      rw [show xs[1]? = some (xs[1]'(by omega)) from List.getElem?_eq_getElem (by omega)] at e
      simpa [o3] using e
    obtain ⟨y1, hK1, hw1⟩ := (opens_int Try.underlying3) g1
    exact ⟨⟨y0, y1⟩, ⟨[c0], [c1], rfl, hK0, hK1⟩, ⟨hw0, hw1⟩⟩
end Go.Proofs.Ytlfeohglfjnnhaa.Hp
