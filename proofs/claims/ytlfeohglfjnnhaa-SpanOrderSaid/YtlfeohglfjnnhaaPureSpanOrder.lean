/-
  PROVED: a difference is nought just of numbers that go round to one value, for every two int64 numbers and every bool. Condition: each argument is of its kind; nothing else.
-/
import Derived.Test.YtlfeohglfjnnhaaSpx1
import Derived.Test.YtlfeohglfjnnhaaSpx3
namespace Go.Proofs.Ytlfeohglfjnnhaa.Sp
open Go.RowKit Go.Proofs.YtlfeohglfjnnhaaW.PrintWords Go.Proofs.YtlfeohglfjnnhaaW.PrintLast Go.Proofs.YtlfeohglfjnnhaaW.PrintMore Go.Proofs.Ytlfeohglfjnnhaa.Ho
set_option linter.unusedVariables false
set_option linter.unusedSimpArgs false
theorem u64w (a : Int) : IntKind.u64.wrap a = a % 18446744073709551616 := by
  unfold IntKind.wrap
  simp [IntKind.bits, IntKind.signed]
theorem w32_eq {x y : Int} : wrap32 x = wrap32 y ↔ x % 4294967296 = y % 4294967296 := by
  unfold wrap32; omega
theorem w64_small {x : Int} (h : -9223372036854775808 ≤ x) (h2 : x ≤ 9223372036854775807) : wrap64 x = x := by
  unfold wrap64; omega
theorem w32_lo (x : Int) : -2147483648 ≤ wrap32 x := by unfold wrap32; omega
theorem w32_hi (x : Int) : wrap32 x ≤ 2147483647 := by unfold wrap32; omega
theorem w32_id {x : Int} (h : -2147483648 ≤ x) (h2 : x ≤ 2147483647) : wrap32 x = x := by unfold wrap32; omega
theorem w32_w64 (x : Int) : wrap32 (wrap64 x) = wrap32 x := by unfold wrap32 wrap64; omega
theorem w32_w32 (x : Int) : wrap32 (wrap32 x) = wrap32 x := by unfold wrap32; omega
theorem w32_addl (x y : Int) : wrap32 (wrap32 x + y) = wrap32 (x + y) := by unfold wrap32; omega
theorem w32_addr (x y : Int) : wrap32 (x + wrap32 y) = wrap32 (x + y) := by unfold wrap32; omega
theorem w32_subl (x y : Int) : wrap32 (wrap32 x - y) = wrap32 (x - y) := by unfold wrap32; omega
theorem w32_subr (x y : Int) : wrap32 (x - wrap32 y) = wrap32 (x - y) := by unfold wrap32; omega
theorem w32_mod (x : Int) : wrap32 x % 4294967296 = x % 4294967296 := by unfold wrap32; omega
theorem w32_mull (x y : Int) : wrap32 (wrap32 x * y) = wrap32 (x * y) := by
  rw [w32_eq, Int.mul_emod, w32_mod, ← Int.mul_emod]
theorem w32_mulr (x y : Int) : wrap32 (x * wrap32 y) = wrap32 (x * y) := by
  rw [w32_eq, Int.mul_emod, w32_mod, ← Int.mul_emod]
theorem tmodM (a : Int) : a.tmod 4294967296 = if 0 ≤ a then a % 4294967296 else -((-a) % 4294967296) := by
  split
  · exact Int.tmod_eq_emod_of_nonneg ‹_›
  · have : a.tmod 4294967296 = -((-a).tmod 4294967296) := by rw [Int.neg_tmod]; omega
    rw [this, Int.tmod_eq_emod_of_nonneg (by omega)]
theorem wrap_f (a : Int) : span_Wrap.f a = some (wrap32 a) := by
  unfold span_Wrap.f
  rw [u64w]; unfold wrap64 wrap32
  congr 1; omega
theorem add_f (a b : Int) : span_Add.f a b = some (wrap32 (a + b)) := by
  unfold span_Add.f
  simp only [wrap_f, Option.bind_some, w32_w64, w32_addl, w32_addr]
theorem sub_f (a b : Int) : span_Sub.f a b = some (wrap32 (a - b)) := by
  unfold span_Sub.f
  simp only [wrap_f, Option.bind_some, w32_w64, w32_subl, w32_subr]
theorem mul_f (a b : Int) : span_Mul.f a b = some (wrap32 (a * b)) := by
  unfold span_Mul.f
  simp only [wrap_f, Option.bind_some, w32_w64, w32_mull, w32_mulr]
theorem truth_f (a : Bool) : span_Truth.f a = some (if a then 1 else 0) := by
  unfold span_Truth.f
  split <;> rfl
theorem right_f (a : Int) : span_Right.f a = some (decide (-2147483648 ≤ a ∧ a ≤ 2147483647)) := by
  unfold span_Right.f
  by_cases h : a ≥ (-2147483648)
  · rw [if_pos h]; simp [h]
  · rw [if_neg h]; simp [h]
theorem awake_f : handshakerlaw01_awake.f = some true := by
  decide +kernel
theorem wf64 {a : Int} (h : (Lit.int .i64 a).wf = true) : -9223372036854775808 ≤ a ∧ a ≤ 9223372036854775807 := by
  simpa [Lit.wf, IntKind.bits, IntKind.signed, IntKind.min, IntKind.max] using h
theorem SpanOrder : handshakerlaw01_SpanOrder.Pure := by
  intro a b c _ _
  unfold handshakerlaw01_SpanOrder.f
  simp only [add_f, mul_f, sub_f, wrap_f, truth_f, Option.bind_some, w32_addl, w32_addr, awake_f]
  have h0 : wrap32 (a - b) = 0 ↔ wrap32 a = wrap32 b := by unfold wrap32; omega
  have h1 : wrap32 (b - a) = 0 ↔ wrap32 a = wrap32 b := by unfold wrap32; omega
  rw [show a - b + b = a by omega]
  by_cases e : wrap32 a = wrap32 b
  · rw [if_pos (h0.2 e), if_pos e, h1.2 e]
    cases c <;> simp
  · have e1 : ¬ wrap32 (b - a) = 0 := fun x => e (h1.1 x)
    have e2 : (wrap32 (b - a) == 0) = false := by simpa using e1
    rw [if_neg (fun x => e (h0.1 x)), if_neg e, e2]
    cases c <;> simp
end Go.Proofs.Ytlfeohglfjnnhaa.Sp
namespace Go.Proofs.Ytlfeohglfjnnhaa.Pure
theorem SpanOrder : Go.Proofs.Ytlfeohglfjnnhaa.Sp.handshakerlaw01_SpanOrder.Pure := Go.Proofs.Ytlfeohglfjnnhaa.Sp.SpanOrder
end Go.Proofs.Ytlfeohglfjnnhaa.Pure
