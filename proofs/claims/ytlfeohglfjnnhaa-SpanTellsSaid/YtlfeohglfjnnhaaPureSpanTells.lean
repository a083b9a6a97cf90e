/-
  PROVED: span.Right, Wrap, Add, Sub and Mul answer what the reference answers, for every two int64 numbers. Condition: each argument is of its kind; nothing else.
-/
import Derived.Test.YtlfeohglfjnnhaaPSpanTellsx1
namespace Go.Proofs.Ytlfeohglfjnnhaa.Pure
open Go.RowKit Go.Proofs.Ytlfeohglfjnnhaa.PSpanTells Go.Proofs.YtlfeohglfjnnhaaW.PrintWords Go.Proofs.YtlfeohglfjnnhaaW.PrintLast
set_option linter.unusedVariables false

theorem u64w (a : Int) : IntKind.u64.wrap a = a % 18446744073709551616 := by
  unfold IntKind.wrap
  simp [IntKind.bits, IntKind.signed]
theorem w32_eq {x y : Int} : wrap32 x = wrap32 y ↔ x % 4294967296 = y % 4294967296 := by
  unfold wrap32; omega
theorem w64_small {x : Int} (h : -9223372036854775808 ≤ x) (h2 : x ≤ 9223372036854775807) : wrap64 x = x := by
  unfold wrap64; omega
theorem w32_lo (x : Int) : -2147483648 ≤ wrap32 x := by unfold wrap32; omega
theorem w32_hi (x : Int) : wrap32 x ≤ 2147483647 := by unfold wrap32; omega
theorem w32_id {x : Int} (h : -2147483648 ≤ x) (h2 : x ≤ 2147483647) : wrap32 x = x := by unfold wrap32; omega
theorem w32_w64 (x : Int) : wrap32 (wrap64 x) = wrap32 x := by unfold wrap32 wrap64; omega
theorem w32_w32 (x : Int) : wrap32 (wrap32 x) = wrap32 x := by unfold wrap32; omega
theorem w32_addl (x y : Int) : wrap32 (wrap32 x + y) = wrap32 (x + y) := by unfold wrap32; omega
theorem w32_addr (x y : Int) : wrap32 (x + wrap32 y) = wrap32 (x + y) := by unfold wrap32; omega
theorem w32_subl (x y : Int) : wrap32 (wrap32 x - y) = wrap32 (x - y) := by unfold wrap32; omega
theorem w32_subr (x y : Int) : wrap32 (x - wrap32 y) = wrap32 (x - y) := by unfold wrap32; omega
theorem w32_mod (x : Int) : wrap32 x % 4294967296 = x % 4294967296 := by unfold wrap32; omega
theorem w32_mull (x y : Int) : wrap32 (wrap32 x * y) = wrap32 (x * y) := by
  rw [w32_eq, Int.mul_emod, w32_mod, ← Int.mul_emod]
theorem w32_mulr (x y : Int) : wrap32 (x * wrap32 y) = wrap32 (x * y) := by
  rw [w32_eq, Int.mul_emod, w32_mod, ← Int.mul_emod]
theorem tmodM (a : Int) : a.tmod 4294967296 = if 0 ≤ a then a % 4294967296 else -((-a) % 4294967296) := by
  split
  · exact Int.tmod_eq_emod_of_nonneg ‹_›
  · have : a.tmod 4294967296 = -((-a).tmod 4294967296) := by rw [Int.neg_tmod]; omega
    rw [this, Int.tmod_eq_emod_of_nonneg (by omega)]
theorem wrap_f (a : Int) : span_Wrap.f a = some (wrap32 a) := by
  unfold span_Wrap.f
  rw [u64w]; unfold wrap64 wrap32
  congr 1; omega
theorem add_f (a b : Int) : span_Add.f a b = some (wrap32 (a + b)) := by
  unfold span_Add.f
  simp only [wrap_f, Option.bind_some, w32_w64, w32_addl, w32_addr]
theorem sub_f (a b : Int) : span_Sub.f a b = some (wrap32 (a - b)) := by
  unfold span_Sub.f
  simp only [wrap_f, Option.bind_some, w32_w64, w32_subl, w32_subr]
theorem mul_f (a b : Int) : span_Mul.f a b = some (wrap32 (a * b)) := by
  unfold span_Mul.f
  simp only [wrap_f, Option.bind_some, w32_w64, w32_mull, w32_mulr]
theorem truth_f (a : Bool) : span_Truth.f a = some (if a then 1 else 0) := by
  unfold span_Truth.f
  split <;> rfl
theorem right_f (a : Int) : span_Right.f a = some (decide (-2147483648 ≤ a ∧ a ≤ 2147483647)) := by
  unfold span_Right.f
  by_cases h : a ≥ (-2147483648)
  · rw [if_pos h]; simp [h]
  · rw [if_neg h]; simp [h]
theorem awake_f : handshakerlaw01_awake.f = some true := by
  decide +kernel
theorem wf64 {a : Int} (h : (Lit.int .i64 a).wf = true) : -9223372036854775808 ≤ a ∧ a ≤ 9223372036854775807 := by
  simpa [Lit.wf, IntKind.bits, IntKind.signed, IntKind.min, IntKind.max] using h
theorem rwrap_f {a : Int} (h : -9223372036854775808 ≤ a) (h2 : a ≤ 9223372036854775807) : handshakerref01_Wrap.f a = some (wrap32 a) := by
  unfold handshakerref01_Wrap.f
  rw [tmodM]
  have e1 : ∀ x : Int, -9223372036854775808 ≤ x → x ≤ 9223372036854775807 → wrap64 x = x := fun x => w64_small
  unfold wrap32
  split
  · rw [if_neg (by omega)]
    split
    · rw [e1 _ (by omega) (by omega)]; congr 1; omega
    · congr 1; omega
  · split
    · rw [e1 (-(-a % 4294967296) + 4294967296) (by omega) (by omega), if_neg (by omega)]; congr 1; omega
    · rw [if_neg (by omega)]; congr 1; omega
theorem rright_f (a : Int) : handshakerref01_Right.f a = some (decide (-2147483648 ≤ a ∧ a ≤ 2147483647)) := by
  unfold handshakerref01_Right.f
  by_cases h : a ≥ (-2147483648)
  · rw [if_pos h]; simp [h]
  · rw [if_neg h]; simp [h]
theorem tmod16 (a : Int) : a.tmod 65536 = if 0 ≤ a then a % 65536 else -((-a) % 65536) := by
  split
  · exact Int.tmod_eq_emod_of_nonneg ‹_›
  · have : a.tmod 65536 = -((-a).tmod 65536) := by rw [Int.neg_tmod]; omega
    rw [this, Int.tmod_eq_emod_of_nonneg (by omega)]
theorem prod_bd {x y X Y : Int} (h1 : -X ≤ x) (h2 : x ≤ X) (h3 : -Y ≤ y) (h4 : y ≤ Y) (hX : 0 ≤ X) : -(X * Y) ≤ x * y ∧ x * y ≤ X * Y := by
  have a1 : (X - x) * (Y + y) ≥ 0 := Int.mul_nonneg (by omega) (by omega)
  have a2 : (X + x) * (Y - y) ≥ 0 := Int.mul_nonneg (by omega) (by omega)
  have a3 : (X - x) * (Y - y) ≥ 0 := Int.mul_nonneg (by omega) (by omega)
  have a4 : (X + x) * (Y + y) ≥ 0 := Int.mul_nonneg (by omega) (by omega)
  simp only [Int.sub_mul, Int.add_mul, Int.mul_add, Int.mul_sub] at a1 a2 a3 a4
  constructor <;> omega
theorem rmul_f {a b : Int} (ha : -9223372036854775808 ≤ a) (ha2 : a ≤ 9223372036854775807) (hb : -9223372036854775808 ≤ b) (hb2 : b ≤ 9223372036854775807) : handshakerref01_Mul.f a b = some (wrap32 (a * b)) := by
  unfold handshakerref01_Mul.f
  rw [rwrap_f ha ha2, rwrap_f hb hb2]
  simp only [Option.bind_some]
  have hx1 := w32_lo a
  have hx2 := w32_hi a
  have hy1 := w32_lo b
  have hy2 := w32_hi b
  have hm : wrap32 (a * b) = wrap32 (wrap32 a * wrap32 b) := by rw [w32_mull, w32_mulr]
  rw [hm]
  generalize wrap32 a = x at *
  generalize wrap32 b = y at *
  have hl : -65535 ≤ y.tmod 65536 ∧ y.tmod 65536 ≤ 65535 ∧ ∃ q : Int, y - y.tmod 65536 = 65536 * q ∧ -32768 ≤ q ∧ q ≤ 32768 := by
    rw [tmod16]
    split
    · exact ⟨by omega, by omega, y / 65536, by omega, by omega, by omega⟩
    · exact ⟨by omega, by omega, -((-y) / 65536), by omega, by omega, by omega⟩
  obtain ⟨l1, l2, q, hq, q1, q2⟩ := hl
  generalize y.tmod 65536 = l at *
  have hd : wrap64 (Int.tdiv (wrap64 (y - l)) 65536) = q := by
    rw [w64_small (x := y - l) (by omega) (by omega), hq, Int.mul_tdiv_cancel_left _ (by decide), w64_small (by omega) (by omega)]
  rw [hd]
  have p1 := prod_bd (x := x) (y := q) (X := 2147483648) (Y := 32768) (by omega) (by omega) (by omega) (by omega) (by omega)
  have p2 := prod_bd (x := x) (y := l) (X := 2147483648) (Y := 65535) (by omega) (by omega) (by omega) (by omega) (by omega)
  have hy : x * y = x * l + x * q * 65536 := by
    have : y = l + q * 65536 := by omega
    rw [this, Int.mul_add, ← Int.mul_assoc]
  rw [hy]
  generalize x * q = u at *
  generalize x * l = v at *
  rw [w64_small (x := u) (by omega) (by omega), rwrap_f (by omega) (by omega)]
  simp only [Option.bind_some]
  have h1 := w32_lo u
  have h2 := w32_hi u
  rw [w64_small (x := v) (by omega) (by omega), w64_small (x := wrap32 u * 65536) (by omega) (by omega), w64_small (x := v + wrap32 u * 65536) (by omega) (by omega), rwrap_f (by omega) (by omega)]
  refine congrArg some (w32_eq.2 ?_)
  have := w32_mod u
  omega
theorem SpanTells : handshakerlaw01_SpanTells.Pure := by
  intro a b ha hb
  have ⟨ha1, ha2⟩ := wf64 ha
  have ⟨hb1, hb2⟩ := wf64 hb
  unfold handshakerlaw01_SpanTells.f
  have hx1 := w32_lo a
  have hx2 := w32_hi a
  have hy1 := w32_lo b
  have hy2 := w32_hi b
  rw [rwrap_f ha1 ha2, rwrap_f hb1 hb2, right_f, rright_f, rmul_f ha1 ha2 hb1 hb2]
  simp only [wrap_f, add_f, sub_f, mul_f, Option.bind_some, beq_self_eq_true, if_true]
  rw [w64_small (x := wrap32 a + wrap32 b) (by omega) (by omega), w64_small (x := wrap32 a - wrap32 b) (by omega) (by omega), rwrap_f (by omega) (by omega), rwrap_f (by omega) (by omega)]
  simp only [Option.bind_some, w32_addl, w32_addr, w32_subl, w32_subr, if_true, awake_f]

end Go.Proofs.Ytlfeohglfjnnhaa.Pure
