/-
 PROVED: whether any sleeper may go on, who is woken by any writes, and whether anybody may lie down are what the document says, for every list, sleeper, heap and writes. Condition: each argument is of its kind; nothing else.
-/
import Derived.Test.YtncloefpjeolaaaGreatZwx3
import Derived.Test.YtncloefpjeolaaaGreatZwx8
import Derived.Test.YtncloefpjeolaaaGreatZwx15
import Derived.Test.YtncloefpjeolaaaGreatZwx4
import Derived.Test.YtncloefpjeolaaaGreatZwx5
import Derived.Test.YtncloefpjeolaaaGreatZwx9
import Derived.Test.YtncloefpjeolaaaGreatZwx6
import Derived.Test.YtncloefpjeolaaaGreatZwx7
import Derived.Test.YtncloefpjeolaaaGreatZwx11
import Derived.Test.YtncloefpjeolaaaGreatZwx12
import Derived.Test.YtncloefpjeolaaaGreatZwx13
import Derived.Test.YtncloefpjeolaaaGreatZwx14
import Derived.Test.YtncloefpjeolaaaGreatZwx21
import Derived.Test.YtncloefpjeolaaaGreatZwx19
import Derived.Test.YtncloefpjeolaaaGreatZwx10
import Derived.Test.YtncloefpjeolaaaGreatZwx20
import Derived.Test.YtncloefpjeolaaaGreatZwx26
namespace Go.Proofs.YtncloefpjeolaaaGreat.Zw
open Go.RowKit Go.Proofs.YtncloefpjeolaaaGreatW.PrintWords Go.Proofs.YtncloefpjeolaaaGreatW.PrintLast Go.Proofs.YtncloefpjeolaaaGreatW.PrintMore Go.Proofs.YtncloefpjeolaaaGreat.Ho
set_option linter.unusedVariables false
set_option linter.unusedSimpArgs false
theorem wr {i : Int} (h0 : -9223372036854775808 ≤ i) (h : i ≤ 9223372036854775807) : wrap64 i = i := by unfold wrap64; omega
theorem wrN {i : Nat} (h : i < 4611686018427387904) : wrap64 ((i : Int) + 1) = ((i + 1 : Nat) : Int) := by unfold wrap64; omega
theorem drop_cons {α : Type} (l : List α) (z : α) (i : Nat) (h : i < l.length) : l.drop i = l.getD i z :: l.drop (i + 1) := by
 rw [List.drop_eq_getElem_cons h]
 simp [List.getElem?_eq_getElem h]
/-- The first place at which p holds, from i on, or -1. -/
def idxT {α : Type} (p : α → Bool) : List α → Int → Int
 | [], _ => -1
 | x :: xs, i => if p x then i else idxT p xs (i + 1)
theorem idxT_yes {α : Type} {p : α → Bool} {x : α} {xs : List α} {i : Int} (h : p x = true) : idxT p (x :: xs) i = i := by simp [idxT, h]
theorem idxT_no {α : Type} {p : α → Bool} {x : α} {xs : List α} {i : Int} (h : p x = false) : idxT p (x :: xs) i = idxT p xs (i + 1) := by simp [idxT, h]
theorem anyF_T {α : Type} {f : α → Option Bool} {p : α → Bool} : ∀ (l : List α), (∀ x ∈ l, f x = some (p x)) → anyF f l = some (l.any p)
 | [], _ => rfl
 | x :: xs, h => by
  simp only [anyF, List.any_cons]
  rw [h x (by simp), anyF_T xs (fun y hy => h y (by simp [hy]))]
  simp only [Option.bind_some]
  cases p x <;> rfl
theorem idxT_cases {α : Type} (p : α → Bool) (z : α) : ∀ (l : List α) (i : Int), (idxT p l i = -1 ∧ ∀ x ∈ l, p x = false) ∨ ∃ j : Nat, j < l.length ∧ idxT p l i = i + j ∧ p (l.getD j z) = true ∧ ∀ m, m < j → p (l.getD m z) = false
 | [], i => .inl ⟨rfl, fun x hx => by cases hx⟩
 | x :: xs, i => by
  cases hx : p x with
  | true => exact .inr ⟨0, by simp, by simp [idxT, hx], by simpa using hx, fun m hm => by omega⟩
  | false =>
   rcases idxT_cases p z xs (i + 1) with ⟨h1, h2⟩ | ⟨j, h1, h2, h3, h4⟩
   · exact .inl ⟨by simp [idxT, hx, h1], fun y hy => by rcases List.mem_cons.1 hy with rfl | hy; exact hx; exact h2 y hy⟩
   · refine .inr ⟨j + 1, by simpa using h1, by simp [idxT, hx, h2]; omega, by simpa using h3, fun m hm => ?_⟩
     cases m with
     | zero => simpa using hx
     | succ m => simpa using h4 m (by omega)
def inR (v : Int) : Bool := decide (-2147483648 ≤ v ∧ v ≤ 2147483647)
theorem right_f (a : Int) : span_Right.f a = some (inR a) := by
 unfold span_Right.f inR
 by_cases h : a ≥ (-2147483648)
 · rw [if_pos h]; simp [h]
 · rw [if_neg h]; simp [h]
theorem u64w (a : Int) : IntKind.u64.wrap a = a % 18446744073709551616 := by
 unfold IntKind.wrap
 simp [IntKind.bits, IntKind.signed]
theorem w32_eq {x y : Int} : wrap32 x = wrap32 y ↔ x % 4294967296 = y % 4294967296 := by
 unfold wrap32; omega
theorem w64_small {x : Int} (h : -9223372036854775808 ≤ x) (h2 : x ≤ 9223372036854775807) : wrap64 x = x := by
 unfold wrap64; omega
theorem w32_lo (x : Int) : -2147483648 ≤ wrap32 x := by unfold wrap32; omega
theorem w32_hi (x : Int) : wrap32 x ≤ 2147483647 := by unfold wrap32; omega
theorem w32_w64 (x : Int) : wrap32 (wrap64 x) = wrap32 x := by unfold wrap32 wrap64; omega
theorem w32_addl (x y : Int) : wrap32 (wrap32 x + y) = wrap32 (x + y) := by unfold wrap32; omega
theorem w32_addr (x y : Int) : wrap32 (x + wrap32 y) = wrap32 (x + y) := by unfold wrap32; omega
theorem w32_subl (x y : Int) : wrap32 (wrap32 x - y) = wrap32 (x - y) := by unfold wrap32; omega
theorem w32_subr (x y : Int) : wrap32 (x - wrap32 y) = wrap32 (x - y) := by unfold wrap32; omega
theorem w32_mod (x : Int) : wrap32 x % 4294967296 = x % 4294967296 := by unfold wrap32; omega
theorem w32_mull (x y : Int) : wrap32 (wrap32 x * y) = wrap32 (x * y) := by
 rw [w32_eq, Int.mul_emod, w32_mod, ← Int.mul_emod]
theorem w32_mulr (x y : Int) : wrap32 (x * wrap32 y) = wrap32 (x * y) := by
 rw [w32_eq, Int.mul_emod, w32_mod, ← Int.mul_emod]
theorem tmodM (a : Int) : a.tmod 4294967296 = if 0 ≤ a then a % 4294967296 else -((-a) % 4294967296) := by
 split
 · exact Int.tmod_eq_emod_of_nonneg ‹_›
 · have : a.tmod 4294967296 = -((-a).tmod 4294967296) := by rw [Int.neg_tmod]; omega
   rw [this, Int.tmod_eq_emod_of_nonneg (by omega)]
theorem wrap_f (a : Int) : span_Wrap.f a = some (wrap32 a) := by
 unfold span_Wrap.f
 rw [u64w]; unfold wrap64 wrap32
 congr 1; omega
theorem add_f (a b : Int) : span_Add.f a b = some (wrap32 (a + b)) := by
 unfold span_Add.f
 simp only [wrap_f, Option.bind_some, w32_w64, w32_addl, w32_addr]
theorem sub_f (a b : Int) : span_Sub.f a b = some (wrap32 (a - b)) := by
 unfold span_Sub.f
 simp only [wrap_f, Option.bind_some, w32_w64, w32_subl, w32_subr]
theorem mul_f (a b : Int) : span_Mul.f a b = some (wrap32 (a * b)) := by
 unfold span_Mul.f
 simp only [wrap_f, Option.bind_some, w32_w64, w32_mull, w32_mulr]
theorem truth_f (a : Bool) : span_Truth.f a = some (if a then 1 else 0) := by
 unfold span_Truth.f
 split <;> rfl
theorem rwrap_f {a : Int} (h : -9223372036854775808 ≤ a) (h2 : a ≤ 9223372036854775807) : r_01_Wrap.f a = some (wrap32 a) := by
 unfold r_01_Wrap.f
 rw [tmodM]
 have e1 : ∀ x : Int, -9223372036854775808 ≤ x → x ≤ 9223372036854775807 → wrap64 x = x := fun x => w64_small
 unfold wrap32
 split
 · rw [if_neg (by omega)]
   split
   · rw [e1 _ (by omega) (by omega)]; congr 1; omega
   · congr 1; omega
 · split
   · rw [e1 (-(-a % 4294967296) + 4294967296) (by omega) (by omega), if_neg (by omega)]; congr 1; omega
   · rw [if_neg (by omega)]; congr 1; omega
theorem tmod16 (a : Int) : a.tmod 65536 = if 0 ≤ a then a % 65536 else -((-a) % 65536) := by
 split
 · exact Int.tmod_eq_emod_of_nonneg ‹_›
 · have : a.tmod 65536 = -((-a).tmod 65536) := by rw [Int.neg_tmod]; omega
   rw [this, Int.tmod_eq_emod_of_nonneg (by omega)]
theorem prod_bd {x y X Y : Int} (h1 : -X ≤ x) (h2 : x ≤ X) (h3 : -Y ≤ y) (h4 : y ≤ Y) (hX : 0 ≤ X) : -(X * Y) ≤ x * y ∧ x * y ≤ X * Y := by
 have a1 : (X - x) * (Y + y) ≥ 0 := Int.mul_nonneg (by omega) (by omega)
 have a2 : (X + x) * (Y - y) ≥ 0 := Int.mul_nonneg (by omega) (by omega)
 have a3 : (X - x) * (Y - y) ≥ 0 := Int.mul_nonneg (by omega) (by omega)
 have a4 : (X + x) * (Y + y) ≥ 0 := Int.mul_nonneg (by omega) (by omega)
 simp only [Int.sub_mul, Int.add_mul, Int.mul_add, Int.mul_sub] at a1 a2 a3 a4
 constructor <;> omega
theorem rmul_f {a b : Int} (ha : -9223372036854775808 ≤ a) (ha2 : a ≤ 9223372036854775807) (hb : -9223372036854775808 ≤ b) (hb2 : b ≤ 9223372036854775807) : r_01_Mul.f a b = some (wrap32 (a * b)) := by
 unfold r_01_Mul.f
 rw [rwrap_f ha ha2, rwrap_f hb hb2]
 simp only [Option.bind_some]
 have hx1 := w32_lo a
 have hx2 := w32_hi a
 have hy1 := w32_lo b
 have hy2 := w32_hi b
 have hm : wrap32 (a * b) = wrap32 (wrap32 a * wrap32 b) := by rw [w32_mull, w32_mulr]
 rw [hm]
 generalize wrap32 a = x at *
 generalize wrap32 b = y at *
 have hl : -65535 ≤ y.tmod 65536 ∧ y.tmod 65536 ≤ 65535 ∧ ∃ q : Int, y - y.tmod 65536 = 65536 * q ∧ -32768 ≤ q ∧ q ≤ 32768 := by
  rw [tmod16]
  split
  · exact ⟨by omega, by omega, y / 65536, by omega, by omega, by omega⟩
  · exact ⟨by omega, by omega, -((-y) / 65536), by omega, by omega, by omega⟩
 obtain ⟨l1, l2, q, hq, q1, q2⟩ := hl
 generalize y.tmod 65536 = l at *
 have hd : wrap64 (Int.tdiv (wrap64 (y - l)) 65536) = q := by
  rw [w64_small (x := y - l) (by omega) (by omega), hq, Int.mul_tdiv_cancel_left _ (by decide), w64_small (by omega) (by omega)]
 rw [hd]
 have p1 := prod_bd (x := x) (y := q) (X := 2147483648) (Y := 32768) (by omega) (by omega) (by omega) (by omega) (by omega)
 have p2 := prod_bd (x := x) (y := l) (X := 2147483648) (Y := 65535) (by omega) (by omega) (by omega) (by omega) (by omega)
 have hy : x * y = x * l + x * q * 65536 := by
  have : y = l + q * 65536 := by omega
  rw [this, Int.mul_add, ← Int.mul_assoc]
 rw [hy]
 generalize x * q = u at *
 generalize x * l = v at *
 rw [w64_small (x := u) (by omega) (by omega), rwrap_f (by omega) (by omega)]
 simp only [Option.bind_some]
 have h1 := w32_lo u
 have h2 := w32_hi u
 rw [w64_small (x := v) (by omega) (by omega), w64_small (x := wrap32 u * 65536) (by omega) (by omega), w64_small (x := v + wrap32 u * 65536) (by omega) (by omega), rwrap_f (by omega) (by omega)]
 refine congrArg some (w32_eq.2 ?_)
 have := w32_mod u
 omega
end Go.Proofs.YtncloefpjeolaaaGreat.Zw
namespace Go.Proofs.YtncloefpjeolaaaGreat.Zw
open Go.RowKit Go.Proofs.YtncloefpjeolaaaGreatW.PrintWords Go.Proofs.YtncloefpjeolaaaGreatW.PrintLast Go.Proofs.YtncloefpjeolaaaGreatW.PrintMore Go.Proofs.YtncloefpjeolaaaGreat.Ho
set_option linter.unusedVariables false
set_option linter.unusedSimpArgs false
/-! ### heaps -/
def okC (c : S53) : Bool := inR c.f1 && (c.f0 || c.f1 == 0)
def RightB (h : List S53) : Bool := decide (1 ≤ h.length) && decide (h.length ≤ 64) && h.all okC
def there (h : List S53) (c : Int) : Bool := decide (0 ≤ c ∧ c < h.length) && (h.getD c.toNat z53).f0
def getB (h : List S53) (c : Int) : Int × Int := if RightB h = true then if there h c = true then ((h.getD c.toNat z53).f1, 0) else (0, 3) else (0, 1)
theorem wrong_f (a : Bool) (v : Int) : heap_wrong.f a v = some (!(okC ⟨a, v⟩)) := by
 unfold heap_wrong.f
 rw [right_f]
 simp only [Option.bind_some, okC]
 cases inR v <;> cases a <;> first | rfl | (by_cases h : v = 0 <;> simp [h])
theorem all_okC (h : List S53) : (!(h.any fun x => !(okC x))) = h.all okC := by
 induction h with
 | nil => rfl
 | cons x xs ih => simp only [List.any_cons, List.all_cons, ← ih]; cases okC x <;> simp
theorem Right_f (h : List S53) : heap_Right.f h = some (RightB h) := by
 unfold heap_Right.f any_at_heap_wrong.f RightB
 rw [anyF_T (p := fun x => !(okC x)) h (fun x _ => wrong_f x.f0 x.f1)]
 simp only [Option.bind_some, all_okC]
 by_cases h1 : (h.length : Int) ≥ 1
 · rw [if_pos h1]
   by_cases h2 : (h.length : Int) ≤ 64
   · rw [if_pos h2]
     have e1 : decide (1 ≤ h.length) = true := by simp; omega
     have e2 : decide (h.length ≤ 64) = true := by simp; omega
     rw [e1, e2]; simp
   · rw [if_neg h2]
     have e2 : decide (h.length ≤ 64) = false := by simp; omega
     rw [e2]; simp
 · rw [if_neg h1]
   have e1 : decide (1 ≤ h.length) = false := decide_eq_false (by omega)
   rw [e1]; simp
theorem Right_len {h : List S53} (hr : RightB h = true) : 1 ≤ h.length ∧ h.length ≤ 64 ∧ ∀ x ∈ h, okC x = true := by
 simp only [RightB, Bool.and_eq_true, decide_eq_true_eq, List.all_eq_true] at hr
 exact ⟨hr.1.1, hr.1.2, hr.2⟩
theorem there_f (h : List S53) (c : Int) : heap_there.f h c = some (there h c) := by
 unfold heap_there.f there
 by_cases h0 : c ≥ 0
 · rw [if_pos h0]
   by_cases h1 : c < (h.length : Int)
   · rw [if_pos h1, if_pos h0]
     have : decide (0 ≤ c ∧ c < (h.length : Int)) = true := decide_eq_true ⟨h0, h1⟩
     rw [this]; rfl
   · rw [if_neg h1]
     have : decide (0 ≤ c ∧ c < (h.length : Int)) = false := decide_eq_false (fun e => h1 e.2)
     rw [this]; rfl
 · rw [if_neg h0]
   have : decide (0 ≤ c ∧ c < (h.length : Int)) = false := decide_eq_false (fun e => h0 e.1)
   rw [this]; rfl
theorem there_rng {h : List S53} {c : Int} (ht : there h c = true) : 0 ≤ c ∧ c < h.length ∧ (h.getD c.toNat z53).f0 = true := by
 simp only [there, Bool.and_eq_true, decide_eq_true_eq] at ht
 exact ⟨ht.1.1, ht.1.2, ht.2⟩
theorem Get_f (h : List S53) (c : Int) : heap_Get.f h c = some (getB h c) := by
 unfold heap_Get.f getB
 rw [Right_f, there_f]
 simp only [Option.bind_some]
 by_cases hr : RightB h = true
 · rw [if_pos hr, if_pos hr]
   by_cases ht : there h c = true
   · obtain ⟨h0, h1, _⟩ := there_rng ht
     rw [if_pos ht, if_pos ht, if_pos h0, if_pos h1]; rfl
   · rw [if_neg ht, if_neg ht]
 · rw [if_neg hr, if_neg hr]
/-! ### terms -/
def takes (a : Int) : Nat := if 4 ≤ a ∧ a ≤ 10 then 2 else if a = 11 then 1 else 0
theorem takes_le (a : Int) : takes a ≤ 2 := by unfold takes; split <;> (try split) <;> omega
def mayB (a b : Int) : Bool := if a = 1 then inR b else if a = 2 then decide (0 ≤ b ∧ b < 64) else if a = 3 then decide (0 ≤ b ∧ b < 8) else decide (0 < takes a) && b == 0
theorem takes_f (k : Nat) (a b : Int) (hk : 0 < k) : term_Op_takes.f k a b = some (takes a : Int) := by
 obtain ⟨k, rfl⟩ : ∃ q, k = q + 1 := ⟨k - 1, by omega⟩
 unfold term_Op_takes.f takes
 simp only [term_Op_takes.j0, decide_eq_true_eq]
 repeat' split
 all_goals first | rfl | (exfalso; omega) | (simp at *; done) | (simp at *; omega)
theorem may_f (k : Nat) (a b : Int) (hk : 0 < k) : term_Op_may.f k a b = some (mayB a b) := by
 unfold term_Op_may.f mayB
 rw [takes_f _ _ _ hk, right_f]
 simp only [Option.bind_some]
 split
 · rfl
 · split
   · by_cases h : b ≥ 0 <;> simp [h]
   · split
     · by_cases h : b ≥ 0 <;> simp [h]
     · by_cases h : takes a = 0
       · simp [h]
       · rw [if_pos (by omega), decide_eq_true (by omega)]; simp
/-- How many numbers there are behind all, or none if there are too few. -/
def walkN : List S57 → Nat → Option Nat
 | [], n => some n
 | o :: os, n => if n < takes o.f0 then none else walkN os (n + 1 - takes o.f0)
def mostN : List S57 → Nat → Nat → Nat
 | [], _, m => m
 | o :: os, n, m => if n < takes o.f0 then 0 else mostN os (n + 1 - takes o.f0) (if m < n + 1 - takes o.f0 then n + 1 - takes o.f0 else m)
def walkI (t : List S57) (n : Nat) : Int := match walkN t n with | some m => (m : Int) | none => -1
theorem walk_l (t : List S57) (hm : t.length < 4398046511104) (d : Nat) : ∀ (k i n m : Nat), i ≤ t.length → t.length - i = d → d + 1 < k → n ≤ i → m ≤ i →
 term_walk.l0 k (n : Int) (m : Int) t (t.length : Int) (i : Int) = some (walkI (t.drop i) n, (mostN (t.drop i) n m : Int)) := by
 induction d with
 | zero =>
  intro k i n m hi hd hk hn hm'
  obtain ⟨k, rfl⟩ : ∃ q, k = q + 1 := ⟨k - 1, by omega⟩
  rw [List.drop_of_length_le (by omega)]
  simp only [term_walk.l0, walkI, walkN, mostN]
  rw [if_neg (by omega)]
 | succ d ih =>
  intro k i n m hi hd hk hn hm'
  obtain ⟨k, rfl⟩ : ∃ q, k = q + 1 := ⟨k - 1, by omega⟩
  rw [drop_cons t z57 i (by omega)]
  simp only [term_walk.l0]
  rw [if_pos (by omega), if_pos (by omega), if_pos (by omega), takes_f _ _ _ (by omega)]
  simp only [Option.bind_some]
  rw [show rd_T57 t (i : Int) = t.getD i z57 from rfl]
  have hlt := takes_le (t.getD i z57).f0
  unfold walkI
  simp only [walkN, mostN]
  by_cases h : n < takes (t.getD i z57).f0
  · rw [if_pos (by omega), if_pos h, if_pos h]; rfl
  · rw [if_neg (by omega), if_neg h, if_neg h, wrN (by omega)]
    have e1 : wrap64 ((n : Int) + wrap64 (1 - (takes (t.getD i z57).f0 : Int))) = ((n + 1 - takes (t.getD i z57).f0 : Nat) : Int) := by
     rw [wr (i := 1 - (takes (t.getD i z57).f0 : Int)) (by omega) (by omega), wr (by omega) (by omega)]; omega
    rw [e1]
    have e2 : mx (m : Int) ((n + 1 - takes (t.getD i z57).f0 : Nat) : Int) = ((if m < n + 1 - takes (t.getD i z57).f0 then n + 1 - takes (t.getD i z57).f0 else m : Nat) : Int) := by
     unfold mx
     by_cases h3 : m < n + 1 - takes (t.getD i z57).f0
     · rw [if_pos h3, if_pos (by omega)]
     · rw [if_neg h3, if_neg (by omega)]
    rw [e2, ih k (i + 1) _ _ (by omega) (by omega) (by omega) (by omega) (by split <;> omega)]
    rfl
theorem walk_f (k : Nat) (t : List S57) (hm : t.length < 4398046511104) (hk : t.length + 1 < k) : term_walk.f k t = some (walkI t 0, (mostN t 0 0 : Int)) := by
 unfold term_walk.f
 have := walk_l t hm t.length k 0 0 0 (by omega) (by omega) (by omega) (by omega) (by omega)
 simpa using this
def mayAll (t : List S57) : Bool := t.all fun o => mayB o.f0 o.f1
/-- Does it stand well? -/
def checkB (t : List S57) : Int := if 1 ≤ t.length ∧ t.length ≤ 12 ∧ mayAll t = true then (if walkN t 0 = some 1 then 0 else 2) else 1
theorem any_may (k : Nat) (t : List S57) (hk : 0 < k) : any_at_term_Check_1.f k t = some (!(mayAll t)) := by
 unfold any_at_term_Check_1.f mayAll
 rw [anyF_T (p := fun o => !(mayB o.f0 o.f1)) t (fun o _ => by unfold term_Check_1.f; rw [may_f _ _ _ hk]; rfl)]
 congr 1
 induction t with
 | nil => rfl
 | cons x xs ih => simp only [List.any_cons, List.all_cons, ih]; cases mayB x.f0 x.f1 <;> simp
theorem walkI_one (t : List S57) : walkI t 0 = 1 ↔ walkN t 0 = some 1 := by
 unfold walkI
 cases walkN t 0 with
 | none => simp
 | some m => simp; omega
theorem Check_f (k : Nat) (t : List S57) (hk : 20 ≤ k) : term_Check.f k t = some (checkB t) := by
 obtain ⟨k, rfl⟩ : ∃ q, k = q + 1 := ⟨k - 1, by omega⟩
 unfold term_Check.f checkB
 simp only [term_Check.j0]
 by_cases h1 : t.length < 1
 · rw [if_pos (by omega), if_pos trivial, if_neg (by omega)]
 · rw [if_neg (by omega)]
   by_cases h2 : t.length > 12
   · rw [if_pos (by omega), if_pos trivial, if_neg (by omega)]
   · rw [if_neg (by omega), any_may _ _ (by omega)]
     simp only [Option.bind_some]
     by_cases h3 : mayAll t = true
     · rw [h3, if_neg (by simp), if_pos ⟨by omega, by omega, rfl⟩, walk_f k t (by omega) (by omega)]
       simp only [Option.bind_some]
       by_cases h4 : walkN t 0 = some 1
       · rw [if_pos ((walkI_one t).2 h4), if_pos h4]
       · rw [if_neg (fun e => h4 ((walkI_one t).1 e)), if_neg h4]
     · rw [if_pos (by simpa using h3), if_neg (fun e => h3 e.2.2)]
theorem checkB_ok {t : List S57} (h : checkB t = 0) : 1 ≤ t.length ∧ t.length ≤ 12 ∧ (∀ o ∈ t, mayB o.f0 o.f1 = true) ∧ walkN t 0 = some 1 := by
 unfold checkB at h
 split at h
 · rename_i h1
   split at h
   · exact ⟨h1.1, h1.2.1, by simpa [mayAll] using h1.2.2, by assumption⟩
   · simp at h
 · simp at h
theorem walkN_app : ∀ (a b : List S57) (n : Nat), walkN (a ++ b) n = (walkN a n).bind (walkN b)
 | [], b, n => rfl
 | o :: os, b, n => by
  simp only [List.cons_append, walkN]
  split
  · rfl
  · exact walkN_app os b _
theorem walkN_frame : ∀ (a : List S57) (n m j : Nat), walkN a n = some m → walkN a (n + j) = some (m + j)
 | [], n, m, j, e => by simp only [walkN, Option.some.injEq] at e ⊢; omega
 | o :: os, n, m, j, e => by
  simp only [walkN] at e ⊢
  split at e
  · simp at e
  · have := takes_le o.f0
    rw [if_neg (by omega)]
    have := walkN_frame os _ m j e
    rw [show n + j + 1 - takes o.f0 = n + 1 - takes o.f0 + j from by omega]
    exact this
theorem take_sn (t : List S57) (i : Nat) (hi : i < t.length) : t.take (i + 1) = t.take i ++ [t.getD i z57] := by
 rw [List.take_add_one, List.getD_eq_getElem?_getD, List.getElem?_eq_getElem hi]; rfl
def deepB (t : List S57) : Int := if checkB t = 0 then (mostN t 0 0 : Int) else 0
/-! what is told -/
def leafB (o : S57) (h : List S53) (regs : List Int) : Int × Int := if o.f0 = 1 then (o.f1, 0) else if o.f0 = 2 then getB h o.f1 else if o.f1 < regs.length then (wrap32 (regs.getD o.f1.toNat 0), 0) else (0, 3)
def tru (b : Bool) : Int := if b then 1 else 0
def twoB (a x y : Int) : Int := if a = 4 then wrap32 (x + y) else if a = 5 then wrap32 (x - y) else if a = 6 then wrap32 (x * y) else if a = 7 then tru (x == y) else if a = 8 then tru (decide (x < y)) else if a = 9 then tru (x != 0 && y != 0) else tru (x != 0 || y != 0)
theorem leaf_f (o : S57) (h : List S53) (regs : List Int) (hm : mayB o.f0 o.f1 = true) (ht : takes o.f0 = 0) : term_leaf.f o.f0 o.f1 h regs = some (leafB o h regs) := by
 unfold term_leaf.f leafB
 by_cases h1 : o.f0 = 1
 · rw [if_pos h1, if_pos h1]
 · rw [if_neg h1, if_neg h1]
   by_cases h2 : o.f0 = 2
   · rw [if_pos h2, if_pos h2, Get_f]; rfl
   · rw [if_neg h2, if_neg h2]
     by_cases h3 : o.f0 = 3
     · have : 0 ≤ o.f1 ∧ o.f1 < 8 := by
        unfold mayB at hm
        rw [if_neg h1, if_neg h2, if_pos h3] at hm
        simpa using hm
       by_cases h4 : o.f1 < regs.length
       · rw [if_neg (by omega), if_pos h4, if_pos (by omega), if_pos h4, wrap_f]; rfl
       · rw [if_pos (by omega), if_neg h4]
     · unfold mayB at hm
       rw [if_neg h1, if_neg h2, if_neg h3, ht] at hm
       simp at hm
theorem two_f (a x y : Int) : term_two.f a x y = some (twoB a x y) := by
 unfold term_two.f twoB
 simp only [add_f, sub_f, mul_f, truth_f, Option.bind_some]
 repeat' split
 all_goals first | rfl | (simp_all [tru])
/-- One operation on what is piled up, the uppermost first. -/
def stepB (h : List S53) (regs : List Int) (o : S57) (p : List Int) : Except Int (List Int) :=
 match takes o.f0, p with
 | 0, p => if (leafB o h regs).2 = 0 then .ok ((leafB o h regs).1 :: p) else .error (leafB o h regs).2
 | 1, x :: p => .ok (tru (x == 0) :: p)
 | 2, y :: x :: p => .ok (twoB o.f0 x y :: p)
 | _, _ => .error 9
def runT (h : List S53) (regs : List Int) : List S57 → List Int → Except Int (List Int)
 | [], p => .ok p
 | o :: os, p => match stepB h regs o p with | .ok q => runT h regs os q | .error e => .error e
def endB : Except Int (List Int) → Int × Int
 | .ok p => (p.headD 0, 0)
 | .error e => (0, e)
def evalB (t : List S57) (h : List S53) (regs : List Int) : Int × Int := if checkB t = 0 then (if RightB h = true then endB (runT h regs t []) else (0, 1)) else (0, checkB t)
theorem Eval_l (t : List S57) (h : List S53) (regs : List Int) (hm : t.length ≤ 12) (hmay : ∀ o ∈ t, mayB o.f0 o.f1 = true) (d : Nat) : ∀ (k i : Nat) (p : List Int), i ≤ t.length → t.length - i = d → d + 1 < k → p.length ≤ i → walkN (t.drop i) p.length = some 1 →
 term_Eval.l0 k h regs p.reverse t (t.length : Int) (i : Int) = some (endB (runT h regs (t.drop i) p)) := by
 induction d with
 | zero =>
  intro k i p hi hd hk hp hw
  obtain ⟨k, rfl⟩ : ∃ q, k = q + 1 := ⟨k - 1, by omega⟩
  rw [List.drop_of_length_le (by omega)] at hw ⊢
  simp only [walkN, Option.some.injEq] at hw
  simp only [term_Eval.l0, runT, endB]
  rw [if_neg (by omega), if_pos (by simp <;> omega)]
  match p, hw with
  | [x], _ => rfl
 | succ d ih =>
  intro k i p hi hd hk hp hw
  obtain ⟨k, rfl⟩ : ∃ q, k = q + 1 := ⟨k - 1, by omega⟩
  rw [drop_cons t z57 i (by omega)] at hw ⊢
  have hmo : mayB (t.getD i z57).f0 (t.getD i z57).f1 = true := hmay _ (by
   rw [List.getD_eq_getElem?_getD, List.getElem?_eq_getElem (by omega)]; exact List.getElem_mem _)
  simp only [walkN] at hw
  simp only [term_Eval.l0, runT]
  rw [if_pos (by omega), if_pos (by omega), if_pos (by omega), takes_f _ _ _ (by omega)]
  simp only [Option.bind_some]
  rw [show rd_T57 t (i : Int) = t.getD i z57 from rfl]
  generalize t.getD i z57 = o at *
  have hlt := takes_le o.f0
  by_cases h0 : takes o.f0 = 0
  · rw [h0] at hw ⊢
    rw [if_pos (show ((0 : Nat) : Int) = 0 from rfl), leaf_f o h regs hmo h0]
    simp only [Option.bind_some]
    unfold stepB
    simp only [h0]
    by_cases he : (leafB o h regs).2 = 0
    · rw [if_pos he, if_pos he]
      have e1 : wrap64 ((p.reverse.length : Int) - ((0 : Nat) : Int)) = (p.length : Int) := by rw [wr (by simp <;> omega) (by simp <;> omega)]; simp
      rw [e1, if_pos (by omega), if_pos (by simp), if_pos (by simp <;> omega), wrN (by omega)]
      have e2 : List.take (p.length : Int).toNat p.reverse ++ [(leafB o h regs).1] = ((leafB o h regs).1 :: p).reverse := by
       rw [List.take_of_length_le (by simp)]; simp
      rw [e2]
      exact ih k (i + 1) _ (by omega) (by omega) (by omega) (by simp <;> omega) (by simpa using hw)
    · rw [if_neg he, if_neg he]; rfl
  · rw [if_neg (by omega)]
    by_cases h1 : takes o.f0 = 1
    · rw [h1] at hw ⊢
      rw [if_pos (show ((1 : Nat) : Int) = 1 from rfl)]
      match p, hw, hp with
      | [], hw, _ => simp at hw
      | x :: p, hw, hp =>
       have e1 : wrap64 (((x :: p).reverse.length : Int) - ((1 : Nat) : Int)) = (p.length : Int) := by
        simp only [List.length_cons] at hp
        rw [wr (by simp <;> omega) (by simp <;> omega)]; simp
       have e3 : rd (x :: p).reverse (p.length : Int) = x := by unfold rd; simp
       have e2 : List.take (p.length : Int).toNat (x :: p).reverse = p.reverse := by simp
       simp only [List.length_cons] at hp
       rw [e1, e2, e3, if_pos (by omega), if_pos (by simp <;> omega), truth_f]
       simp only [Option.bind_some]
       rw [if_pos (by simp <;> omega), if_pos (by simp <;> omega), wrN (by omega)]
       unfold stepB
       simp only [h1]
       have := ih k (i + 1) (tru (x == 0) :: p) (by omega) (by omega) (by omega) (by simp <;> omega) (by simpa using hw)
       rw [← this]; simp [tru]
    · have h2 : takes o.f0 = 2 := by omega
      rw [h2] at hw ⊢
      rw [if_neg (show ¬ ((2 : Nat) : Int) = 1 by decide)]
      match p, hw, hp with
      | [], hw, _ => simp at hw
      | [_], hw, _ => simp at hw
      | y :: x :: p, hw, hp =>
       have e1 : wrap64 (((y :: x :: p).reverse.length : Int) - ((2 : Nat) : Int)) = (p.length : Int) := by
        simp only [List.length_cons] at hp
        rw [wr (by simp <;> omega) (by simp <;> omega)]; simp <;> omega
       have e3 : rd (y :: x :: p).reverse (p.length : Int) = x := by unfold rd; simp
       have e4 : rd (y :: x :: p).reverse ((p.length + 1 : Nat) : Int) = y := by unfold rd; simp
       have e2 : List.take (p.length : Int).toNat (y :: x :: p).reverse = p.reverse := by simp
       simp only [List.length_cons] at hp
       rw [e1, wrN (i := p.length) (by omega), e2, e3, e4, if_pos (by omega), if_pos (by simp <;> omega), if_pos (by omega), if_pos (by simp <;> omega), two_f]
       simp only [Option.bind_some]
       rw [if_pos (by simp <;> omega), if_pos (by simp <;> omega), wrN (by omega)]
       unfold stepB
       simp only [h2]
       have := ih k (i + 1) (twoB o.f0 x y :: p) (by omega) (by omega) (by omega) (by simp <;> omega) (by simpa using hw)
       rw [← this]; simp
theorem Eval_f (k : Nat) (t : List S57) (h : List S53) (regs : List Int) (hk : 20 ≤ k) : term_Eval.f k t h regs = some (evalB t h regs) := by
 unfold term_Eval.f evalB
 rw [Check_f k t hk, Right_f]
 simp only [Option.bind_some]
 by_cases h1 : checkB t = 0
 · rw [if_pos h1, if_pos h1]
   by_cases h2 : RightB h = true
   · rw [if_pos h2, if_pos h2]
     obtain ⟨a, b, c, e⟩ := checkB_ok h1
     exact Eval_l t h regs b c t.length k 0 [] (by omega) (by omega) (by omega) (by simp) e
   · rw [if_neg h2, if_neg h2]
 · rw [if_neg h1, if_neg h1]
/-! the cells that a term names -/
def cellsL (t : List S57) : List Int := (t.filter fun o => o.f0 == 2).map fun o => o.f1
def cellsB (t : List S57) : List Int := if checkB t = 0 then Go.Lib.compact ((cellsL t).mergeSort fun x y => decide (x ≤ y)) else []
theorem Cells_l (t : List S57) (hm : t.length ≤ 12) (d : Nat) : ∀ (k i : Nat) (out : List Int), i ≤ t.length → t.length - i = d → d < k → out.length ≤ i →
 term_Cells.l0 k out t (t.length : Int) (i : Int) = some (Go.Lib.compact ((out ++ cellsL (t.drop i)).mergeSort fun x y => decide (x ≤ y))) := by
 induction d with
 | zero =>
  intro k i out hi hd hk ho
  obtain ⟨k, rfl⟩ : ∃ m, k = m + 1 := ⟨k - 1, by omega⟩
  rw [List.drop_of_length_le (by omega)]
  simp only [term_Cells.l0, slices_Sort.f, slices_Compact.f]
  rw [if_neg (by omega), if_pos (by omega)]
  simp only [Option.bind_some]
  rw [if_pos (by simp; omega)]
  simp [cellsL]
 | succ d ih =>
  intro k i out hi hd hk ho
  obtain ⟨k, rfl⟩ : ∃ m, k = m + 1 := ⟨k - 1, by omega⟩
  rw [drop_cons t z57 i (by omega)]
  simp only [term_Cells.l0]
  rw [if_pos (by omega), if_pos (by omega), if_pos (by omega), wrN (by omega)]
  rw [show rd_T57 t (i : Int) = t.getD i z57 from rfl]
  by_cases h2 : (t.getD i z57).f0 = 2
  · rw [if_pos h2, if_pos (by omega), ih k (i + 1) _ (by omega) (by omega) (by omega) (by simp; omega)]
    have : cellsL (t.getD i z57 :: t.drop (i + 1)) = (t.getD i z57).f1 :: cellsL (t.drop (i + 1)) := by
     unfold cellsL
     generalize t.getD i z57 = o at h2 ⊢
     simp [List.filter_cons, h2]
    rw [this]; simp
  · rw [if_neg h2, ih k (i + 1) _ (by omega) (by omega) (by omega) (by omega)]
    have : cellsL (t.getD i z57 :: t.drop (i + 1)) = cellsL (t.drop (i + 1)) := by
     unfold cellsL
     generalize t.getD i z57 = o at h2 ⊢
     simp [List.filter_cons, h2]
    rw [this]
theorem Cells_f (k : Nat) (t : List S57) (hk : 20 ≤ k) : term_Cells.f k t = some (cellsB t) := by
 unfold term_Cells.f cellsB
 rw [Check_f k t hk]
 simp only [Option.bind_some]
 by_cases h : checkB t = 0
 · rw [if_pos h, if_pos h]
   have := checkB_ok h
   exact Cells_l t (by omega) t.length k 0 [] (by omega) (by omega) (by omega) (by simp)
 · rw [if_neg h, if_neg h]
end Go.Proofs.YtncloefpjeolaaaGreat.Zw
namespace Go.Proofs.YtncloefpjeolaaaGreat.Zw
open Go.RowKit Go.Proofs.YtncloefpjeolaaaGreatW.PrintWords Go.Proofs.YtncloefpjeolaaaGreatW.PrintLast Go.Proofs.YtncloefpjeolaaaGreatW.PrintMore Go.Proofs.YtncloefpjeolaaaGreat.Ho
set_option linter.unusedVariables false
set_option linter.unusedSimpArgs false
theorem mid_f (i j : Nat) (h : i + j < 4611686018427387904) : wrap64 ((IntKind.u64.wrap (wrap64 ((i : Int) + (j : Int)))) / 2) = (((i + j) / 2 : Nat) : Int) := by
 have e1 : wrap64 ((i : Int) + (j : Int)) = ((i + j : Nat) : Int) := by rw [wr (by omega) (by omega)]; omega
 have e2 : IntKind.u64.wrap ((i + j : Nat) : Int) = ((i + j : Nat) : Int) := by
  unfold IntKind.wrap
  simp only [IntKind.bits, IntKind.signed]
  first | omega | (simp; omega)
 rw [e1, e2, wr (by omega) (by omega)]; omega
theorem cmp_f (a b : Int) : cmp_Compare.f a b = some (if a < b then -1 else if a > b then 1 else 0) := by
 unfold cmp_Compare.f cmp_isNaN.f
 simp only [Option.bind_some, bne_self_eq_false, Bool.false_eq_true, if_false]
 split
 · rfl
 · split <;> rfl
/-- The first place whose version is not below v: below it all are below. -/
def Cut (p : List S26) (v : Int) (i : Nat) : Prop := i ≤ p.length ∧ (∀ j, j < i → (p.getD j z26).f0 < v) ∧ (∀ j, i ≤ j → j < p.length → v ≤ (p.getD j z26).f0)
theorem search_l (p : List S26) (v : Int) (hm : p.length < 1073741824) (hs : ∀ i j, i < j → j < p.length → (p.getD i z26).f0 < (p.getD j z26).f0) : ∀ (d k i j : Nat), i ≤ j → j ≤ p.length → j - i ≤ d → d + 1 < k → (∀ m, m < i → (p.getD m z26).f0 < v) → (∀ m, j ≤ m → m < p.length → v ≤ (p.getD m z26).f0) →
 ∃ c, Cut p v c ∧ slices_BinarySearchFunc_at_sleep_place_1.l0 k p v (p.length : Int) (i : Int) (j : Int) = some ((c : Int), decide (c < p.length ∧ (p.getD c z26).f0 = v)) := by
 intro d
 induction d with
 | zero =>
  intro k i j hij hj hd hk h1 h2
  obtain ⟨k, rfl⟩ : ∃ m, k = m + 1 := ⟨k - 1, by omega⟩
  have : i = j := by omega
  subst this
  refine ⟨i, ⟨hj, h1, h2⟩, ?_⟩
  simp only [slices_BinarySearchFunc_at_sleep_place_1.l0]
  rw [if_neg (by omega)]
  by_cases h : i < p.length
  · rw [if_pos (by omega), if_pos (by omega), if_pos (by omega)]
    unfold sleep_place_1.f
    rw [cmp_f, show rd_T26 p (i : Int) = p.getD i z26 from rfl]
    simp only [Option.bind_some]
    have := h2 i (Nat.le_refl _) h
    by_cases e : (p.getD i z26).f0 = v
    · rw [if_neg (by omega), if_neg (by omega), decide_eq_true ⟨h, e⟩]; rfl
    · rw [if_neg (by omega), if_pos (by omega), decide_eq_false (fun g => e g.2)]; rfl
  · rw [if_neg (by omega), decide_eq_false (fun g => h g.1)]
 | succ d ih =>
  intro k i j hij hj hd hk h1 h2
  by_cases e : i = j
  · exact ih k i j hij hj (by omega) (by omega) h1 h2
  obtain ⟨k, rfl⟩ : ∃ m, k = m + 1 := ⟨k - 1, by omega⟩
  have hmid : i ≤ (i + j) / 2 ∧ (i + j) / 2 < j := by omega
  simp only [slices_BinarySearchFunc_at_sleep_place_1.l0]
  rw [if_pos (by omega), mid_f i j (by omega)]
  generalize (i + j) / 2 = m at *
  rw [if_pos (by omega), if_pos (by omega), wrN (by omega)]
  unfold sleep_place_1.f
  rw [cmp_f, show rd_T26 p (m : Int) = p.getD m z26 from rfl]
  simp only [Option.bind_some]
  by_cases hlt : (p.getD m z26).f0 < v
  · rw [if_pos hlt, if_pos (by decide)]
    refine ih k (m + 1) j (by omega) hj (by omega) (by omega) (fun q hq => ?_) h2
    by_cases eq : q = m
    · rw [eq]; exact hlt
    · have := hs q m (by omega) (by omega); omega
  · rw [if_neg hlt, if_neg (by split <;> decide)]
    refine ih k i m (by omega) (by omega) (by omega) (by omega) h1 (fun q hq hq2 => ?_)
    by_cases eq : q = m
    · rw [eq]; omega
    · have := hs m q (by omega) hq2; omega
theorem search_f (k : Nat) (p : List S26) (v : Int) (hm : p.length < 1073741824) (hs : ∀ i j, i < j → j < p.length → (p.getD i z26).f0 < (p.getD j z26).f0) (hk : p.length + 1 < k) :
 ∃ c, Cut p v c ∧ slices_BinarySearchFunc_at_sleep_place_1.f k p v = some ((c : Int), decide (c < p.length ∧ (p.getD c z26).f0 = v)) := by
 unfold slices_BinarySearchFunc_at_sleep_place_1.f
 exact search_l p v hm hs p.length k 0 p.length (by omega) (by omega) (by omega) (by omega) (fun m hm => by omega) (fun m h1 h2 => by omega)
/-! ### who sleeps -/
abbrev Sp := S26
abbrev Wr := S55
theorem getD_in {α : Type} (l : List α) (z : α) (i : Nat) (h : i < l.length) : l.getD i z ∈ l := by
 rw [List.getD_eq_getElem?_getD, List.getElem?_eq_getElem h]; exact List.getElem_mem _
theorem take_snG {α : Type} (l : List α) (z : α) (i : Nat) (hi : i < l.length) : l.take (i + 1) = l.take i ++ [l.getD i z] := by
 rw [List.take_add_one, List.getD_eq_getElem?_getD, List.getElem?_eq_getElem hi]; rfl
theorem mem_takeG {α : Type} (l : List α) (z : α) (i : Nat) (x : α) (hi : i ≤ l.length) (h : x ∈ l.take i) : ∃ m, m < i ∧ l.getD m z = x := by
 obtain ⟨m, hm, rfl⟩ := List.mem_iff_getElem.1 h
 rw [List.length_take] at hm
 refine ⟨m, by omega, ?_⟩
 rw [List.getD_eq_getElem?_getD, List.getElem?_eq_getElem (by omega), List.getElem_take]; rfl
def tickB (a : Int) : Bool := decide (0 ≤ a ∧ a ≤ 2147483647)
theorem tick_f (a : Int) : tick_Right.f a = some (tickB a) := by
 unfold tick_Right.f tickB
 by_cases h : a ≥ 0
 · rw [if_pos h]; congr 1; rw [decide_eq_decide]; omega
 · rw [if_neg h]; congr 1; symm; rw [decide_eq_false_iff_not]; omega
theorem Equal_l (a b : List Int) (hl : a.length = b.length) (hm : a.length < 4398046511104) (d : Nat) : ∀ (k i : Nat), i ≤ a.length → a.length - i = d → d < k → slices_Equal.l0 k a b (a.length : Int) (i : Int) = some (decide (a.drop i = b.drop i)) := by
 induction d with
 | zero =>
  intro k i hi hd hk
  obtain ⟨k, rfl⟩ : ∃ m, k = m + 1 := ⟨k - 1, by omega⟩
  simp only [slices_Equal.l0]
  rw [if_neg (by omega), List.drop_of_length_le (by omega), List.drop_of_length_le (by omega)]; rfl
 | succ d ih =>
  intro k i hi hd hk
  obtain ⟨k, rfl⟩ : ∃ m, k = m + 1 := ⟨k - 1, by omega⟩
  simp only [slices_Equal.l0]
  rw [if_pos (by omega), if_pos (by omega), if_pos (by omega), if_pos (by omega), wrN (by omega), ih k (i + 1) (by omega) (by omega) (by omega), drop_cons a 0 i (by omega), drop_cons b 0 i (by omega), show rd a (i : Int) = a.getD i 0 from rfl, show rd b (i : Int) = b.getD i 0 from rfl]
  by_cases e : a.getD i 0 = b.getD i 0
  · rw [if_pos e, e]; congr 1; rw [decide_eq_decide]; simp
  · rw [if_neg e]; congr 1; symm; rw [decide_eq_false_iff_not]; intro h; injection h with h _; exact e h
theorem Equal_f (k : Nat) (a b : List Int) (hm : a.length < 4398046511104) (hk : a.length < k) : slices_Equal.f k a b = some (decide (a = b)) := by
 unfold slices_Equal.f
 by_cases hl : a.length = b.length
 · rw [if_pos (by omega)]
   have := Equal_l a b hl hm a.length k 0 (by omega) (by omega) (by omega)
   exact this
 · rw [if_neg (by omega)]; congr 1; symm; rw [decide_eq_false_iff_not]; intro h; exact hl (by rw [h])
theorem SCells_l (w : List Wr) (hm : w.length < 4398046511104) (d : Nat) : ∀ (k i : Nat), i ≤ w.length → w.length - i = d → d < k → sleep_Sleeper_cells.l0 k ((w.take i).map fun x => x.f0) w (w.length : Int) (i : Int) = some (w.map fun x => x.f0) := by
 induction d with
 | zero =>
  intro k i hi hd hk
  obtain ⟨k, rfl⟩ : ∃ m, k = m + 1 := ⟨k - 1, by omega⟩
  simp only [sleep_Sleeper_cells.l0]
  rw [if_neg (by omega), List.take_of_length_le (by omega)]
 | succ d ih =>
  intro k i hi hd hk
  obtain ⟨k, rfl⟩ : ∃ m, k = m + 1 := ⟨k - 1, by omega⟩
  have next := ih k (i + 1) (by omega) (by omega) (by omega)
  rw [take_snG w z55 i (by omega), List.map_append] at next
  simp only [sleep_Sleeper_cells.l0]
  rw [if_pos (by omega), if_pos (by omega), if_pos (by omega), if_pos (by rw [List.length_map, List.length_take]; omega), wrN (by omega), show rd_T55 w (i : Int) = w.getD i z55 from rfl]
  exact next
theorem SCells_f (k : Nat) (a b c : Int) (w : List Wr) (t : List S57) (hm : w.length < 4398046511104) (hk : w.length < k) : sleep_Sleeper_cells.f k a b c w t = some (w.map fun x => x.f0) := by
 unfold sleep_Sleeper_cells.f
 exact SCells_l w hm w.length k 0 (by omega) (by omega) (by omega)
def okW (w : List Wr) (i : Nat) : Prop := (0 ≤ (w.getD i z55).f0 ∧ (w.getD i z55).f0 < 64) ∧ inR (w.getD i z55).f1 = true ∧ (0 < i → (w.getD (i - 1) z55).f0 < (w.getD i z55).f0)
instance (w : List Wr) (i : Nat) : Decidable (okW w i) := by unfold okW; infer_instance
def watchB (w : List Wr) : Bool := decide (w.length ≤ 24 ∧ ∀ i, i < w.length → okW w i)
theorem watchB_iff (w : List Wr) : watchB w = true ↔ w.length ≤ 24 ∧ ∀ i, i < w.length → okW w i := by unfold watchB; rw [decide_eq_true_eq]
theorem watch_l (w : List Wr) (hm : w.length < 4398046511104) (d : Nat) : ∀ (k i : Nat), i ≤ w.length → w.length - i = d → d < k → (∀ j, j < i → okW w j) → sleep_watches.l0 k w w (w.length : Int) (i : Int) = some (watchB w) := by
 induction d with
 | zero =>
  intro k i hi hd hk h
  obtain ⟨k, rfl⟩ : ∃ m, k = m + 1 := ⟨k - 1, by omega⟩
  simp only [sleep_watches.l0]
  rw [if_neg (by omega)]
  unfold watchB
  congr 1
  rw [decide_eq_decide]
  exact ⟨fun g => ⟨by omega, fun j hj => h j (by omega)⟩, fun g => by omega⟩
 | succ d ih =>
  intro k i hi hd hk h
  obtain ⟨k, rfl⟩ : ∃ m, k = m + 1 := ⟨k - 1, by omega⟩
  have no : ¬ okW w i → some false = some (watchB w) := fun g => by
   unfold watchB
   rw [decide_eq_false (fun e => g (e.2 i (by omega)))]
  have yes : okW w i → sleep_watches.l0 k w w (w.length : Int) ((i + 1 : Nat) : Int) = some (watchB w) := fun g => by
   refine ih k (i + 1) (by omega) (by omega) (by omega) fun j hj => ?_
   by_cases ej : j = i
   · rw [ej]; exact g
   · exact h j (by omega)
  simp only [sleep_watches.l0]
  rw [if_pos (by omega), if_pos (by omega), if_pos (by omega), right_f, wrN (by omega), show rd_T55 w (i : Int) = w.getD i z55 from rfl]
  by_cases a0 : (w.getD i z55).f0 < 0
  · rw [if_pos a0]; exact no fun g => by have := g.1.1; omega
  rw [if_neg a0]
  by_cases a1 : (w.getD i z55).f0 ≥ 64
  · rw [if_pos a1]; exact no fun g => by have := g.1.2; omega
  rw [if_neg a1, Option.bind_some]
  by_cases a2 : inR (w.getD i z55).f1 = true
  · rw [if_pos a2]
    by_cases hz : i = 0
    · rw [if_neg (by omega)]
      exact yes ⟨⟨by omega, by omega⟩, a2, fun g => by omega⟩
    · have ew : wrap64 ((i : Int) - 1) = ((i - 1 : Nat) : Int) := by rw [wr (by omega) (by omega)]; omega
      rw [if_pos (by omega), ew, if_pos (by omega), if_pos (by omega), show rd_T55 w ((i - 1 : Nat) : Int) = w.getD (i - 1) z55 from rfl]
      by_cases a4 : (w.getD (i - 1) z55).f0 ≥ (w.getD i z55).f0
      · rw [if_pos a4]; exact no fun g => by have := g.2.2 (by omega); omega
      · rw [if_neg a4]; exact yes ⟨⟨by omega, by omega⟩, a2, fun _ => by omega⟩
  · rw [if_neg a2]; exact no fun g => a2 g.2.1
theorem watch_f (k : Nat) (w : List Wr) (hm : w.length < 4398046511104) (hk : w.length < k) : sleep_watches.f k w = some (watchB w) := by
 unfold sleep_watches.f
 exact watch_l w hm w.length k 0 (by omega) (by omega) (by omega) (fun j hj => by omega)
def maySp (s : Sp) : Bool := decide (1 ≤ s.f0 ∧ s.f0 ≤ 8) && (tickB s.f2 && (watchB s.f3 && (if s.f1 = 3 then (if checkB s.f4 = 0 then (if (s.f4.any fun o => o.f0 == 3) = true then false else decide ((s.f3.map fun x => x.f0) = cellsB s.f4)) else false) else if s.f1 = 1 then s.f4.length == 0 else if s.f1 = 2 then s.f4.length == 0 else false)))
theorem maySp_f (k : Nat) (s : Sp) (hw : s.f3.length ≤ 1000) (hk : 1100 < k) : sleep_Sleeper_may.f k s.f0 s.f1 s.f2 s.f3 s.f4 = some (maySp s) := by
 obtain ⟨k, rfl⟩ : ∃ m, k = m + 1 := ⟨k - 1, by omega⟩
 obtain ⟨who, mode, til, w, t⟩ := s
 have hw' : w.length ≤ 1000 := hw
 unfold sleep_Sleeper_may.f maySp
 dsimp only
 have bad : sleep_Sleeper_may.j0 (k + 1) true who mode til w t = some false := by
  simp only [sleep_Sleeper_may.j0]; rw [if_pos trivial]
 by_cases h1 : who < 1
 · rw [if_pos h1, bad, decide_eq_false (show ¬ (1 ≤ who ∧ who ≤ 8) by omega)]; rfl
 rw [if_neg h1]
 by_cases h2 : who > 8
 · rw [if_pos h2, bad, decide_eq_false (show ¬ (1 ≤ who ∧ who ≤ 8) by omega)]; rfl
 rw [if_neg h2, tick_f, Option.bind_some, decide_eq_true (show 1 ≤ who ∧ who ≤ 8 by omega), Bool.true_and]
 by_cases h3 : tickB til = true
 · rw [if_pos h3, watch_f (k + 1) w (by omega) (by omega), Option.bind_some, h3, Bool.true_and]
   by_cases h4 : watchB w = true
   · rw [h4, Bool.true_and]
     simp only [sleep_Sleeper_may.j0]
     rw [if_neg (show ¬ (!true) = true by decide)]
     by_cases m3 : mode = 3
     · rw [if_pos m3, if_pos m3]
       unfold any_at_sleep_Sleeper_may_1.f
       rw [anyF_T (f := fun x : S57 => sleep_Sleeper_may_1.f x.f0 x.f1) (p := fun o => o.f0 == 3) t (fun x _ => rfl), Option.bind_some, Check_f k t (by omega), Option.bind_some]
       by_cases hc : checkB t = 0
       · rw [if_pos hc, if_pos hc]
         by_cases hn : (t.any fun o => o.f0 == 3) = true
         · rw [if_pos hn, if_pos hn]
         · rw [if_neg hn, if_neg hn, SCells_f k who mode til w t (by omega) (by omega), Option.bind_some, Cells_f k t (by omega), Option.bind_some, Equal_f k _ _ (by rw [List.length_map]; omega) (by rw [List.length_map]; omega)]; rfl
       · rw [if_neg hc, if_neg hc]
     · rw [if_neg m3, if_neg m3]
       have el : ((t.length : Int) == 0) = (t.length == 0) := by
        rw [Bool.eq_iff_iff, beq_iff_eq, beq_iff_eq]; omega
       by_cases m1 : mode = 1
       · rw [if_pos m1, if_pos m1, el]
       · rw [if_neg m1, if_neg m1]
         by_cases m2 : mode = 2
         · rw [if_pos m2, if_pos m2, el]
         · rw [if_neg m2, if_neg m2]
   · rw [Bool.eq_false_iff.2 h4]
     exact bad
 · rw [if_neg h3, bad, Bool.eq_false_iff.2 h3]; rfl
abbrev Lt (a b : Sp) : Prop := a.f0 < b.f0
abbrev RS (l : List Sp) : Prop := (∀ x ∈ l, maySp x = true) ∧ l.Pairwise Lt
def rightS (l : List Sp) : Bool := decide (RS l)
theorem rightS_iff (l : List Sp) : rightS l = true ↔ RS l := by unfold rightS; rw [decide_eq_true_eq]
theorem rightS_no {l : List Sp} (h : ¬ RS l) : rightS l = false := by unfold rightS; rw [decide_eq_false_iff_not]; exact h
theorem lt_at {l : List Sp} (h : l.Pairwise Lt) (i j : Nat) (hij : i < j) (hj : j < l.length) : (l.getD i z26).f0 < (l.getD j z26).f0 := by
 have := List.pairwise_iff_getElem.1 h i j (by omega) hj hij
 rw [List.getD_eq_getElem?_getD, List.getElem?_eq_getElem (by omega), List.getD_eq_getElem?_getD, List.getElem?_eq_getElem hj]
 exact this
theorem RightS_l (l : List Sp) (hm : l.length < 4398046511104) (hw : ∀ x ∈ l, x.f3.length ≤ 1000) (d : Nat) : ∀ (k i : Nat), i ≤ l.length → l.length - i = d → d + 1200 < k → (∀ x ∈ l.take i, maySp x = true) → (l.take i).Pairwise Lt →
 sleep_Right.l0 k l l (l.length : Int) (i : Int) = some (rightS l) := by
 induction d with
 | zero =>
  intro k i hi hd hk h1 h2
  obtain ⟨k, rfl⟩ : ∃ m, k = m + 1 := ⟨k - 1, by omega⟩
  rw [List.take_of_length_le (by omega)] at h1 h2
  simp only [sleep_Right.l0]
  rw [if_neg (by omega), (rightS_iff l).2 ⟨h1, h2⟩]
 | succ d ih =>
  intro k i hi hd hk h1 h2
  obtain ⟨k, rfl⟩ : ∃ m, k = m + 1 := ⟨k - 1, by omega⟩
  have hmem := getD_in l z26 i (by omega)
  have hs := take_snG l z26 i (by omega)
  have yes : maySp (l.getD i z26) = true → (∀ x ∈ l.take i, Lt x (l.getD i z26)) → sleep_Right.l0 k l l (l.length : Int) ((i + 1 : Nat) : Int) = some (rightS l) := fun g1 g2 => by
   refine ih k (i + 1) (by omega) (by omega) (by omega) (fun x hx => ?_) ?_
   · rw [hs] at hx
     rcases List.mem_append.1 hx with hx | hx
     · exact h1 x hx
     · rw [List.mem_singleton.1 hx]; exact g1
   · rw [hs, List.pairwise_append]
     exact ⟨h2, List.pairwise_singleton _ _, fun x hx y hy => by rw [List.mem_singleton.1 hy]; exact g2 x hx⟩
  simp only [sleep_Right.l0]
  rw [if_pos (by omega), if_pos (by omega), if_pos (by omega), show rd_T26 l (i : Int) = l.getD i z26 from rfl, maySp_f k _ (hw _ hmem) (by omega), wrN (by omega), Option.bind_some]
  by_cases a1 : maySp (l.getD i z26) = true
  · rw [if_pos a1]
    by_cases hz : i = 0
    · rw [if_neg (by omega)]
      exact yes a1 (fun x hx => by rw [hz] at hx; simp at hx)
    · have ew : wrap64 ((i : Int) - 1) = ((i - 1 : Nat) : Int) := by rw [wr (by omega) (by omega)]; omega
      rw [if_pos (by omega), ew, if_pos (by omega), if_pos (by omega), show rd_T26 l ((i - 1 : Nat) : Int) = l.getD (i - 1) z26 from rfl]
      by_cases a4 : (l.getD (i - 1) z26).f0 ≥ (l.getD i z26).f0
      · rw [if_pos a4, rightS_no]
        intro g
        have := lt_at g.2 (i - 1) i (by omega) (by omega)
        omega
      · rw [if_neg a4]
        refine yes a1 fun x hx => ?_
        obtain ⟨m, hm', rfl⟩ := mem_takeG l z26 i x (by omega) hx
        by_cases e : m = i - 1
        · rw [e]; show _ < _; omega
        · have hlt : (l.getD m z26).f0 < (l.getD (i - 1) z26).f0 := by
           have := lt_at h2 m (i - 1) (by omega) (by rw [List.length_take]; omega)
           have tk : ∀ q, q < i → (l.take i).getD q z26 = l.getD q z26 := fun q hq => by
            rw [List.getD_eq_getElem?_getD, List.getD_eq_getElem?_getD, List.getElem?_take, if_pos hq]
           rwa [tk m hm', tk (i - 1) (by omega)] at this
          show _ < _
          omega
  · rw [if_neg a1, rightS_no (fun g => a1 (g.1 _ hmem))]
theorem RightS_f (k : Nat) (l : List Sp) (hm : l.length < 4398046511104) (hw : ∀ x ∈ l, x.f3.length ≤ 1000) (hk : l.length + 1200 < k) : sleep_Right.f k l = some (rightS l) := by
 unfold sleep_Right.f
 exact RightS_l l hm hw l.length k 0 (by omega) (by omega) (by omega) (by simp) (by simp)
theorem place_f (k : Nat) (l : List Sp) (w : Int) (hm : l.length < 1073741824) (h : l.Pairwise Lt) (hk : l.length + 1 < k) :
 ∃ c, Cut l w c ∧ sleep_place.f k l w = some ((c : Int), decide (c < l.length ∧ (l.getD c z26).f0 = w)) := by
 obtain ⟨c, h1, h2⟩ := search_f k l w hm (fun i j hij hj => lt_at h i j hij hj) hk
 exact ⟨c, h1, by unfold sleep_place.f; rw [h2]; rfl⟩
abbrev FewS (l : List Sp) : Prop := l.length ≤ 30 ∧ ∀ x ∈ l, x.f3.length ≤ 40 ∧ x.f4.length ≤ 20
theorem RightF_f (k : Nat) (l : List Sp) (h : FewS l) (hk : 1300 < k) : sleep_Right.f k l = some (rightS l) :=
 RightS_f k l (by have := h.1; omega) (fun x hx => by have := (h.2 x hx).1; omega) (by have := h.1; omega)
theorem Small15_l (l : List Sp) (hm : l.length < 4398046511104) (d : Nat) : ∀ (k i : Nat), i ≤ l.length → l.length - i = d → d < k → (∀ x ∈ l.take i, x.f3.length ≤ 40 ∧ x.f4.length ≤ 20) →
 ∃ b : Int, l_15_Small.l0 k l l (l.length : Int) (i : Int) = some b ∧ (b < 0 ∨ (0 ≤ b ∧ l.length ≤ 20 ∧ ∀ x ∈ l, x.f3.length ≤ 40 ∧ x.f4.length ≤ 20)) := by
 induction d with
 | zero =>
  intro k i hi hd hk h
  obtain ⟨k, rfl⟩ : ∃ m, k = m + 1 := ⟨k - 1, by omega⟩
  rw [List.take_of_length_le (by omega)] at h
  simp only [l_15_Small.l0]
  rw [if_neg (by omega)]
  by_cases h2 : (l.length : Int) > 20
  · rw [if_pos h2]; exact ⟨-1, rfl, .inl (by decide)⟩
  · rw [if_neg h2]; exact ⟨_, rfl, .inr ⟨by omega, by omega, h⟩⟩
 | succ d ih =>
  intro k i hi hd hk h
  obtain ⟨k, rfl⟩ : ∃ m, k = m + 1 := ⟨k - 1, by omega⟩
  simp only [l_15_Small.l0]
  rw [if_pos (by omega), if_pos (by omega), if_pos (by omega), wrN (by omega), show rd_T26 l (i : Int) = l.getD i z26 from rfl]
  by_cases h1 : ((l.getD i z26).f3.length : Int) > 40
  · rw [if_pos h1]; exact ⟨-1, rfl, .inl (by decide)⟩
  rw [if_neg h1]
  by_cases h2 : ((l.getD i z26).f4.length : Int) > 20
  · rw [if_pos h2]; exact ⟨-1, rfl, .inl (by decide)⟩
  rw [if_neg h2]
  refine ih k (i + 1) (by omega) (by omega) (by omega) fun x hx => ?_
  rw [take_snG l z26 i (by omega)] at hx
  rcases List.mem_append.1 hx with hx | hx
  · exact h x hx
  · rw [List.mem_singleton.1 hx]; omega
theorem Small15_f (k : Nat) (l : List Sp) (hm : l.length < 4398046511104) (hk : l.length < k) : ∃ b : Int, l_15_Small.f k l = some b ∧ (b < 0 ∨ (0 ≤ b ∧ l.length ≤ 20 ∧ ∀ x ∈ l, x.f3.length ≤ 40 ∧ x.f4.length ≤ 20)) := by
 unfold l_15_Small.f
 exact Small15_l l hm l.length k 0 (by omega) (by omega) (by omega) (by simp)
end Go.Proofs.YtncloefpjeolaaaGreat.Zw
namespace Go.Proofs.YtncloefpjeolaaaGreat.Zw
open Go.RowKit Go.Proofs.YtncloefpjeolaaaGreatW.PrintWords Go.Proofs.YtncloefpjeolaaaGreatW.PrintLast Go.Proofs.YtncloefpjeolaaaGreatW.PrintMore Go.Proofs.YtncloefpjeolaaaGreat.Ho
set_option linter.unusedVariables false
set_option linter.unusedSimpArgs false
/-! ### the document's sleepers, and one's own list -/
abbrev TOp := S57
abbrev ROp := S85
abbrev RSp := S44
def refO (o : TOp) : ROp := ⟨o.f0, o.f1⟩
def refSp (s : Sp) : RSp := ⟨s.f0, s.f1, s.f2, s.f3, s.f4.map refO⟩
theorem TRef_l (t : List TOp) (hm : t.length < 4398046511104) (d : Nat) : ∀ (k i : Nat), i ≤ t.length → t.length - i = d → d < k → l_07_Ref.l0 k ((t.take i).map refO) t (t.length : Int) (i : Int) = some (t.map refO) := by
 induction d with
 | zero =>
  intro k i hi hd hk
  obtain ⟨k, rfl⟩ : ∃ m, k = m + 1 := ⟨k - 1, by omega⟩
  simp only [l_07_Ref.l0]
  rw [if_neg (by omega), List.take_of_length_le (by omega)]
 | succ d ih =>
  intro k i hi hd hk
  obtain ⟨k, rfl⟩ : ∃ m, k = m + 1 := ⟨k - 1, by omega⟩
  have next := ih k (i + 1) (by omega) (by omega) (by omega)
  rw [take_snG t z57 i (by omega), List.map_append] at next
  simp only [l_07_Ref.l0]
  rw [if_pos (by omega), if_pos (by omega), if_pos (by omega), if_pos (by rw [List.length_map, List.length_take]; omega), wrN (by omega), show rd_T57 t (i : Int) = t.getD i z57 from rfl]
  exact next
theorem SRef_f (k : Nat) (s : Sp) (hm : s.f4.length ≤ 1000) (hk : 1000 < k) : l_15_Ref.f k s.f0 s.f1 s.f2 s.f3 s.f4 = some (s.f0, s.f1, s.f2, s.f3, s.f4.map refO) := by
 unfold l_15_Ref.f l_07_Ref.f
 have := TRef_l s.f4 (by omega) s.f4.length k 0 (by omega) (by omega) (by omega)
 have e : l_07_Ref.l0 k ([] : List ROp) s.f4 (s.f4.length : Int) 0 = some (s.f4.map refO) := this
 rw [e]; rfl
theorem SRefs_l (l : List Sp) (hm : l.length < 1073741824) (ha : ∀ x ∈ l, x.f4.length ≤ 1000) (d : Nat) : ∀ (k i : Nat), i ≤ l.length → l.length - i = d → d + 1001 < k → l_15_Refs.l0 k ((l.take i).map refSp) l (l.length : Int) (i : Int) = some (l.map refSp) := by
 induction d with
 | zero =>
  intro k i hi hd hk
  obtain ⟨k, rfl⟩ : ∃ m, k = m + 1 := ⟨k - 1, by omega⟩
  simp only [l_15_Refs.l0]
  rw [if_neg (by omega), List.take_of_length_le (by omega)]
 | succ d ih =>
  intro k i hi hd hk
  obtain ⟨k, rfl⟩ : ∃ m, k = m + 1 := ⟨k - 1, by omega⟩
  have next := ih k (i + 1) (by omega) (by omega) (by omega)
  rw [take_snG l z26 i (by omega), List.map_append] at next
  have hmem := ha _ (getD_in l z26 i (by omega))
  simp only [l_15_Refs.l0]
  rw [if_pos (by omega), if_pos (by omega), if_pos (by omega), show rd_T26 l (i : Int) = l.getD i z26 from rfl, SRef_f k _ hmem (by omega), Option.bind_some, if_pos (by rw [List.length_map, List.length_take]; omega), wrN (by omega)]
  exact next
theorem SRefs_f (k : Nat) (l : List Sp) (hm : l.length < 1073741824) (ha : ∀ x ∈ l, x.f4.length ≤ 1000) (hk : l.length + 1001 < k) : l_15_Refs.f k l = some (l.map refSp) := by
 unfold l_15_Refs.f
 exact SRefs_l l hm ha l.length k 0 (by omega) (by omega) (by omega)
theorem TSame_l (t : List ROp) (hm : t.length < 4398046511104) (d : Nat) : ∀ (k i : Nat), i ≤ t.length → t.length - i = d → d < k → r_07_Same.l0 k t t (i : Int) = some true := by
 induction d with
 | zero =>
  intro k i hi hd hk
  obtain ⟨k, rfl⟩ : ∃ m, k = m + 1 := ⟨k - 1, by omega⟩
  simp only [r_07_Same.l0]
  rw [if_neg (by omega)]
 | succ d ih =>
  intro k i hi hd hk
  obtain ⟨k, rfl⟩ : ∃ m, k = m + 1 := ⟨k - 1, by omega⟩
  simp only [r_07_Same.l0]
  rw [if_pos (by omega), if_pos (by omega), if_pos (by omega), if_neg (by simp), wrN (by omega)]
  exact ih k (i + 1) (by omega) (by omega) (by omega)
theorem One2_l (a b c : Int) (w : List Wr) (t : List ROp) (hm : w.length < 4398046511104) (d : Nat) : ∀ (k i : Nat), i ≤ w.length → w.length - i = d → d < k → r_15_One2.l0 k (i : Int) a b c w t a b c w t = some true := by
 induction d with
 | zero =>
  intro k i hi hd hk
  obtain ⟨k, rfl⟩ : ∃ m, k = m + 1 := ⟨k - 1, by omega⟩
  simp only [r_15_One2.l0]
  rw [if_neg (by omega)]
 | succ d ih =>
  intro k i hi hd hk
  obtain ⟨k, rfl⟩ : ∃ m, k = m + 1 := ⟨k - 1, by omega⟩
  simp only [r_15_One2.l0]
  rw [if_pos (by omega), if_pos (by omega), if_pos (by omega), if_neg (by simp), wrN (by omega)]
  exact ih k (i + 1) (by omega) (by omega) (by omega)
theorem One2_f (k : Nat) (a b c : Int) (w : List Wr) (t : List ROp) (hw : w.length ≤ 1000) (ht : t.length ≤ 1000) (hk : 1001 < k) : r_15_One2.f k a b c w t a b c w t = some true := by
 obtain ⟨k, rfl⟩ : ∃ m, k = m + 1 := ⟨k - 1, by omega⟩
 unfold r_15_One2.f r_07_Same.f
 have h1 := TSame_l t (by omega) t.length (k + 1) 0 (by omega) (by omega) (by omega)
 rw [show ((0 : Nat) : Int) = 0 from rfl] at h1
 rw [if_pos rfl, h1, Option.bind_some, if_pos rfl, if_pos rfl, if_pos rfl, if_pos rfl, bne_self_eq_false]
 simp only [r_15_One2.j0]
 rw [if_neg (by decide)]
 exact One2_l a b c w t (by omega) w.length k 0 (by omega) (by omega) (by omega)
theorem Same15_l (x : List RSp) (hm : x.length < 1073741824) (ha : ∀ s ∈ x, s.f3.length ≤ 1000 ∧ s.f4.length ≤ 1000) (d : Nat) : ∀ (k i : Nat), i ≤ x.length → x.length - i = d → d + 1002 < k → r_15_Same.l0 k x x (i : Int) = some true := by
 induction d with
 | zero =>
  intro k i hi hd hk
  obtain ⟨k, rfl⟩ : ∃ m, k = m + 1 := ⟨k - 1, by omega⟩
  simp only [r_15_Same.l0]
  rw [if_neg (by omega)]
 | succ d ih =>
  intro k i hi hd hk
  obtain ⟨k, rfl⟩ : ∃ m, k = m + 1 := ⟨k - 1, by omega⟩
  have hmem := ha _ (getD_in x z44 i (by omega))
  simp only [r_15_Same.l0]
  rw [if_pos (by omega), if_pos (by omega), if_pos (by omega), show rd_T44 x (i : Int) = x.getD i z44 from rfl, One2_f k _ _ _ _ _ hmem.1 hmem.2 (by omega), Option.bind_some, if_pos rfl, wrN (by omega)]
  exact ih k (i + 1) (by omega) (by omega) (by omega)
theorem SameS_f (k : Nat) (l : List Sp) (h : FewS l) (hk : 1100 < k) : r_15_Same.f k (l.map refSp) (l.map refSp) = some true := by
 unfold r_15_Same.f
 rw [if_pos rfl]
 have hl := h.1
 have := Same15_l (l.map refSp) (by rw [List.length_map]; omega) (fun s hs => by
  obtain ⟨x, hx, rfl⟩ := List.mem_map.1 hs
  have := h.2 x hx
  show x.f3.length ≤ 1000 ∧ (x.f4.map refO).length ≤ 1000
  rw [List.length_map]; omega) (l.map refSp).length k 0 (by omega) (by omega) (by rw [List.length_map]; omega)
 exact this
theorem RefsF_f (k : Nat) (l : List Sp) (h : FewS l) (hk : 1100 < k) : l_15_Refs.f k l = some (l.map refSp) :=
 SRefs_f k l (by have := h.1; omega) (fun x hx => by have := (h.2 x hx).2; omega) (by have := h.1; omega)
theorem CloneS_f (l : List Sp) (hl : l.length < 1073741824) : slices_Clone.f l = some l := by
 unfold slices_Clone.f
 simp only [Option.bind_some, List.length_nil, Nat.zero_add, List.nil_append]
 rw [if_pos (by omega)]
/-! one more -/
theorem cut_in {l : List Sp} (h : l.Pairwise Lt) {w : Int} {c i : Nat} (hc : Cut l w c) (hi : i < l.length) (e : (l.getD i z26).f0 = w) : c = i := by
 obtain ⟨h1, h2, h3⟩ := hc
 rcases Nat.lt_trichotomy c i with q | q | q
 · have := h3 c (Nat.le_refl _) (by omega)
   have := lt_at h c i q hi
   omega
 · exact q
 · have := h2 i q; omega
theorem mem_idx {l : List Sp} {x : Sp} (hx : x ∈ l) : ∃ i, i < l.length ∧ l.getD i z26 = x := by
 obtain ⟨i, hi, rfl⟩ := List.mem_iff_getElem.1 hx
 exact ⟨i, hi, by rw [List.getD_eq_getElem?_getD, List.getElem?_eq_getElem hi]; rfl⟩
theorem place_no (k : Nat) {l : List Sp} {w : Int} (hm : l.length < 1073741824) (h : l.Pairwise Lt) (hk : l.length + 1 < k) (hno : ∀ x ∈ l, x.f0 ≠ w) : ∃ c, Cut l w c ∧ sleep_place.f k l w = some ((c : Int), false) := by
 obtain ⟨c, hc, e⟩ := place_f k l w hm h hk
 refine ⟨c, hc, ?_⟩
 rw [e, decide_eq_false]
 intro g
 exact hno _ (getD_in l z26 c g.1) g.2
theorem place_yes (k : Nat) {l : List Sp} {i : Nat} (hm : l.length < 1073741824) (h : l.Pairwise Lt) (hk : l.length + 1 < k) (hi : i < l.length) : sleep_place.f k l (l.getD i z26).f0 = some ((i : Int), true) := by
 obtain ⟨c, hc, e⟩ := place_f k l (l.getD i z26).f0 hm h hk
 have := cut_in h hc hi rfl
 subst this
 rw [e, decide_eq_true ⟨hi, rfl⟩]
/-! ### found, and dropped -/
theorem Find_f (k : Nat) (l : List Sp) (hl : FewS l) (hR : RS l) (i : Nat) (hi : i < l.length) (hk : 1400 < k) :
 sleep_Find.f k l (l.getD i z26).f0 = some ((l.getD i z26).f0, (l.getD i z26).f1, (l.getD i z26).f2, (l.getD i z26).f3, (l.getD i z26).f4, 0) := by
 have hlen := hl.1
 unfold sleep_Find.f
 rw [RightF_f _ l hl (by omega), Option.bind_some, if_pos ((rightS_iff l).2 hR), place_yes k (by omega) hR.2 (by omega) hi, Option.bind_some, if_pos rfl, if_pos (by omega), if_pos (by omega)]
 rfl
def dropL (l : List Sp) : List Sp → List Int → List Sp × Int
 | x, [] => (x, 0)
 | x, w :: ws => if (x.any fun s => s.f0 == w) = true then dropL l (x.filter fun s => s.f0 != w) ws else (l, 3)
theorem erase_filter : ∀ (x : List Sp), x.Pairwise Lt → ∀ i, i < x.length → x.eraseIdx i = x.filter fun s => s.f0 != (x.getD i z26).f0
 | [], _, i, hi => absurd hi (by simp)
 | a :: t, h, 0, _ => by
  rw [List.pairwise_cons] at h
  show t = _
  rw [List.filter_cons, if_neg (by simp)]
  symm
  rw [List.filter_eq_self]
  intro y hy
  have := h.1 y hy
  have h2 : y.f0 ≠ a.f0 := fun e => by have : a.f0 < y.f0 := this; omega
  simpa using h2
 | a :: t, h, i + 1, hi => by
  rw [List.pairwise_cons] at h
  have hi' : i < t.length := by simpa using hi
  have e : (a :: t).getD (i + 1) z26 = t.getD i z26 := rfl
  rw [e, List.filter_cons, if_pos]
  · show a :: t.eraseIdx i = _
    rw [erase_filter t h.2 i hi']
  · have := h.1 _ (getD_in t z26 i hi')
    have h2 : a.f0 ≠ (t.getD i z26).f0 := fun e => by have : a.f0 < (t.getD i z26).f0 := this; omega
    simpa using h2
theorem few_subS {l l' : List Sp} (h : FewS l) (hs : l'.Sublist l) : FewS l' := ⟨Nat.le_trans hs.length_le h.1, fun x hx => h.2 x (hs.subset hx)⟩
theorem Drop_l (l : List Sp) (ws : List Int) (hm : ws.length < 1073741824) (d : Nat) : ∀ (k i : Nat) (x : List Sp), i ≤ ws.length → ws.length - i = d → d + 100 < k → FewS x → x.Pairwise Lt →
 sleep_Drop.l0 k l x ws (ws.length : Int) (i : Int) = some (dropL l x (ws.drop i)) := by
 induction d with
 | zero =>
  intro k i x hi hd hk hx hp
  obtain ⟨k, rfl⟩ : ∃ m, k = m + 1 := ⟨k - 1, by omega⟩
  simp only [sleep_Drop.l0]
  rw [if_neg (by omega), List.drop_of_length_le (by omega)]; rfl
 | succ d ih =>
  intro k i x hi hd hk hx hp
  obtain ⟨k, rfl⟩ : ∃ m, k = m + 1 := ⟨k - 1, by omega⟩
  have hlen := hx.1
  simp only [sleep_Drop.l0]
  rw [if_pos (by omega), if_pos (by omega), if_pos (by omega), drop_cons ws 0 i (by omega), show rd ws (i : Int) = ws.getD i 0 from rfl, wrN (by omega)]
  generalize ws.getD i 0 = w
  simp only [dropL]
  by_cases ha : (x.any fun s => s.f0 == w) = true
  · rw [if_pos ha]
    rw [List.any_eq_true] at ha
    obtain ⟨s, hs, es⟩ := ha
    obtain ⟨j, hj, rfl⟩ := mem_idx hs
    have es' : (x.getD j z26).f0 = w := by simpa using es
    rw [← es', place_yes k (by omega) hp (by omega) hj, Option.bind_some, if_pos rfl, if_pos (by omega), if_pos (by omega), show ((j : Int)).toNat = j from rfl, erase_filter x hp j hj]
    exact ih k (i + 1) _ (by omega) (by omega) (by omega) (few_subS hx List.filter_sublist) (hp.sublist List.filter_sublist)
  · rw [if_neg ha]
    have hno : ∀ s ∈ x, s.f0 ≠ w := fun s hs e => ha (List.any_eq_true.2 ⟨s, hs, by simpa using e⟩)
    obtain ⟨c, _, e⟩ := place_no k (by omega) hp (by omega) hno
    rw [e, Option.bind_some, if_neg (show ¬ false = true by decide)]
theorem Drop_f (k : Nat) (l : List Sp) (hl : FewS l) (hR : RS l) (ws : List Int) (hm : ws.length ≤ 100) (hk : 1400 < k) : sleep_Drop.f k l ws = some (dropL l l ws) := by
 have hlen := hl.1
 unfold sleep_Drop.f
 rw [CloneS_f l (by omega), Option.bind_some, RightF_f _ l hl (by omega), Option.bind_some, if_pos ((rightS_iff l).2 hR)]
 have := Drop_l l ws (by omega) ws.length k 0 l (by omega) (by omega) (by omega) hl hR.2
 exact this
/-! ### who watches -/
theorem Index_l (l : List Int) (a : Int) (hm : l.length < 4398046511104) (d : Nat) : ∀ (k i : Nat), i ≤ l.length → l.length - i = d → d < k → slices_Index.l0 k l a (l.length : Int) (i : Int) = some (idxT (fun x => x == a) (l.drop i) (i : Int)) := by
 induction d with
 | zero =>
  intro k i hi hd hk
  obtain ⟨k, rfl⟩ : ∃ m, k = m + 1 := ⟨k - 1, by omega⟩
  simp only [slices_Index.l0]
  rw [if_neg (by omega), List.drop_of_length_le (by omega)]; rfl
 | succ d ih =>
  intro k i hi hd hk
  obtain ⟨k, rfl⟩ : ∃ m, k = m + 1 := ⟨k - 1, by omega⟩
  simp only [slices_Index.l0]
  rw [if_pos (by omega), if_pos (by omega), if_pos (by omega), wrN (by omega), show rd l (i : Int) = l.getD i 0 from rfl, drop_cons l 0 i (by omega), ih k (i + 1) (by omega) (by omega) (by omega)]
  by_cases e : a = l.getD i 0
  · rw [if_pos e, idxT_yes (by simpa using e.symm)]
  · rw [if_neg e, idxT_no (by simpa using fun h => e h.symm)]; rfl
theorem Contains_f (k : Nat) (l : List Int) (a : Int) (hm : l.length < 4398046511104) (hk : l.length < k) : slices_Contains.f k l a = some (l.contains a) := by
 unfold slices_Contains.f slices_Index.f
 have := Index_l l a hm l.length k 0 (by omega) (by omega) (by omega)
 rw [show ((0 : Nat) : Int) = 0 from rfl, List.drop_zero] at this
 rw [this, Option.bind_some]
 congr 1
 rcases idxT_cases (fun x => x == a) 0 l 0 with ⟨h1, h2⟩ | ⟨j, hj, h1, h2, _⟩
 · rw [h1, decide_eq_false (by decide)]
   symm
   rw [Bool.eq_false_iff]
   intro h
   have := h2 a (List.contains_iff_mem.1 h)
   simp at this
 · rw [h1, decide_eq_true (by omega)]
   symm
   rw [List.contains_iff_mem]
   have e : l.getD j 0 = a := by simpa using h2
   rw [← e]
   exact getD_in l 0 j hj
def isOf (cells : List Int) (s : Sp) : Bool := s.f3.any fun w => cells.contains w.f0
theorem anyOf_f (k : Nat) (w : List Wr) (cells : List Int) (hm : cells.length < 4398046511104) (hk : cells.length < k) : any_at_sleep_Of_1.f k (w.map fun x => x.f0) cells = some (w.any fun x => cells.contains x.f0) := by
 unfold any_at_sleep_Of_1.f
 rw [anyF_T (f := fun x : Int => sleep_Of_1.f k x cells) (p := fun c => cells.contains c) _ (fun x _ => by unfold sleep_Of_1.f; rw [Contains_f k cells x hm hk]; rfl), List.any_map]
 rfl
theorem Of_l (l : List Sp) (cells : List Int) (hF : FewS l) (hm : cells.length ≤ 100) (d : Nat) : ∀ (k i : Nat), i ≤ l.length → l.length - i = d → d + 200 < k →
 sleep_Of.l0 k (((l.take i).filter (isOf cells)).map fun s => s.f0) l (l.length : Int) (i : Int) cells = some ((l.filter (isOf cells)).map fun s => s.f0) := by
 have hlen := hF.1
 induction d with
 | zero =>
  intro k i hi hd hk
  obtain ⟨k, rfl⟩ : ∃ m, k = m + 1 := ⟨k - 1, by omega⟩
  simp only [sleep_Of.l0]
  rw [if_neg (by omega), List.take_of_length_le (by omega)]
 | succ d ih =>
  intro k i hi hd hk
  obtain ⟨k, rfl⟩ : ∃ m, k = m + 1 := ⟨k - 1, by omega⟩
  have next := ih k (i + 1) (by omega) (by omega) (by omega)
  have hs := hF.2 _ (getD_in l z26 i (by omega))
  rw [take_snG l z26 i (by omega), List.filter_append, List.map_append] at next
  simp only [sleep_Of.l0]
  rw [if_pos (by omega), if_pos (by omega), if_pos (by omega), show rd_T26 l (i : Int) = l.getD i z26 from rfl, wrN (by omega)]
  generalize l.getD i z26 = s at *
  rw [SCells_f k s.f0 s.f1 s.f2 s.f3 s.f4 (by omega) (by omega), Option.bind_some, anyOf_f k s.f3 cells (by omega) (by omega), Option.bind_some, show (s.f3.any fun x => cells.contains x.f0) = isOf cells s from rfl]
  by_cases h : isOf cells s = true
  · rw [if_pos h, if_pos (by
     rw [List.length_map]
     refine Nat.lt_of_le_of_lt (List.length_filter_le _ _) ?_
     rw [List.length_take]; omega)]
    rw [List.filter_cons, if_pos h] at next
    exact next
  · rw [if_neg h]
    rw [List.filter_cons, if_neg h, List.filter_nil, List.map_nil, List.append_nil] at next
    exact next
theorem Of_f (k : Nat) (l : List Sp) (cells : List Int) (hF : FewS l) (hR : RS l) (hm : cells.length ≤ 100) (hk : 1400 < k) : sleep_Of.f k l cells = some ((l.filter (isOf cells)).map fun s => s.f0) := by
 have hlen := hF.1
 unfold sleep_Of.f
 rw [RightF_f _ l hF (by omega), Option.bind_some, if_pos ((rightS_iff l).2 hR)]
 have := Of_l l cells hF hm l.length k 0 (by omega) (by omega) (by omega)
 exact this
theorem Of_no (k : Nat) (l : List Sp) (cells : List Int) (hF : FewS l) (hR : ¬ rightS l = true) (hk : 1400 < k) : sleep_Of.f k l cells = some [] := by
 unfold sleep_Of.f
 rw [RightF_f _ l hF (by omega), Option.bind_some, if_neg hR]
end Go.Proofs.YtncloefpjeolaaaGreat.Zw
namespace Go.Proofs.YtncloefpjeolaaaGreat.Zw
open Go.RowKit Go.Proofs.YtncloefpjeolaaaGreatW.PrintWords Go.Proofs.YtncloefpjeolaaaGreatW.PrintLast Go.Proofs.YtncloefpjeolaaaGreatW.PrintMore Go.Proofs.YtncloefpjeolaaaGreat.Ho
set_option linter.unusedVariables false
set_option linter.unusedSimpArgs false
theorem runT_app (h : List S53) (regs : List Int) : ∀ (a b : List S57) (p : List Int), runT h regs (a ++ b) p = match runT h regs a p with | .ok q => runT h regs b q | .error e => .error e
 | [], b, p => rfl
 | o :: os, b, p => by
  simp only [List.cons_append, runT]
  cases stepB h regs o p with
  | ok q => exact runT_app h regs os b q
  | error e => rfl
theorem step_frame {h : List S53} {regs : List Int} {o : S57} {p q : List Int} (e : stepB h regs o p = .ok q) (r : List Int) : stepB h regs o (p ++ r) = .ok (q ++ r) := by
 unfold stepB at e ⊢
 match hk : takes o.f0, p with
 | 0, p =>
  rw [hk] at e
  simp only at e ⊢
  split at e
  · rw [if_pos (by assumption)]; cases e; rfl
  · cases e
 | 1, x :: p => rw [hk] at e; simp only at e; cases e; rfl
 | 1, [] => rw [hk] at e; simp only at e; cases e
 | 2, y :: x :: p => rw [hk] at e; simp only at e; cases e; rfl
 | 2, [_] => rw [hk] at e; simp only at e; cases e
 | 2, [] => rw [hk] at e; simp only at e; cases e
 | n + 3, _ => have := takes_le o.f0; omega
theorem runT_frame {h : List S53} {regs : List Int} : ∀ (t : List S57) (p q r : List Int), runT h regs t p = .ok q → runT h regs t (p ++ r) = .ok (q ++ r)
 | [], p, q, r, e => by simp only [runT] at e ⊢; cases e; rfl
 | o :: os, p, q, r, e => by
  simp only [runT] at e ⊢
  cases hs : stepB h regs o p with
  | ok m =>
   rw [hs] at e
   rw [step_frame hs r]
   exact runT_frame os m q r e
  | error c => rw [hs] at e; simp at e
theorem step_len {h : List S53} {regs : List Int} {o : S57} {p q : List Int} (e : stepB h regs o p = .ok q) : takes o.f0 ≤ p.length ∧ q.length = p.length + 1 - takes o.f0 := by
 unfold stepB at e
 match hk : takes o.f0, p with
 | 0, p =>
  rw [hk] at e
  simp only at e
  split at e
  · cases e; simp
  · cases e
 | 1, x :: p => rw [hk] at e; simp only at e; cases e; simp
 | 1, [] => rw [hk] at e; simp only at e; cases e
 | 2, y :: x :: p => rw [hk] at e; simp only at e; cases e; simp
 | 2, [_] => rw [hk] at e; simp only at e; cases e
 | 2, [] => rw [hk] at e; simp only at e; cases e
 | n + 3, _ => have := takes_le o.f0; omega
theorem inR_w32 (x : Int) : inR (wrap32 x) = true := by
 have := w32_lo x
 have := w32_hi x
 simp [inR]; omega
theorem inR_tru (b : Bool) : inR (tru b) = true := by cases b <;> rfl
theorem inR_two (a x y : Int) : inR (twoB a x y) = true := by
 unfold twoB
 repeat' split
 all_goals first | exact inR_w32 _ | exact inR_tru _
/-- What stands where nothing is taken is a number, a cell or a register. -/
theorem may_leaf {o : S57} (hm : mayB o.f0 o.f1 = true) (ht : takes o.f0 = 0) : o.f0 = 1 ∨ (o.f0 = 2 ∧ 0 ≤ o.f1 ∧ o.f1 < 64) ∨ (o.f0 = 3 ∧ 0 ≤ o.f1 ∧ o.f1 < 8) := by
 unfold mayB at hm
 split at hm
 · exact .inl (by assumption)
 · split at hm
   · exact .inr (.inl ⟨by assumption, by simpa using hm⟩)
   · split at hm
     · exact .inr (.inr ⟨by assumption, by simpa using hm⟩)
     · rw [ht] at hm; simp at hm
/-! two terms, one behind the other -/
/-! ### the document's term -/
abbrev cv (o : S57) : S85 := ⟨o.f0, o.f1⟩
def refT (t : List S57) : List S85 := t.map cv
theorem ref_len (t : List S57) : (refT t).length = t.length := by simp [refT]
theorem ref_at (t : List S57) (i : Nat) (hi : i < t.length) : rd_T85 (refT t) (i : Int) = cv (t.getD i z57) := by
 unfold rd_T85 refT
 rw [List.getD_eq_getElem?_getD, List.getD_eq_getElem?_getD, List.getElem?_map]
 simp [List.getElem?_eq_getElem hi]
theorem one_f (a b : Int) : r_07_one.f a b = some (mayB a b) := by
 unfold r_07_one.f mayB
 rw [show r_01_Right.f b = some (inR b) from by
  unfold r_01_Right.f inR
  by_cases h : b ≥ (-2147483648)
  · rw [if_pos h]; simp [h]
  · rw [if_neg h]; simp [h]]
 simp only [Option.bind_some]
 split
 · rfl
 · split
   · by_cases h : b ≥ 0
     · rw [if_pos h]; congr 1; rw [decide_eq_decide]; omega
     · rw [if_neg h]; congr 1; symm; rw [decide_eq_false_iff_not]; omega
   · split
     · by_cases h : b ≥ 0
       · rw [if_pos h]; congr 1; rw [decide_eq_decide]; omega
       · rw [if_neg h]; congr 1; symm; rw [decide_eq_false_iff_not]; omega
     · by_cases h : takes a = 0
       · have : ¬ (a ≥ 4 ∧ a ≤ 11) := by
          unfold takes at h
          split at h
          · omega
          · split at h <;> omega
         rw [h]
         by_cases h4 : a ≥ 4
         · rw [if_pos h4, if_neg (fun e => this ⟨h4, e⟩)]; simp
         · rw [if_neg h4]; simp
       · have : a ≥ 4 ∧ a ≤ 11 := by
          unfold takes at h
          split at h
          · omega
          · split at h <;> omega
         rw [if_pos this.1, if_pos this.2, decide_eq_true (by omega)]; simp
/-- So many terms off the end (the last operation first): what is left. -/
def need : List S57 → Nat → Option (List S57)
 | r, 0 => some r
 | [], _ + 1 => none
 | o :: r, c + 1 => need r (c + takes o.f0)
theorem need_zero (r : List S57) : need r 0 = some r := by cases r <;> rfl
theorem need_add : ∀ (r : List S57) (a b : Nat), need r (a + b) = (need r a).bind fun s => need s b
 | r, 0, b => by rw [need_zero, Nat.zero_add]; rfl
 | [], a + 1, b => by rw [show a + 1 + b = (a + b) + 1 from by omega]; rfl
 | o :: r, a + 1, b => by
  rw [show a + 1 + b = (a + b) + 1 from by omega]
  simp only [need]
  rw [show a + b + takes o.f0 = (a + takes o.f0) + b from by omega]
  exact need_add r _ b
/-- What is left is a head of the row. -/
theorem need_suf : ∀ (r : List S57) (c : Nat) (s : List S57), need r c = some s → ∃ q, r = q ++ s ∧ c ≤ q.length
 | r, 0, s, h => by rw [need_zero] at h; cases h; exact ⟨[], rfl, by simp⟩
 | [], c + 1, s, h => by cases h
 | o :: r, c + 1, s, h => by
  obtain ⟨q, h1, h2⟩ := need_suf r _ s h
  exact ⟨o :: q, by rw [h1]; rfl, by simp; omega⟩
theorem walk_need (t : List S57) : ∀ m, walkN t 0 = some m ↔ need t.reverse m = some [] := by
 suffices ∀ (r t : List S57), t.reverse = r → ∀ m, walkN t 0 = some m ↔ need r m = some [] from this _ t rfl
 intro r
 induction r with
 | nil =>
  intro t ht m
  have : t = [] := by simpa using ht
  subst this
  cases m with
  | zero => simp [walkN, need]
  | succ m => simp [walkN, need]
 | cons o r ih =>
  intro t ht m
  have e : t = r.reverse ++ [o] := by rw [← List.reverse_reverse t, ht]; simp
  subst e
  have hi := ih r.reverse (by simp)
  rw [walkN_app]
  cases hw : walkN r.reverse 0 with
  | none =>
   simp only [Option.bind_none]
   cases m with
   | zero => simp [need]
   | succ m =>
    simp only [need]
    have := hi (m + takes o.f0)
    rw [hw] at this
    simpa using this
  | some n =>
   simp only [Option.bind_some, walkN]
   cases m with
   | zero =>
    have := takes_le o.f0
    simp only [need]
    split
    · simp
    · simp; omega
   | succ m =>
    simp only [need]
    have := hi (m + takes o.f0)
    rw [hw] at this
    rw [← this]
    split
    · simp; omega
    · simp; omega
/-- Where the term begins that ends ahead of i, or -1. -/
def startI (t : List S57) (i : Nat) : Int := match need (t.take i).reverse 1 with | some s => (s.length : Int) | none => -1
theorem take_rev (t : List S57) (i : Nat) (hi : i < t.length) : (t.take (i + 1)).reverse = t.getD i z57 :: (t.take i).reverse := by
 rw [List.take_add_one, List.getD_eq_getElem?_getD, List.getElem?_eq_getElem hi]
 simp
/-- What is left of the first i is the first so many. -/
theorem need_take {t : List S57} {i c : Nat} {s : List S57} (hi : i ≤ t.length) (h : need (t.take i).reverse c = some s) : s = (t.take s.length).reverse ∧ s.length + c ≤ i := by
 obtain ⟨q, h1, h2⟩ := need_suf _ _ _ h
 have h3 : t.take i = s.reverse ++ q.reverse := by rw [← List.reverse_reverse (t.take i), h1]; simp
 have hl : i = s.length + q.length := by
  have := congrArg List.length h3
  simp at this; omega
 refine ⟨?_, by omega⟩
 have : t.take s.length = s.reverse := by
  have e : (t.take i).take s.length = t.take s.length := by rw [List.take_take]; congr 1; omega
  rw [← e, h3]
  exact List.take_left' (by simp)
 rw [this]; simp
theorem start_f (t : List S57) (hm : t.length ≤ 12) (hmay : ∀ o ∈ t, mayB o.f0 o.f1 = true) : ∀ (n i k : Nat), i ≤ n → i ≤ t.length → i < k → r_07_start.f k (refT t) ((i : Int) - 1) = some (startI t i) := by
 intro n
 induction n with
 | zero =>
  intro i k hi hl hk
  obtain ⟨k, rfl⟩ : ∃ m, k = m + 1 := ⟨k - 1, by omega⟩
  have : i = 0 := by omega
  subst this
  simp only [r_07_start.f]
  rw [if_pos (by omega)]
  simp [startI, need]
 | succ n ih =>
  intro i k hi hl hk
  obtain ⟨k, rfl⟩ : ∃ m, k = m + 1 := ⟨k - 1, by omega⟩
  cases i with
  | zero =>
   simp only [r_07_start.f]
   rw [if_pos (by omega)]
   simp [startI, need]
  | succ i =>
   have ei : (((i + 1 : Nat) : Int) - 1) = (i : Int) := by omega
   rw [ei]
   simp only [r_07_start.f]
   rw [if_neg (by omega), if_pos (by omega), if_pos (by rw [ref_len]; omega), ref_at t i (by omega), wr (by omega) (by omega), ih i k (by omega) (by omega) (by omega)]
   simp only [Option.bind_some]
   have hmo : mayB (t.getD i z57).f0 (t.getD i z57).f1 = true := hmay _ (by
    rw [List.getD_eq_getElem?_getD, List.getElem?_eq_getElem (by omega)]; exact List.getElem_mem _)
   have e1 : startI t (i + 1) = match need (t.take i).reverse (takes (t.getD i z57).f0) with | some s => (s.length : Int) | none => -1 := by
    unfold startI
    rw [take_rev t i (by omega)]
    simp only [need, Nat.zero_add]
   rw [e1]
   have htl : ((t.take i).reverse).length = i := by simp; omega
   generalize t.getD i z57 = o at hmo ⊢
   by_cases h3 : o.f0 ≤ 3
   · have ht : takes o.f0 = 0 := by unfold takes; rw [if_neg (by omega), if_neg (by omega)]
     rw [if_pos h3, ht, need_zero]
     simp only [htl]
   · rw [if_neg h3]
     have h11 : o.f0 ≤ 11 := by
      unfold mayB at hmo
      rw [if_neg (by omega), if_neg (by omega), if_neg (by omega)] at hmo
      have ht : takes o.f0 ≠ 0 := by
       intro e; rw [e] at hmo; simp at hmo
      unfold takes at ht
      split at ht
      · omega
      · split at ht
        · omega
        · simp at ht
     by_cases h : o.f0 = 11
     · have ht : takes o.f0 = 1 := by rw [h]; decide
       rw [ht, if_pos h]
       have : startI t i = match need (t.take i).reverse 1 with | some s => (s.length : Int) | none => -1 := rfl
       rw [← this]
       split <;> rfl
     · have ht : takes o.f0 = 2 := by unfold takes; rw [if_pos (by omega)]
       rw [ht, if_neg h, show (2 : Nat) = 1 + 1 from rfl, need_add]
       unfold startI
       cases hn : need (t.take i).reverse 1 with
       | none => simp
       | some s =>
        obtain ⟨e2, e3⟩ := need_take (by omega) hn
        simp only [Option.bind_some]
        rw [if_neg (by omega), wr (by omega) (by omega), ih s.length k (by omega) (by omega) (by omega)]
        simp only [Option.bind_some]
        have e4 : startI t s.length = match need s 1 with | some s => (s.length : Int) | none => -1 := by
         unfold startI
         rw [← e2]
        rw [e4]
theorem rCheck_l (t : List S57) (hm1 : 1 ≤ t.length) (hm : t.length ≤ 12) (d : Nat) : ∀ (k i : Nat), i ≤ t.length → t.length - i = d → d + 14 < k → (∀ o ∈ t.take i, mayB o.f0 o.f1 = true) →
 r_07_Check.l0 k (refT t) (i : Int) = some (checkB t) := by
 induction d with
 | zero =>
  intro k i hi hd hk hma
  obtain ⟨k, rfl⟩ : ∃ m, k = m + 1 := ⟨k - 1, by omega⟩
  rw [List.take_of_length_le (by omega)] at hma
  simp only [r_07_Check.l0]
  rw [if_neg (by rw [ref_len]; omega), ref_len, wr (by omega) (by omega), start_f t hm hma t.length t.length k (by omega) (by omega) (by omega)]
  simp only [Option.bind_some]
  have hall : mayAll t = true := by unfold mayAll; exact List.all_eq_true.2 hma
  have ec : checkB t = if walkN t 0 = some 1 then 0 else 2 := by
   unfold checkB
   rw [if_pos ⟨hm1, hm, hall⟩]
  rw [ec]
  unfold startI
  rw [List.take_of_length_le (by omega)]
  have hwn := walk_need t 1
  by_cases hw : walkN t 0 = some 1
  · rw [if_pos hw, hwn.1 hw]; rfl
  · rw [if_neg hw]
    have h2 : need t.reverse 1 ≠ some [] := fun e => hw (hwn.2 e)
    cases hn : need t.reverse 1 with
    | none => rw [if_neg (by decide)]
    | some s =>
     rw [hn] at h2
     have : s ≠ [] := fun e => h2 (by rw [e])
     have : 0 < s.length := List.length_pos_iff.2 this
     rw [if_neg (by simp only; omega)]
 | succ d ih =>
  intro k i hi hd hk hma
  obtain ⟨k, rfl⟩ : ∃ m, k = m + 1 := ⟨k - 1, by omega⟩
  simp only [r_07_Check.l0]
  rw [if_pos (by rw [ref_len]; omega), if_pos (by omega), ref_at t i (by omega), one_f, wrN (by omega)]
  simp only [Option.bind_some, cv]
  have hmem : t.getD i z57 ∈ t := by
   rw [List.getD_eq_getElem?_getD, List.getElem?_eq_getElem (by omega)]; exact List.getElem_mem _
  by_cases ho : mayB (t.getD i z57).f0 (t.getD i z57).f1 = true
  · rw [if_pos ho]
    refine ih k (i + 1) (by omega) (by omega) (by omega) fun o h => ?_
    rw [List.take_add_one, List.getElem?_eq_getElem (by omega)] at h
    rcases List.mem_append.1 h with h | h
    · exact hma o h
    · have : o = t.getD i z57 := by
       rw [List.getD_eq_getElem?_getD, List.getElem?_eq_getElem (by omega)]
       simpa using h
      rw [this]; exact ho
  · rw [if_neg ho]
    unfold checkB
    rw [if_neg]
    intro e
    exact ho (List.all_eq_true.1 e.2.2 _ hmem)
theorem rCheck_f (k : Nat) (t : List S57) (hk : 40 ≤ k) : r_07_Check.f k (refT t) = some (checkB t) := by
 obtain ⟨k, rfl⟩ : ∃ q, k = q + 1 := ⟨k - 1, by omega⟩
 unfold r_07_Check.f
 simp only [r_07_Check.j0]
 rw [ref_len]
 by_cases h1 : t.length < 1
 · rw [if_pos (by omega), if_pos trivial]
   unfold checkB
   rw [if_neg (by omega)]
 · rw [if_neg (by omega)]
   by_cases h2 : t.length > 12
   · rw [if_pos (by simp; omega)]
     unfold checkB
     rw [if_neg (by omega)]
   · rw [if_neg (by simp; omega)]
     exact rCheck_l t (by omega) (by omega) t.length k 0 (by omega) (by omega) (by omega) (by simp)
/-! ### the cells that the document names -/
def refCells (t : List S57) : List Int := ((List.range 64).filter fun c => t.any fun o => o.f0 == 2 && o.f1 == ((c : Nat) : Int)).map fun c => ((c : Nat) : Int)
theorem rCells_l1 (t : List S57) (hm : t.length ≤ 12) (c K : Nat) (out : List Int) (r : Option (List Int)) (ho : out.length < 4611686018427) (he : ∀ k, K < k → r_07_Cells.l0 k (refT t) (if (t.any fun o => o.f0 == 2 && o.f1 == (c : Int)) = true then out ++ [(c : Int)] else out) (wrap64 ((c : Int) + 1)) = r) (d : Nat) : ∀ (k i : Nat) (b : Bool), i ≤ t.length → t.length - i = d → d + K + 1 < k → b = ((t.take i).any fun o => o.f0 == 2 && o.f1 == (c : Int)) →
 r_07_Cells.l1 k (refT t) out (c : Int) b (i : Int) = r := by
 induction d with
 | zero =>
  intro k i b hi hd hk hb
  obtain ⟨k, rfl⟩ : ∃ m, k = m + 1 := ⟨k - 1, by omega⟩
  rw [List.take_of_length_le (by omega)] at hb
  have he' := he k (by omega)
  simp only [r_07_Cells.l1]
  rw [if_neg (by rw [ref_len]; omega)]
  cases b with
  | true =>
   rw [if_pos hb.symm] at he'
   rw [if_pos rfl, if_pos (by omega)]
   exact he'
  | false =>
   rw [if_neg (by rw [← hb]; decide)] at he'
   rw [if_neg (by decide)]
   exact he'
 | succ d ih =>
  intro k i b hi hd hk hb
  obtain ⟨k, rfl⟩ : ∃ m, k = m + 1 := ⟨k - 1, by omega⟩
  have et := take_sn t i (by omega)
  have en : ((t.take (i + 1)).any fun o => o.f0 == 2 && o.f1 == (c : Int)) = (b || ((t.getD i z57).f0 == 2 && (t.getD i z57).f1 == (c : Int))) := by
   rw [et, List.any_append, ← hb]; simp
  simp only [r_07_Cells.l1]
  rw [if_pos (by rw [ref_len]; omega), wrN (by omega), ref_at t i (by omega)]
  generalize t.getD i z57 = o at *
  cases b with
  | true =>
   rw [if_pos rfl]
   exact ih k (i + 1) true (by omega) (by omega) (by omega) (by rw [en]; rfl)
  | false =>
   rw [if_neg (by decide), if_pos (by omega)]
   by_cases h2 : o.f0 = 2
   · rw [if_pos (show (cv o).f0 = 2 from h2)]
     exact ih k (i + 1) _ (by omega) (by omega) (by omega) (by rw [en, h2]; simp)
   · rw [if_neg (show ¬ (cv o).f0 = 2 from h2)]
     exact ih k (i + 1) _ (by omega) (by omega) (by omega) (by rw [en, show (o.f0 == 2) = false from beq_eq_false_iff_ne.2 h2]; rfl)
theorem rCells_l0 (t : List S57) (hm : t.length ≤ 12) (d : Nat) : ∀ (k c : Nat), c ≤ 64 → 64 - c = d → 20 * d + 20 < k →
 r_07_Cells.l0 k (refT t) (((List.range c).filter fun c => t.any fun o => o.f0 == 2 && o.f1 == ((c : Nat) : Int)).map fun c => ((c : Nat) : Int)) (c : Int) = some (refCells t) := by
 induction d with
 | zero =>
  intro k c hc hd hk
  obtain ⟨k, rfl⟩ : ∃ m, k = m + 1 := ⟨k - 1, by omega⟩
  have : c = 64 := by omega
  subst this
  simp only [r_07_Cells.l0]
  rw [if_neg (by omega)]
  rfl
 | succ d ih =>
  intro k c hc hd hk
  obtain ⟨k, rfl⟩ : ∃ m, k = m + 1 := ⟨k - 1, by omega⟩
  simp only [r_07_Cells.l0]
  rw [if_pos (by omega)]
  refine rCells_l1 t hm c (20 * d + 20) _ _ ?_ (fun k hk => ?_) t.length k 0 false (by omega) (by omega) (by omega) (by simp)
  · rw [List.length_map]
    refine Nat.lt_of_le_of_lt (List.length_filter_le _ _) ?_
    rw [List.length_range]; omega
  · rw [wrN (by omega), ← ih k (c + 1) (by omega) (by omega) hk, List.range_succ, List.filter_append, List.map_append]
    by_cases hx : (t.any fun o => o.f0 == 2 && o.f1 == (c : Int)) = true
    · rw [if_pos hx]; simp only [List.filter_cons, hx, if_true, List.filter_nil, List.map_cons, List.map_nil]
    · rw [if_neg hx]; simp only [List.filter_cons, hx, List.filter_nil, List.map_nil, List.append_nil, if_false, Bool.false_eq_true]
theorem rCells_f (k : Nat) (t : List S57) (hk : 1400 < k) : r_07_Cells.f k (refT t) = some (if checkB t = 0 then refCells t else []) := by
 unfold r_07_Cells.f
 rw [rCheck_f k t (by omega)]
 simp only [Option.bind_some]
 by_cases h1 : checkB t = 0
 · rw [if_pos h1, if_pos h1]
   obtain ⟨c1, c2, c3, c4⟩ := checkB_ok h1
   exact rCells_l0 t c2 64 k 0 (by omega) (by omega) (by omega)
 · rw [if_neg h1, if_neg h1]
/-- Rows that rise and have the same elements are the same. -/
theorem rise_ext : ∀ (a b : List Int), a.Pairwise (· < ·) → b.Pairwise (· < ·) → (∀ x, x ∈ a ↔ x ∈ b) → a = b
 | [], [], _, _, _ => rfl
 | [], y :: b, _, _, h => by have := (h y).2 (by simp); simp at this
 | x :: a, [], _, _, h => by have := (h x).1 (by simp); simp at this
 | x :: a, y :: b, ha, hb, h => by
  obtain ⟨a1, a2⟩ := List.pairwise_cons.1 ha
  obtain ⟨b1, b2⟩ := List.pairwise_cons.1 hb
  have exy : x = y := by
   rcases List.mem_cons.1 ((h x).1 (by simp)) with e | e
   · exact e
   · rcases List.mem_cons.1 ((h y).2 (by simp)) with e2 | e2
     · exact e2.symm
     · have := a1 y e2
       have := b1 x e
       omega
  subst exy
  rw [rise_ext a b a2 b2 fun z => ?_]
  constructor
  · intro hz
    rcases List.mem_cons.1 ((h z).1 (by simp [hz])) with e | e
    · have := a1 z hz; omega
    · exact e
  · intro hz
    rcases List.mem_cons.1 ((h z).2 (by simp [hz])) with e | e
    · have := b1 z hz; omega
    · exact e
theorem mem_comp (l : List Int) (x : Int) : x ∈ Go.Lib.compact l ↔ x ∈ l := by
 constructor
 · intro h
   unfold Go.Lib.compact Go.Lib.compactUpTo at h
   obtain ⟨i, hi, rfl⟩ := List.mem_map.1 h
   have hi' : i < l.length := List.mem_range.1 (List.mem_filter.1 hi).1
   simp [getElem!_pos, hi']
 intro h
 have key : ∀ i : Nat, i < l.length → ∃ j, j ≤ i ∧ Go.Lib.keeps l.toArray j = true ∧ l.toArray[j]! = l.toArray[i]! := by
  intro i
  induction i with
  | zero => intro _; exact ⟨0, by omega, by simp [Go.Lib.keeps], rfl⟩
  | succ i ih =>
   intro hi
   by_cases e : l.toArray[i + 1]! = l.toArray[i]!
   · obtain ⟨j, h1, h2, h3⟩ := ih (by omega)
     exact ⟨j, by omega, h2, h3.trans e.symm⟩
   · exact ⟨i + 1, by omega, by unfold Go.Lib.keeps; exact decide_eq_true (.inr (by simpa using e)), rfl⟩
 obtain ⟨i, hi, rfl⟩ := List.mem_iff_getElem.1 h
 obtain ⟨j, h1, h2, h3⟩ := key i hi
 unfold Go.Lib.compact Go.Lib.compactUpTo
 refine List.mem_map.2 ⟨j, List.mem_filter.2 ⟨List.mem_range.2 (by omega), h2⟩, ?_⟩
 rw [h3]
 simp [getElem!_pos, hi]
theorem comp_rise (l : List Int) (hs : l.Pairwise (· ≤ ·)) : (Go.Lib.compact l).Pairwise (· < ·) := by
 unfold Go.Lib.compact Go.Lib.compactUpTo
 rw [List.pairwise_map]
 have hp : (List.range l.length).Pairwise (· < ·) := List.pairwise_lt_range
 have hp2 := List.Pairwise.filter (Go.Lib.keeps l.toArray) hp
 refine List.Pairwise.imp_of_mem ?_ hp2
 intro i j hi hj hij
 have hi1 : i < l.length := List.mem_range.1 (List.mem_filter.1 hi).1
 have hj1 : j < l.length := List.mem_range.1 (List.mem_filter.1 hj).1
 have hk := (List.mem_filter.1 hj).2
 unfold Go.Lib.keeps at hk
 have hk := of_decide_eq_true hk
 have hne : l.toArray[j]! ≠ l.toArray[j - 1]! := by
  rcases hk with h | h
  · omega
  · exact h
 have hget := List.pairwise_iff_getElem.1 hs
 have e1 : ∀ q, (hq : q < l.length) → l.toArray[q]! = l[q] := fun q hq => by simp [getElem!_pos, hq]
 rw [e1 j hj1, e1 (j - 1) (by omega)] at hne
 rw [e1 i hi1, e1 j hj1]
 have h1 : l[j - 1] ≤ l[j] := hget (j - 1) j (by omega) hj1 (by omega)
 have h2 : l[i] ≤ l[j - 1] := by
  by_cases e : i = j - 1
  · subst e; exact Int.le_refl _
  · exact hget i (j - 1) hi1 (by omega) (by omega)
 omega
theorem cells_same (t : List S57) : cellsB t = if checkB t = 0 then refCells t else [] := by
 unfold cellsB
 by_cases h1 : checkB t = 0
 · rw [if_pos h1, if_pos h1]
   obtain ⟨c1, c2, c3, c4⟩ := checkB_ok h1
   refine rise_ext _ _ (comp_rise _ ?_) ?_ fun x => ?_
   · have := List.pairwise_mergeSort (le := fun x y : Int => decide (x ≤ y)) (by intro a b c; simp; omega) (by intro a b; simp; omega) (cellsL t)
     exact this.imp fun h => of_decide_eq_true h
   · unfold refCells
     rw [List.pairwise_map]
     exact (List.Pairwise.filter _ List.pairwise_lt_range).imp fun h => by omega
   · rw [mem_comp, List.mem_mergeSort]
     unfold cellsL refCells
     simp only [List.mem_map, List.mem_filter, List.mem_range, List.any_eq_true, Bool.and_eq_true, beq_iff_eq]
     constructor
     · rintro ⟨o, ⟨h2, h3⟩, rfl⟩
       have hmo := c3 o h2
       unfold mayB at hmo
       rw [if_neg (by omega), if_pos h3] at hmo
       have hmo := of_decide_eq_true hmo
       exact ⟨o.f1.toNat, ⟨by omega, o, h2, h3, by omega⟩, by omega⟩
     · rintro ⟨c, ⟨h2, o, h3, h4, h5⟩, rfl⟩
       exact ⟨o, ⟨h3, h4⟩, h5⟩
 · rw [if_neg h1, if_neg h1]
/-! ### what the document's term tells -/
theorem rtruth_f (b : Bool) : r_07_truth.f b = some (tru b) := by
 unfold r_07_truth.f tru
 split <;> rfl
theorem inR_rng {x : Int} (h : inR x = true) : -2147483648 ≤ x ∧ x ≤ 2147483647 := by simpa [inR] using h
theorem both_f (a x y : Int) (hx : inR x = true) (hy : inR y = true) : r_07_both.f a x y = some (twoB a x y) := by
 have hx := inR_rng hx
 have hy := inR_rng hy
 unfold r_07_both.f twoB
 rw [wr (i := x + y) (by omega) (by omega), wr (i := x - y) (by omega) (by omega), rwrap_f (by omega) (by omega), rwrap_f (by omega) (by omega), rmul_f (by omega) (by omega) (by omega) (by omega)]
 simp only [rtruth_f, Option.bind_some]
 repeat' split
 all_goals first | rfl | (simp_all [tru])
/-- The term that ends ahead of i: its operations, what it is told, and whether. -/
structure SegOk (t : List S57) (h : List S53) (regs : List Int) (i : Nat) (s : List S57) (v : Int) (ok : Bool) (dp : Nat) where
 seg : List S57
 eq : t.take i = t.take s.length ++ seg
 wk : walkN seg 0 = some 1
 run : runT h regs seg [] = if ok = true then .ok [v] else .error 3
 rng : inR v = true
 pos : 1 ≤ dp
 le : dp ≤ seg.length
 most : ∀ n m, mostN seg n m = if m < n + dp then n + dp else m
theorem mostN_app : ∀ (a b : List S57) (n m q : Nat), walkN a n = some q → mostN (a ++ b) n m = mostN b q (mostN a n m)
 | [], b, n, m, q, h => by simp only [walkN, Option.some.injEq] at h; subst h; rfl
 | o :: os, b, n, m, q, h => by
  simp only [walkN] at h
  split at h
  · cases h
  · rename_i hn
    simp only [List.cons_append, mostN, if_neg hn]
    exact mostN_app os b _ _ q h
theorem seg_leaf {t : List S57} {h : List S53} {regs : List Int} (hr : RightB h = true) (i : Nat) (hi : i < t.length) (hm : mayB (t.getD i z57).f0 (t.getD i z57).f1 = true) (ht : takes (t.getD i z57).f0 = 0) (v : Int) (ok : Bool) (hv : ok = true → leafB (t.getD i z57) h regs = (v, 0)) (hv2 : ok = false → (leafB (t.getD i z57) h regs).2 = 3) (hvr : inR v = true) (s : List S57) (hs : need (t.take (i + 1)).reverse 1 = some s) : Nonempty (SegOk t h regs (i + 1) s v ok 1) := by
 rw [take_rev t i hi] at hs
 simp only [need, Nat.zero_add, ht, need_zero, Option.some.injEq] at hs
 subst hs
 have et := take_sn t i hi
 generalize t.getD i z57 = o at *
 refine ⟨⟨[o], ?_, ?_, ?_, hvr, by omega, by simp, ?_⟩⟩
 · rw [et]
   simp
 · simp [walkN, ht]
 · simp only [runT, stepB, ht]
   cases ok with
   | true => rw [hv rfl]; rfl
   | false => rw [hv2 rfl]; rfl
 · intro n m
   simp only [mostN, ht, Nat.not_lt_zero, if_false]
   split <;> split <;> omega
theorem seg_not {t : List S57} {h : List S53} {regs : List Int} (i : Nat) (hi : i < t.length) (ht : takes (t.getD i z57).f0 = 1) {v : Int} {ok : Bool} {dp : Nat} {s : List S57} (hp : SegOk t h regs i s v ok dp) : Nonempty (SegOk t h regs (i + 1) s (tru (v == 0)) ok dp) := by
 have et := take_sn t i hi
 generalize t.getD i z57 = o at *
 refine ⟨⟨hp.seg ++ [o], ?_, ?_, ?_, inR_tru _, hp.pos, by have := hp.le; simp; omega, ?_⟩⟩
 · rw [et, hp.eq]; simp
 · rw [walkN_app, hp.wk]; simp [walkN, ht]
 · rw [runT_app, hp.run]
   cases ok with
   | true => simp only [if_true, runT, stepB, ht]
   | false => rfl
 · intro n m
   have hw := walkN_frame _ 0 1 n hp.wk
   rw [Nat.zero_add] at hw
   rw [mostN_app _ _ n m _ hw, hp.most]
   have := hp.pos
   simp only [mostN, ht]
   rw [if_neg (by omega)]
   repeat' split
   all_goals omega
theorem step_err_frame {h : List S53} {regs : List Int} {o : S57} {p : List Int} {c : Int} (e : stepB h regs o p = .error c) (hp : takes o.f0 ≤ p.length) (r : List Int) : stepB h regs o (p ++ r) = .error c := by
 unfold stepB at e ⊢
 match hk : takes o.f0, p with
 | 0, p =>
  rw [hk] at e
  simp only at e ⊢
  split at e
  · cases e
  · rw [if_neg (by assumption)]; exact e
 | 1, x :: p => rw [hk] at e; simp only at e; cases e
 | 1, [] => rw [hk] at hp; simp at hp
 | 2, y :: x :: p => rw [hk] at e; simp only at e; cases e
 | 2, [_] => rw [hk] at hp; simp at hp
 | 2, [] => rw [hk] at hp; simp at hp
 | n + 3, _ => have := takes_le o.f0; omega
theorem runT_err_frame {h : List S53} {regs : List Int} : ∀ (t : List S57) (p r : List Int) (c : Int), runT h regs t p = .error c → walkN t p.length ≠ none → runT h regs t (p ++ r) = .error c
 | [], p, r, c, e, _ => by simp only [runT] at e; cases e
 | o :: os, p, r, c, e, hw => by
  simp only [runT] at e ⊢
  simp only [walkN] at hw
  have hn : ¬ p.length < takes o.f0 := fun hn => hw (by rw [if_pos hn])
  rw [if_neg hn] at hw
  cases hs : stepB h regs o p with
  | ok m =>
   rw [hs] at e
   rw [step_frame hs r]
   obtain ⟨h1, h2⟩ := step_len hs
   exact runT_err_frame os m r c e (by rw [h2]; exact hw)
  | error d =>
   rw [hs] at e
   rw [step_err_frame hs (by omega) r]
   exact e
theorem seg_two {t : List S57} {h : List S53} {regs : List Int} (i : Nat) (hi : i < t.length) (ht : takes (t.getD i z57).f0 = 2) {x y : Int} {ok1 ok2 : Bool} {d1 d2 : Nat} {s s1 : List S57} (hb : SegOk t h regs i s1 y ok2 d2) (ha : SegOk t h regs s1.length s x ok1 d1) : Nonempty (SegOk t h regs (i + 1) s (twoB (t.getD i z57).f0 x y) (ok2 && ok1) (if d1 < d2 + 1 then d2 + 1 else d1)) := by
 have a1 := ha.pos
 have a2 := ha.le
 have b1 := hb.pos
 have b2 := hb.le
 have et := take_sn t i hi
 generalize t.getD i z57 = o at *
 refine ⟨⟨ha.seg ++ hb.seg ++ [o], ?_, ?_, ?_, inR_two _ _ _, by split <;> omega, by simp; split <;> omega, ?_⟩⟩
 · rw [et, hb.eq, ha.eq]; simp
 · rw [walkN_app, walkN_app, ha.wk]
   simp only [Option.bind_some]
   rw [walkN_frame _ 0 1 1 hb.wk]; simp [walkN, ht]
 · rw [runT_app, runT_app, ha.run]
   cases ok1 with
   | false =>
    simp
   | true =>
    simp only [if_true, Bool.and_true]
    have := hb.run
    cases ok2 with
    | true =>
     rw [if_pos rfl] at this
     have := runT_frame hb.seg [] [y] [x] this
     simp only [List.nil_append] at this
     rw [this]
     simp [runT, stepB, ht]
    | false =>
     rw [if_neg (by decide)] at this
     have e : runT h regs hb.seg ([] ++ [x]) = .error 3 := runT_err_frame _ _ _ _ this (by rw [show ([] : List Int).length = 0 from rfl, hb.wk]; simp)
     simp only [List.nil_append] at e
     rw [e]; rfl
 · intro n m
   have hw := walkN_frame _ 0 1 n ha.wk
   rw [Nat.zero_add] at hw
   have hw2 := walkN_frame _ 0 1 (1 + n) hb.wk
   rw [Nat.zero_add] at hw2
   have hw3 : walkN (ha.seg ++ hb.seg) n = some (1 + (1 + n)) := by rw [walkN_app, hw]; exact hw2
   rw [mostN_app _ _ n m _ hw3, mostN_app _ _ n m _ hw, ha.most, hb.most]
   simp only [mostN, ht]
   rw [if_neg (by omega)]
   repeat' split
   all_goals omega
theorem rright_f (a : Int) : r_01_Right.f a = some (inR a) := by
 unfold r_01_Right.f inR
 by_cases h : a ≥ (-2147483648)
 · rw [if_pos h]; simp [h]
 · rw [if_neg h]; simp [h]
theorem rRight_l (h : List S53) (hm : h.length < 4398046511104) (d : Nat) : ∀ (k i : Nat), i ≤ h.length → h.length - i = d → d < k →
 r_02_Right.l0 k h (i : Int) = some ((h.drop i).all okC && decide (0 < h.length) && decide (h.length < 65)) := by
 induction d with
 | zero =>
  intro k i hi hd hk
  obtain ⟨k, rfl⟩ : ∃ m, k = m + 1 := ⟨k - 1, by omega⟩
  simp only [r_02_Right.l0]
  rw [if_neg (by omega), List.drop_of_length_le (by omega)]
  by_cases h0 : (h.length : Int) > 0
  · rw [if_pos h0, decide_eq_true (show 0 < h.length by omega)]
    simp only [List.all_nil, Bool.true_and, Option.some.injEq]
    rw [decide_eq_decide]; omega
  · rw [if_neg h0, decide_eq_false (show ¬ 0 < h.length by omega)]; simp
 | succ d ih =>
  intro k i hi hd hk
  obtain ⟨k, rfl⟩ : ∃ m, k = m + 1 := ⟨k - 1, by omega⟩
  simp only [r_02_Right.l0]
  rw [if_pos (by omega), if_pos (by omega), rright_f, wrN (by omega), drop_cons h z53 i (by omega), ih k (i + 1) (by omega) (by omega) (by omega)]
  rw [show rd_T53 h (i : Int) = h.getD i z53 from rfl]
  simp only [Option.bind_some, List.all_cons, okC]
  generalize h.getD i z53 = c
  cases inR c.f1 <;> cases c.f0 <;> simp
  by_cases e : c.f1 = 0
  · simp [e]
  · simp [e]
theorem rRight_f (k : Nat) (h : List S53) (hm : h.length < 4398046511104) (hk : h.length < k) : r_02_Right.f k h = some (RightB h) := by
 unfold r_02_Right.f RightB
 have := rRight_l h hm h.length k 0 (by omega) (by omega) (by omega)
 rw [show ((0 : Nat) : Int) = 0 from rfl] at this
 rw [this, List.drop_zero]
 congr 1
 rw [Bool.eq_iff_iff]
 simp only [Bool.and_eq_true, decide_eq_true_eq]
 constructor
 · rintro ⟨⟨a, b⟩, c⟩; exact ⟨⟨by omega, by omega⟩, a⟩
 · rintro ⟨⟨a, b⟩, c⟩; exact ⟨⟨c, by omega⟩, by omega⟩
theorem rLive_l (h : List S53) (hm : h.length < 4398046511104) (c : Int) (d : Nat) : ∀ (k i : Nat), i ≤ h.length → h.length - i = d → d < k → (0 ≤ c → (i : Int) ≤ c) →
 r_02_Live.l0 k h c (i : Int) = some (there h c) := by
 induction d with
 | zero =>
  intro k i hi hd hk hc
  obtain ⟨k, rfl⟩ : ∃ m, k = m + 1 := ⟨k - 1, by omega⟩
  simp only [r_02_Live.l0]
  rw [if_neg (by omega)]
  unfold there
  rw [decide_eq_false (by omega)]; rfl
 | succ d ih =>
  intro k i hi hd hk hc
  obtain ⟨k, rfl⟩ : ∃ m, k = m + 1 := ⟨k - 1, by omega⟩
  simp only [r_02_Live.l0]
  rw [if_pos (by omega), wrN (by omega)]
  by_cases e : (i : Int) = c
  · rw [if_pos e, if_pos (by omega)]
    subst e
    unfold there
    rw [decide_eq_true (by omega)]; rfl
  · rw [if_neg e]
    exact ih k (i + 1) (by omega) (by omega) (by omega) (by omega)
theorem rLive_f (k : Nat) (h : List S53) (hm : h.length < 4398046511104) (hk : h.length < k) (c : Int) : r_02_Live.f k h c = some (there h c) := by
 unfold r_02_Live.f
 exact rLive_l h hm c h.length k 0 (by omega) (by omega) (by omega) (by omega)
theorem rGet_f (k : Nat) (h : List S53) (hm : h.length < 4398046511104) (hk : h.length < k) (c : Int) : r_02_Get.f k h c = some (getB h c) := by
 unfold r_02_Get.f getB
 rw [rRight_f k h hm hk, rLive_f k h hm hk]
 simp only [Option.bind_some]
 by_cases hr : RightB h = true
 · rw [if_pos hr, if_pos hr]
   by_cases ht : there h c = true
   · obtain ⟨h0, h1, _⟩ := there_rng ht
     rw [if_pos ht, if_pos ht, if_pos h0, if_pos h1]; rfl
   · rw [if_neg ht, if_neg ht]
 · rw [if_neg hr, if_neg hr]
theorem value_f (t : List S57) (h : List S53) (regs : List Int) (hm : t.length ≤ 12) (hmay : ∀ o ∈ t, mayB o.f0 o.f1 = true) (hr : RightB h = true) (hg : ∀ y ∈ regs, -9223372036854775808 ≤ y ∧ y ≤ 9223372036854775807) : ∀ (n i k : Nat) (s : List S57), i < n → i < t.length → i + 80 < k → need (t.take (i + 1)).reverse 1 = some s →
 ∃ v ok dp, r_07_value.f k (refT t) (i : Int) h regs = some (v, ok) ∧ Nonempty (SegOk t h regs (i + 1) s v ok dp) := by
 obtain ⟨hr1, hr2, hr3⟩ := Right_len hr
 intro n
 induction n with
 | zero => intro i k s hi; omega
 | succ n ih =>
  intro i k s hin hi hk hs
  obtain ⟨k, rfl⟩ : ∃ m, k = m + 1 := ⟨k - 1, by omega⟩
  have hmo : mayB (t.getD i z57).f0 (t.getD i z57).f1 = true := hmay _ (by
   rw [List.getD_eq_getElem?_getD, List.getElem?_eq_getElem (by omega)]; exact List.getElem_mem _)
  simp only [r_07_value.f]
  have hA : (0 : Int) ≤ (i : Int) := by omega
  have hB : (i : Int) < ((refT t).length : Int) := by rw [ref_len]; omega
  rw [if_pos hA, if_pos hB, ref_at t i hi]
  have hseg := @seg_leaf t h regs hr i hi hmo
  by_cases ht : takes (t.getD i z57).f0 = 0
  · have leaf : ∀ v ok, (ok = true → leafB (t.getD i z57) h regs = (v, 0)) → (ok = false → (leafB (t.getD i z57) h regs).2 = 3) → inR v = true → Nonempty (SegOk t h regs (i + 1) s v ok 1) := fun v ok a b c => hseg ht v ok a b c s hs
    clear hseg
    generalize t.getD i z57 = o at *
    have h3 : o.f0 ≤ 3 := by
     rcases may_leaf hmo ht with h | ⟨h, _⟩ | ⟨h, _⟩ <;> omega
    rcases may_leaf hmo ht with h1 | ⟨h2, a, b⟩ | ⟨h2, a, b⟩
    · rw [if_pos (show (cv o).f0 = 1 from h1)]
      refine ⟨_, _, 1, rfl, leaf _ _ (fun _ => ?_) (fun e => by cases e) ?_⟩
      · unfold leafB; rw [if_pos h1]
      · unfold mayB at hmo; rw [if_pos h1] at hmo; exact hmo
    · rw [if_neg (show ¬ (cv o).f0 = 1 by simp only; omega), if_pos (show (cv o).f0 = 2 from h2), rLive_f k h (by omega) (by omega)]
      simp only [Option.bind_some]
      have hl : leafB o h regs = getB h o.f1 := by unfold leafB; rw [if_neg (by omega), if_pos h2]
      by_cases hth : there h o.f1 = true
      · obtain ⟨t1, t2, t3⟩ := there_rng hth
        rw [if_pos hth, if_pos t1, if_pos t2]
        refine ⟨_, _, 1, rfl, leaf _ _ (fun _ => ?_) (fun e => by cases e) ?_⟩
        · rw [hl]; unfold getB; rw [if_pos hr, if_pos hth]; rfl
        · have := hr3 (h.getD o.f1.toNat z53) (by
           rw [List.getD_eq_getElem?_getD, List.getElem?_eq_getElem (by omega)]; exact List.getElem_mem _)
          simp only [okC, Bool.and_eq_true] at this
          exact this.1
      · rw [if_neg hth]
        refine ⟨_, _, 1, rfl, leaf _ _ (fun e => by cases e) (fun _ => ?_) rfl⟩
        rw [hl]; unfold getB; rw [if_pos hr, if_neg hth]
    · rw [if_neg (show ¬ (cv o).f0 = 1 by simp only; omega), if_neg (show ¬ (cv o).f0 = 2 by simp only; omega), if_pos (show (cv o).f0 = 3 from h2)]
      have hl : leafB o h regs = if o.f1 < regs.length then (wrap32 (regs.getD o.f1.toNat 0), 0) else (0, 3) := by unfold leafB; rw [if_neg (by omega), if_neg (by omega)]
      by_cases hlt : o.f1 < regs.length
      · have hb := hg (rd regs o.f1) (by
         unfold rd
         rw [List.getD_eq_getElem?_getD, List.getElem?_eq_getElem (by omega)]; exact List.getElem_mem _)
        rw [if_neg (show ¬ (cv o).f1 ≥ (regs.length : Int) by simp only; omega), if_pos a, if_pos hlt, show (cv o).f1 = o.f1 from rfl, rwrap_f hb.1 hb.2]
        simp only [Option.bind_some]
        refine ⟨_, _, 1, rfl, leaf _ _ (fun _ => ?_) (fun e => by cases e) (inR_w32 _)⟩
        rw [hl, if_pos hlt]; rfl
      · rw [if_pos (show (cv o).f1 ≥ (regs.length : Int) by simp only; omega)]
        refine ⟨_, _, 1, rfl, leaf _ _ (fun e => by cases e) (fun _ => ?_) rfl⟩
        rw [hl, if_neg hlt]
  · clear hseg
    have hn : ∀ c, need (t.take i).reverse (c + 1) ≠ none → 0 < i := by
     intro c hc
     apply Nat.pos_of_ne_zero
     intro e; rw [e] at hc; exact hc rfl
    rw [take_rev t i hi] at hs
    simp only [need, Nat.zero_add] at hs
    have snot := @seg_not t h regs i hi
    have stwo := @seg_two t h regs i hi
    have hof : (t.getD i z57).f0 = 11 ∧ takes (t.getD i z57).f0 = 1 ∨ 4 ≤ (t.getD i z57).f0 ∧ (t.getD i z57).f0 ≤ 10 ∧ takes (t.getD i z57).f0 = 2 := by
     unfold takes at ht ⊢
     split at ht
     · rename_i q; rw [if_pos q]; exact .inr ⟨q.1, q.2, rfl⟩
     · split at ht
       · rename_i p q; rw [if_neg p, if_pos q]; exact .inl ⟨q, rfl⟩
       · simp at ht
    generalize t.getD i z57 = o at *
    rcases hof with ⟨h11, ht1⟩ | ⟨h4, h10, ht2⟩
    · rw [ht1] at hs
      have hi0 := hn 0 (by rw [hs]; simp)
      obtain ⟨i', rfl⟩ : ∃ m, i = m + 1 := ⟨i - 1, by omega⟩
      obtain ⟨v, ok, dp, e1, ⟨sg⟩⟩ := ih i' k s (by omega) (by omega) (by omega) hs
      have ew : wrap64 (((i' + 1 : Nat) : Int) - 1) = (i' : Int) := by rw [wr (by omega) (by omega)]; omega
      rw [if_neg (show ¬ (cv o).f0 = 1 by simp only; omega), if_neg (show ¬ (cv o).f0 = 2 by simp only; omega), if_neg (show ¬ (cv o).f0 = 3 by simp only; omega), ew, e1]
      simp only [Option.bind_some]
      rw [if_pos (show (cv o).f0 = 11 from h11), rtruth_f]
      simp only [Option.bind_some]
      exact ⟨_, _, dp, rfl, snot ht1 sg⟩
    · rw [ht2, show (2 : Nat) = 1 + 1 from rfl, need_add] at hs
      cases hn1 : need (t.take i).reverse 1 with
      | none => rw [hn1] at hs; simp at hs
      | some s1 =>
       rw [hn1] at hs
       simp only [Option.bind_some] at hs
       have hi0 := hn 0 (by rw [hn1]; simp)
       obtain ⟨i', rfl⟩ : ∃ m, i = m + 1 := ⟨i - 1, by omega⟩
       obtain ⟨y, ok2, d2, e1, ⟨sb⟩⟩ := ih i' k s1 (by omega) (by omega) (by omega) hn1
       obtain ⟨q1, q2⟩ := need_take (by omega) hn1
       rw [q1] at hs
       have hs0 : 0 < s1.length := by
        apply Nat.pos_of_ne_zero
        intro e; rw [e] at hs; simp [need] at hs
       obtain ⟨j, hj⟩ : ∃ m, s1.length = m + 1 := ⟨s1.length - 1, by omega⟩
       rw [hj] at hs
       obtain ⟨x, ok1, d1, e3, ⟨sa⟩⟩ := ih j k s (by omega) (by omega) (by omega) hs
       have ew : wrap64 (((i' + 1 : Nat) : Int) - 1) = (i' : Int) := by rw [wr (by omega) (by omega)]; omega
       have es : r_07_start.f k (refT t) (i' : Int) = some (s1.length : Int) := by
        have := start_f t hm hmay (i' + 1) (i' + 1) k (by omega) (by omega) (by omega)
        rw [show (((i' + 1 : Nat) : Int) - 1) = (i' : Int) from by omega] at this
        rw [this]; unfold startI; rw [hn1]
       have ew2 : wrap64 ((s1.length : Int) - 1) = (j : Int) := by rw [wr (by omega) (by omega)]; omega
       rw [if_neg (show ¬ (cv o).f0 = 1 by simp only; omega), if_neg (show ¬ (cv o).f0 = 2 by simp only; omega), if_neg (show ¬ (cv o).f0 = 3 by simp only; omega), ew, e1]
       simp only [Option.bind_some]
       rw [if_neg (show ¬ (cv o).f0 = 11 by simp only; omega), es]
       simp only [Option.bind_some]
       rw [ew2, e3]
       simp only [Option.bind_some]
       rw [both_f _ x y sa.rng sb.rng]
       simp only [Option.bind_some]
       have l2 := sb.le
       have l2' : sb.seg.length ≤ 12 := by
        have := congrArg List.length sb.eq
        simp at this; omega
       refine ⟨twoB o.f0 x y, ok2 && ok1, (if d1 < d2 + 1 then d2 + 1 else d1 : Nat), ?_, ?_⟩
       · cases ok2 <;> rfl
       · have sb' := sb
         exact stwo (s1 := s1) ht2 sb' (by rw [hj]; exact sa)
theorem rEval_f (k : Nat) (t : List S57) (h : List S53) (regs : List Int) (hk : 110 ≤ k) (hh : h.length < 4398046511104) (hk2 : h.length < k) (hg : ∀ y ∈ regs, -9223372036854775808 ≤ y ∧ y ≤ 9223372036854775807) : r_07_Eval.f k (refT t) h regs = some (evalB t h regs) := by
 unfold r_07_Eval.f evalB
 rw [rCheck_f k t (by omega), rRight_f k h hh hk2]
 simp only [Option.bind_some]
 by_cases h1 : checkB t = 0
 · rw [if_pos h1, if_pos h1]
   by_cases h2 : RightB h = true
   · rw [if_pos h2, if_pos h2]
     obtain ⟨c1, c2, c3, c4⟩ := checkB_ok h1
     obtain ⟨j, hj⟩ : ∃ m, t.length = m + 1 := ⟨t.length - 1, by omega⟩
     have ew : wrap64 (((refT t).length : Int) - 1) = (j : Int) := by rw [ref_len, wr (by omega) (by omega)]; omega
     have hn : need (t.take (j + 1)).reverse 1 = some [] := by
      rw [← hj, List.take_of_length_le (by omega)]; exact (walk_need t 1).1 c4
     obtain ⟨v, ok, dp, e1, ⟨sg⟩⟩ := value_f t h regs c2 c3 h2 hg (j + 1) j k [] (by omega) (by omega) (by omega) hn
     rw [ew, e1]
     simp only [Option.bind_some]
     have hseg : sg.seg = t := by
      have := sg.eq
      rw [List.take_of_length_le (show t.length ≤ j + 1 by omega)] at this
      simpa using this.symm
     have hrun := sg.run
     rw [hseg] at hrun
     rw [hrun]
     cases ok <;> rfl
   · rw [if_neg h2, if_neg h2]
 · rw [if_neg h1, if_neg h1]
end Go.Proofs.YtncloefpjeolaaaGreat.Zw
namespace Go.Proofs.YtncloefpjeolaaaGreat.Zw
open Go.RowKit Go.Proofs.YtncloefpjeolaaaGreatW.PrintWords Go.Proofs.YtncloefpjeolaaaGreatW.PrintLast Go.Proofs.YtncloefpjeolaaaGreatW.PrintMore Go.Proofs.YtncloefpjeolaaaGreat.Ho
set_option linter.unusedVariables false
set_option linter.unusedSimpArgs false
/-! ### the document on who sleeps -/
theorem rtick4 (a : Int) : r_04_Right.f a = some (tickB a) := by
 unfold r_04_Right.f tickB
 by_cases h : a ≥ 0
 · rw [if_pos h]; congr 1; rw [decide_eq_decide]; omega
 · rw [if_neg h]; congr 1; symm; rw [decide_eq_false_iff_not]; omega
theorem rright1 (a : Int) : r_01_Right.f a = some (inR a) := by
 unfold r_01_Right.f inR
 by_cases h : a ≥ -2147483648
 · rw [if_pos h]; congr 1; rw [decide_eq_decide]; omega
 · rw [if_neg h]; congr 1; symm; rw [decide_eq_false_iff_not]; omega
theorem rOne_l2 (cs : List Int) (a b c : Int) (w : List Wr) (t : List ROp) (hl : cs.length = w.length) (hm : w.length < 4398046511104) (d : Nat) : ∀ (k i : Nat), i ≤ w.length → w.length - i = d → d < k →
 r_15_One.l2 k cs (i : Int) a b c w t = some (decide (((w.drop i).map fun x => x.f0) = cs.drop i)) := by
 induction d with
 | zero =>
  intro k i hi hd hk
  obtain ⟨k, rfl⟩ : ∃ m, k = m + 1 := ⟨k - 1, by omega⟩
  simp only [r_15_One.l2]
  rw [if_neg (by omega), List.drop_of_length_le (by omega), List.drop_of_length_le (by omega)]; rfl
 | succ d ih =>
  intro k i hi hd hk
  obtain ⟨k, rfl⟩ : ∃ m, k = m + 1 := ⟨k - 1, by omega⟩
  simp only [r_15_One.l2]
  rw [if_pos (by omega), if_pos (by omega), if_pos (by omega), wrN (by omega), ih k (i + 1) (by omega) (by omega) (by omega), drop_cons cs 0 i (by omega), drop_cons w z55 i (by omega), show rd cs (i : Int) = cs.getD i 0 from rfl, show rd_T55 w (i : Int) = w.getD i z55 from rfl, List.map_cons]
  by_cases e : cs.getD i 0 = (w.getD i z55).f0
  · rw [if_pos e, e]; congr 1; rw [decide_eq_decide]; simp
  · rw [if_neg e]; congr 1; symm; rw [decide_eq_false_iff_not]; intro h; injection h with h _; exact e h.symm
theorem rOne_l1 (a b c : Int) (w : List Wr) (t : List TOp) (hw : w.length ≤ 1000) (ht : checkB t = 0) (d : Nat) : ∀ (k i : Nat), i ≤ t.length → t.length - i = d → d + 1500 < k →
 r_15_One.l1 k (i : Int) a b c w (refT t) = some (if ((t.drop i).any fun o => o.f0 == 3) = true then false else decide ((w.map fun x => x.f0) = cellsB t)) := by
 have ht12 := (checkB_ok ht).2.1
 induction d with
 | zero =>
  intro k i hi hd hk
  obtain ⟨k, rfl⟩ : ∃ m, k = m + 1 := ⟨k - 1, by omega⟩
  simp only [r_15_One.l1]
  rw [if_neg (by rw [ref_len]; omega), rCells_f k t (by omega), ← cells_same, Option.bind_some, List.drop_of_length_le (by omega), List.any_nil, if_neg (show ¬ (false = true) by decide)]
  by_cases hl : ((cellsB t).length : Int) = (w.length : Int)
  · have := rOne_l2 (cellsB t) a b c w (refT t) (by omega) (by omega) w.length k 0 (by omega) (by omega) (by omega)
    rw [if_pos hl]
    exact this
  · rw [if_neg hl, decide_eq_false]
    intro g
    apply hl
    rw [← g, List.length_map]
 | succ d ih =>
  intro k i hi hd hk
  obtain ⟨k, rfl⟩ : ∃ m, k = m + 1 := ⟨k - 1, by omega⟩
  simp only [r_15_One.l1]
  rw [if_pos (by rw [ref_len]; omega), if_pos (by omega), ref_at t i (by omega), wrN (by omega), ih k (i + 1) (by omega) (by omega) (by omega), drop_cons t z57 i (by omega), List.any_cons]
  generalize t.getD i z57 = o
  by_cases h : o.f0 = 3
  · rw [if_pos (show (cv o).f0 = 3 from h), if_pos (by rw [h]; rfl)]
  · rw [if_neg (show ¬ (cv o).f0 = 3 from h), show (o.f0 == 3) = false from beq_eq_false_iff_ne.2 h, Bool.false_or]
def modeV (b : Int) (w : List Wr) (t : List TOp) : Bool := if b = 3 then (if checkB t = 0 then (if (t.any fun o => o.f0 == 3) = true then false else decide ((w.map fun x => x.f0) = cellsB t)) else false) else if b = 1 then t.length == 0 else if b = 2 then t.length == 0 else false
theorem rOne_l0 (a b c : Int) (w : List Wr) (t : List TOp) (hw : w.length ≤ 24) (d : Nat) : ∀ (k i : Nat), i ≤ w.length → w.length - i = d → 2 * d + 1600 < k → (∀ j, j < i → okW w j) →
 r_15_One.l0 k (i : Int) a b c w (refT t) = some (watchB w && modeV b w t) := by
 induction d with
 | zero =>
  intro k i hi hd hk h
  obtain ⟨k, rfl⟩ : ∃ m, k = m + 3 := ⟨k - 3, by omega⟩
  have e : watchB w = true := (watchB_iff w).2 ⟨hw, fun j hj => h j (by omega)⟩
  have el : (((refT t).length : Int) == 0) = (t.length == 0) := by
   rw [ref_len, Bool.eq_iff_iff, beq_iff_eq, beq_iff_eq]; omega
  rw [e, Bool.true_and]
  unfold modeV
  simp only [r_15_One.l0]
  rw [if_neg (by omega)]
  by_cases m1 : b = 1
  · rw [if_pos m1, if_neg (show ¬ b = 3 by omega), if_pos m1]
    simp only [r_15_One.j3]
    rw [if_pos trivial, el]
  rw [if_neg m1]
  by_cases m2 : b = 2
  · rw [if_neg (show ¬ b = 3 by omega), if_neg m1, if_pos m2, show (b == 2) = true from beq_iff_eq.2 m2]
    simp only [r_15_One.j3]
    rw [if_pos trivial, el]
  rw [show (b == 2) = false from beq_eq_false_iff_ne.2 m2]
  simp only [r_15_One.j3]
  rw [if_neg (by decide)]
  by_cases m3 : b = 3
  · rw [if_pos m3, if_pos m3, rCheck_f _ t (by omega), Option.bind_some]
    simp only [r_15_One.j4]
    by_cases hc : checkB t = 0
    · rw [if_pos hc, if_neg (by rw [hc]; decide)]
      have := rOne_l1 a b c w t (by omega) hc t.length k 0 (by omega) (by omega) (by have := (checkB_ok hc).2.1; omega)
      exact this
    · rw [if_neg hc, if_pos (bne_iff_ne.2 hc)]
  · rw [if_neg m3, if_neg m3, if_neg m1, if_neg m2]
    simp only [r_15_One.j4]
    rw [if_pos trivial]
 | succ d ih =>
  intro k i hi hd hk h
  obtain ⟨k, rfl⟩ : ∃ m, k = m + 2 := ⟨k - 2, by omega⟩
  have no : ¬ okW w i → some false = some (watchB w && modeV b w t) := fun g => by
   unfold watchB
   rw [decide_eq_false (fun e => g (e.2 i (by omega)))]; rfl
  have yes : okW w i → r_15_One.l0 k ((i + 1 : Nat) : Int) a b c w (refT t) = some (watchB w && modeV b w t) := fun g => by
   refine ih k (i + 1) (by omega) (by omega) (by omega) fun j hj => ?_
   by_cases ej : j = i
   · rw [ej]; exact g
   · exact h j (by omega)
  have bad : ¬ okW w i → r_15_One.j2 (k + 1) (i : Int) true a b c w (refT t) = some (watchB w && modeV b w t) := fun g => by
   simp only [r_15_One.j2]
   rw [if_pos trivial]; exact no g
  simp only [r_15_One.l0]
  rw [if_pos (by omega), if_pos (by omega), rright1, Option.bind_some, show rd_T55 w (i : Int) = w.getD i z55 from rfl]
  by_cases a2 : inR (w.getD i z55).f1 = true
  · rw [if_pos a2]
    by_cases a0 : (w.getD i z55).f0 < 0
    · rw [if_pos a0]; exact bad fun g => by have := g.1.1; omega
    rw [if_neg a0]
    by_cases a1 : (w.getD i z55).f0 > 63
    · rw [decide_eq_true a1]; exact bad fun g => by have := g.1.2; omega
    rw [decide_eq_false a1]
    simp only [r_15_One.j2]
    rw [if_neg (by decide), wrN (by omega)]
    by_cases hz : i = 0
    · rw [if_neg (by omega)]
      exact yes ⟨⟨by omega, by omega⟩, a2, fun g => by omega⟩
    · have ew : wrap64 ((i : Int) - 1) = ((i - 1 : Nat) : Int) := by rw [wr (by omega) (by omega)]; omega
      rw [if_pos (by omega), if_pos (by omega), if_pos (by omega), ew, if_pos (by omega), if_pos (by omega), show rd_T55 w (i : Int) = w.getD i z55 from rfl, show rd_T55 w ((i - 1 : Nat) : Int) = w.getD (i - 1) z55 from rfl]
      by_cases a4 : (w.getD i z55).f0 ≤ (w.getD (i - 1) z55).f0
      · rw [if_pos a4]; exact no fun g => by have := g.2.2 (by omega); omega
      · rw [if_neg a4]; exact yes ⟨⟨by omega, by omega⟩, a2, fun _ => by omega⟩
  · rw [if_neg a2]; exact bad fun g => a2 g.2.1
theorem rOne_f (k : Nat) (s : Sp) (hw : s.f3.length ≤ 1000) (hk : 1700 < k) : r_15_One.f k s.f0 s.f1 s.f2 s.f3 (s.f4.map refO) = some (maySp s) := by
 obtain ⟨k, rfl⟩ : ∃ m, k = m + 1 := ⟨k - 1, by omega⟩
 obtain ⟨who, mode, til, w, t⟩ := s
 have hw' : w.length ≤ 1000 := hw
 have em : maySp ⟨who, mode, til, w, t⟩ = (decide (1 ≤ who ∧ who ≤ 8) && (tickB til && (watchB w && modeV mode w t))) := rfl
 rw [em]
 show r_15_One.f (k + 1) who mode til w (refT t) = _
 unfold r_15_One.f
 have bad : r_15_One.j0 (k + 1) true who mode til w (refT t) = some false := by
  simp only [r_15_One.j0]; rw [if_pos trivial]
 rw [rtick4, Option.bind_some]
 by_cases h3 : tickB til = true
 · rw [if_pos h3, h3, Bool.true_and]
   by_cases h1 : who < 1
   · rw [if_pos h1, bad, decide_eq_false (show ¬ (1 ≤ who ∧ who ≤ 8) by omega)]; rfl
   rw [if_neg h1]
   by_cases h2 : who > 8
   · rw [if_pos h2, bad, decide_eq_false (show ¬ (1 ≤ who ∧ who ≤ 8) by omega)]; rfl
   rw [if_neg h2, decide_eq_true (show 1 ≤ who ∧ who ≤ 8 by omega), Bool.true_and]
   by_cases h24 : (w.length : Int) > 24
   · rw [decide_eq_true h24, bad]
     have : watchB w = false := Bool.eq_false_iff.2 fun g => by have := ((watchB_iff w).1 g).1; omega
     rw [this]; rfl
   · rw [decide_eq_false h24]
     simp only [r_15_One.j0]
     rw [if_neg (by decide)]
     exact rOne_l0 who mode til w t (by omega) w.length k 0 (by omega) (by omega) (by omega) (fun j hj => by omega)
 · rw [if_neg h3, bad, Bool.eq_false_iff.2 h3, Bool.false_and, Bool.and_false]
theorem mapS_at (l : List Sp) (i : Nat) (hi : i < l.length) : rd_T44 (l.map refSp) (i : Int) = refSp (l.getD i z26) := by
 unfold rd_T44
 rw [List.getD_eq_getElem?_getD, List.getD_eq_getElem?_getD, List.getElem?_map]
 simp [List.getElem?_eq_getElem hi]
theorem rRightS_l (l : List Sp) (hm : l.length < 4398046511104) (hw : ∀ x ∈ l, x.f3.length ≤ 1000) (d : Nat) : ∀ (k i : Nat), i ≤ l.length → l.length - i = d → d + 1800 < k → (∀ x ∈ l.take i, maySp x = true) → (l.take i).Pairwise Lt →
 r_15_Right.l0 k (l.map refSp) (i : Int) = some (rightS l) := by
 induction d with
 | zero =>
  intro k i hi hd hk h1 h2
  obtain ⟨k, rfl⟩ : ∃ m, k = m + 1 := ⟨k - 1, by omega⟩
  rw [List.take_of_length_le (by omega)] at h1 h2
  simp only [r_15_Right.l0]
  rw [if_neg (by rw [List.length_map]; omega), (rightS_iff l).2 ⟨h1, h2⟩]
 | succ d ih =>
  intro k i hi hd hk h1 h2
  obtain ⟨k, rfl⟩ : ∃ m, k = m + 1 := ⟨k - 1, by omega⟩
  have hmem := getD_in l z26 i (by omega)
  have hs := take_snG l z26 i (by omega)
  have yes : maySp (l.getD i z26) = true → (∀ x ∈ l.take i, Lt x (l.getD i z26)) → r_15_Right.l0 k (l.map refSp) ((i + 1 : Nat) : Int) = some (rightS l) := fun g1 g2 => by
   refine ih k (i + 1) (by omega) (by omega) (by omega) (fun x hx => ?_) ?_
   · rw [hs] at hx
     rcases List.mem_append.1 hx with hx | hx
     · exact h1 x hx
     · rw [List.mem_singleton.1 hx]; exact g1
   · rw [hs, List.pairwise_append]
     exact ⟨h2, List.pairwise_singleton _ _, fun x hx y hy => by rw [List.mem_singleton.1 hy]; exact g2 x hx⟩
  have h1' := rOne_f k (l.getD i z26) (hw _ hmem) (by omega)
  simp only [r_15_Right.l0]
  rw [if_pos (by rw [List.length_map]; omega), if_pos (by omega), mapS_at l i (by omega), wrN (by omega)]
  rw [show r_15_One.f k (refSp (l.getD i z26)).f0 (refSp (l.getD i z26)).f1 (refSp (l.getD i z26)).f2 (refSp (l.getD i z26)).f3 (refSp (l.getD i z26)).f4 = _ from h1', Option.bind_some]
  by_cases a1 : maySp (l.getD i z26) = true
  · rw [if_pos a1]
    by_cases hz : i = 0
    · rw [if_neg (by omega)]
      exact yes a1 (fun x hx => by rw [hz] at hx; simp at hx)
    · have ew : wrap64 ((i : Int) - 1) = ((i - 1 : Nat) : Int) := by rw [wr (by omega) (by omega)]; omega
      rw [if_pos (by omega), ew, if_pos (by omega), if_pos (by rw [List.length_map]; omega), mapS_at l (i - 1) (by omega)]
      by_cases a4 : (l.getD i z26).f0 ≤ (l.getD (i - 1) z26).f0
      · rw [if_pos (show (refSp (l.getD i z26)).f0 ≤ (refSp (l.getD (i - 1) z26)).f0 from a4), rightS_no]
        intro g
        have := lt_at g.2 (i - 1) i (by omega) (by omega)
        omega
      · rw [if_neg (show ¬ (refSp (l.getD i z26)).f0 ≤ (refSp (l.getD (i - 1) z26)).f0 from a4)]
        refine yes a1 fun x hx => ?_
        obtain ⟨m, hm', rfl⟩ := mem_takeG l z26 i x (by omega) hx
        by_cases e : m = i - 1
        · rw [e]; show _ < _; omega
        · have hlt : (l.getD m z26).f0 < (l.getD (i - 1) z26).f0 := by
           have := lt_at h2 m (i - 1) (by omega) (by rw [List.length_take]; omega)
           have tk : ∀ q, q < i → (l.take i).getD q z26 = l.getD q z26 := fun q hq => by
            rw [List.getD_eq_getElem?_getD, List.getD_eq_getElem?_getD, List.getElem?_take, if_pos hq]
           rwa [tk m hm', tk (i - 1) (by omega)] at this
          show _ < _
          omega
  · rw [if_neg a1, rightS_no]
    intro g
    exact a1 (g.1 _ hmem)
theorem rRightS_f (k : Nat) (l : List Sp) (hl : FewS l) (hk : 1900 < k) : r_15_Right.f k (l.map refSp) = some (rightS l) := by
 have := hl.1
 unfold r_15_Right.f
 exact rRightS_l l (by omega) (fun x hx => by have := (hl.2 x hx).1; omega) l.length k 0 (by omega) (by omega) (by omega) (by simp) (by simp)
theorem rFindS_l (l : List Sp) (w : Int) (hm : l.length < 4398046511104) (d : Nat) : ∀ (k i : Nat), i ≤ l.length → l.length - i = d → d < k → r_15_Find.l0 k (l.map refSp) w (i : Int) = some (idxT (fun s => s.f0 == w) (l.drop i) (i : Int)) := by
 induction d with
 | zero =>
  intro k i hi hd hk
  obtain ⟨k, rfl⟩ : ∃ m, k = m + 1 := ⟨k - 1, by omega⟩
  simp only [r_15_Find.l0]
  rw [if_neg (by rw [List.length_map]; omega), List.drop_of_length_le (by omega)]; rfl
 | succ d ih =>
  intro k i hi hd hk
  obtain ⟨k, rfl⟩ : ∃ m, k = m + 1 := ⟨k - 1, by omega⟩
  simp only [r_15_Find.l0]
  rw [if_pos (by rw [List.length_map]; omega), if_pos (by omega), mapS_at l i (by omega), wrN (by omega), drop_cons l z26 i (by omega), ih k (i + 1) (by omega) (by omega) (by omega)]
  generalize l.getD i z26 = s
  by_cases e : s.f0 = w
  · rw [if_pos (show (refSp s).f0 = w from e), idxT_yes (by simpa using e)]
  · rw [if_neg (show ¬ (refSp s).f0 = w from e), idxT_no (by simpa using e)]; rfl
theorem rFindS_f (k : Nat) (l : List Sp) (w : Int) (hm : l.length ≤ 1000) (hk : 1000 < k) : r_15_Find.f k (l.map refSp) w = some (idxT (fun s => s.f0 == w) l 0) := by
 unfold r_15_Find.f
 exact rFindS_l l w (by omega) l.length k 0 (by omega) (by omega) (by omega)
/-! ### one more, as both do it -/
def addS (l : List Sp) (s : Sp) : List Sp × Int := if rightS l = true ∧ maySp s = true then (if (l.any fun x => x.f0 == s.f0) = true then (l, 9) else ((l.filter fun x => decide (x.f0 < s.f0)) ++ [s] ++ (l.filter fun x => !decide (x.f0 < s.f0)), 0)) else (l, 1)
theorem cut_filter {l : List Sp} {v : Int} {c : Nat} (hc : Cut l v c) : (l.filter fun x => decide (x.f0 < v)) = l.take c ∧ (l.filter fun x => !decide (x.f0 < v)) = l.drop c := by
 obtain ⟨h1, h2, h3⟩ := hc
 have hlo : ∀ x ∈ l.take c, x.f0 < v := fun x hx => by
  obtain ⟨m, hm, rfl⟩ := mem_takeG l z26 c x h1 hx
  exact h2 m hm
 have hhi : ∀ x ∈ l.drop c, ¬ x.f0 < v := fun x hx => by
  obtain ⟨m, hm, rfl⟩ := List.mem_iff_getElem.1 hx
  rw [List.length_drop] at hm
  have a := h3 (c + m) (by omega) (by omega)
  rw [List.getElem_drop]
  rw [List.getD_eq_getElem?_getD, List.getElem?_eq_getElem (by omega)] at a
  have a' : v ≤ l[c + m].f0 := a
  omega
 have e1 : ((l.take c).filter fun x => decide (x.f0 < v)) = l.take c := List.filter_eq_self.2 fun x hx => decide_eq_true (hlo x hx)
 have e2 : ((l.drop c).filter fun x => decide (x.f0 < v)) = [] := List.filter_eq_nil_iff.2 fun x hx => by rw [decide_eq_true_eq]; exact hhi x hx
 have e3 : ((l.take c).filter fun x => !decide (x.f0 < v)) = [] := List.filter_eq_nil_iff.2 fun x hx => by rw [decide_eq_true (hlo x hx)]; decide
 have e4 : ((l.drop c).filter fun x => !decide (x.f0 < v)) = l.drop c := List.filter_eq_self.2 fun x hx => by rw [decide_eq_false (hhi x hx)]; rfl
 constructor
 · conv => lhs; rw [← List.take_append_drop c l]
   rw [List.filter_append, e1, e2, List.append_nil]
 · conv => lhs; rw [← List.take_append_drop c l]
   rw [List.filter_append, e3, e4, List.nil_append]
theorem AddS_f (k : Nat) (l : List Sp) (s : Sp) (hl : FewS l) (hs : s.f3.length ≤ 40) (hk : 1400 < k) : sleep_Add.f k l s.f0 s.f1 s.f2 s.f3 s.f4 = some (addS l s) := by
 obtain ⟨k, rfl⟩ : ∃ m, k = m + 1 := ⟨k - 1, by omega⟩
 have hlen := hl.1
 unfold sleep_Add.f addS
 rw [RightF_f _ l hl (by omega), Option.bind_some]
 have bad : sleep_Add.j0 (k + 1) l true s.f0 s.f1 s.f2 s.f3 s.f4 = some (l, 1) := by
  simp only [sleep_Add.j0]; rw [if_pos trivial]
 by_cases hr : rightS l = true
 · have hR := (rightS_iff l).1 hr
   rw [if_pos hr, maySp_f _ s (by omega) (by omega), Option.bind_some]
   by_cases hm : maySp s = true
   · rw [show (!maySp s) = false by rw [hm]; rfl, if_pos ⟨hr, hm⟩]
     simp only [sleep_Add.j0]
     rw [if_neg (show ¬ false = true by decide)]
     by_cases ht : (l.any fun x => x.f0 == s.f0) = true
     · rw [if_pos ht]
       obtain ⟨x, hx, ex⟩ := List.any_eq_true.1 ht
       obtain ⟨i, hi, rfl⟩ := mem_idx hx
       have ex' : (l.getD i z26).f0 = s.f0 := by simpa using ex
       rw [← ex', place_yes k (by omega) hR.2 (by omega) hi, Option.bind_some, if_pos rfl]
     · rw [if_neg ht]
       have hno : ∀ x ∈ l, x.f0 ≠ s.f0 := fun x hx e => ht (List.any_eq_true.2 ⟨x, hx, by simpa using e⟩)
       obtain ⟨c, hc, e⟩ := place_no k (by omega) hR.2 (by omega) hno
       have hcl := hc.1
       obtain ⟨f1, f2⟩ := cut_filter hc
       rw [f1, f2, e, Option.bind_some, if_neg (show ¬ false = true by decide), CloneS_f l (by omega), Option.bind_some, Option.bind_some, if_pos (by omega), if_pos (by omega), if_pos (by simp; omega)]
       rfl
   · rw [show (!maySp s) = true by rw [Bool.eq_false_iff.2 hm]; rfl, if_neg (fun g => hm g.2)]
     exact bad
 · rw [if_neg hr, if_neg (fun g => hr g.1)]
   exact bad
theorem rAdd_l (l : List Sp) (s : Sp) (hl : l.length ≤ 1000) (d : Nat) : ∀ (k i : Nat), i ≤ l.length → l.length - i = d → d < k →
 r_15_Add.l0 k (l.map refSp) (((l.take i).filter fun x => decide (x.f0 < s.f0)).map refSp) (((l.take i).filter fun x => !decide (x.f0 < s.f0)).map refSp) (i : Int) s.f0 s.f1 s.f2 s.f3 (s.f4.map refO) = some (((l.filter fun x => decide (x.f0 < s.f0)) ++ [s] ++ (l.filter fun x => !decide (x.f0 < s.f0))).map refSp, 0) := by
 have f1 : ∀ (p : Sp → Bool) (i : Nat), ((l.take i).filter p).length ≤ 1000 := fun p i => Nat.le_trans (List.length_filter_le _ _) (by rw [List.length_take]; omega)
 have f2 : ∀ (p : Sp → Bool), (l.filter p).length ≤ 1000 := fun p => Nat.le_trans (List.length_filter_le _ _) hl
 induction d with
 | zero =>
  intro k i hi hd hk
  obtain ⟨k, rfl⟩ : ∃ m, k = m + 1 := ⟨k - 1, by omega⟩
  rw [List.take_of_length_le (by omega)]
  have g1 := f2 fun x => decide (x.f0 < s.f0)
  have g2 := f2 fun x => !decide (x.f0 < s.f0)
  simp only [r_15_Add.l0]
  rw [if_neg (by rw [List.length_map]; omega), if_pos (by rw [List.length_map]; omega), Option.bind_some, if_pos (by rw [List.length_append, List.length_map, List.length_map, List.length_singleton]; omega), List.map_append, List.map_append]
  rfl
 | succ d ih =>
  intro k i hi hd hk
  obtain ⟨k, rfl⟩ : ∃ m, k = m + 1 := ⟨k - 1, by omega⟩
  have next := ih k (i + 1) (by omega) (by omega) (by omega)
  rw [take_snG l z26 i (by omega), List.filter_append, List.filter_append, List.map_append, List.map_append] at next
  have g1 := f1 (fun x => decide (x.f0 < s.f0)) i
  have g2 := f1 (fun x => !decide (x.f0 < s.f0)) i
  simp only [r_15_Add.l0]
  rw [if_pos (by rw [List.length_map]; omega), if_pos (by omega), mapS_at l i (by omega), wrN (by omega)]
  generalize l.getD i z26 = x at *
  by_cases h : x.f0 < s.f0
  · rw [if_pos (show (refSp x).f0 < s.f0 from h), if_pos (by rw [List.length_map]; omega)]
    rw [List.filter_cons, if_pos (decide_eq_true h), List.filter_cons, if_neg (by rw [decide_eq_true h]; decide), List.filter_nil, List.filter_nil, List.map_nil, List.append_nil] at next
    exact next
  · rw [if_neg (show ¬ (refSp x).f0 < s.f0 from h), if_pos (by rw [List.length_map]; omega)]
    rw [List.filter_cons, if_neg (by rw [decide_eq_false h]; decide), List.filter_cons, if_pos (by rw [decide_eq_false h]; rfl), List.filter_nil, List.filter_nil, List.map_nil, List.append_nil] at next
    exact next
theorem rAddS_f (k : Nat) (l : List Sp) (s : Sp) (hl : FewS l) (hs : s.f3.length ≤ 40) (hk : 2000 < k) : r_15_Add.f k (l.map refSp) s.f0 s.f1 s.f2 s.f3 (s.f4.map refO) = some ((addS l s).1.map refSp, (addS l s).2) := by
 obtain ⟨k, rfl⟩ : ∃ m, k = m + 1 := ⟨k - 1, by omega⟩
 have hlen := hl.1
 unfold r_15_Add.f addS
 rw [rRightS_f _ l hl (by omega), Option.bind_some, rOne_f _ s (by omega) (by omega), Option.bind_some]
 have bad : r_15_Add.j0 (k + 1) (l.map refSp) true s.f0 s.f1 s.f2 s.f3 (s.f4.map refO) = some (l.map refSp, 1) := by
  simp only [r_15_Add.j0]; rw [if_pos trivial]
 by_cases hr : rightS l = true
 · rw [if_pos hr]
   by_cases hm : maySp s = true
   · rw [show (!maySp s) = false by rw [hm]; rfl, if_pos ⟨hr, hm⟩]
     simp only [r_15_Add.j0]
     rw [if_neg (show ¬ false = true by decide), rFindS_f k l s.f0 (by omega) (by omega), Option.bind_some]
     rcases idxT_cases (fun x : Sp => x.f0 == s.f0) z26 l 0 with ⟨h1, h2⟩ | ⟨j, hj, h1, h2, _⟩
     · rw [h1, if_neg (by decide), if_neg (by rw [List.any_eq_true]; rintro ⟨x, hx, ex⟩; rw [h2 x hx] at ex; exact absurd ex (by decide))]
       have := rAdd_l l s (by omega) l.length k 0 (by omega) (by omega) (by omega)
       exact this
     · rw [h1, if_pos (by omega), if_pos (List.any_eq_true.2 ⟨_, getD_in l z26 j hj, h2⟩)]
   · rw [show (!maySp s) = true by rw [Bool.eq_false_iff.2 hm]; rfl, if_neg (fun g => hm g.2)]
     exact bad
 · rw [if_neg hr, if_neg (fun g => hr g.1)]
   exact bad
theorem len_filter {α : Type} (p : α → Bool) : ∀ l : List α, (l.filter p).length + (l.filter fun x => !p x).length = l.length
 | [] => rfl
 | y :: l => by
  have := len_filter p l
  rw [List.filter_cons, List.filter_cons]
  by_cases h : p y = true
  · rw [if_pos h, if_neg (by rw [h]; decide), List.length_cons, List.length_cons]; omega
  · rw [if_neg h, if_pos (by rw [Bool.eq_false_iff.2 h]; rfl), List.length_cons, List.length_cons]; omega
theorem addS_few {l : List Sp} {s : Sp} (hl : FewS l) (h20 : l.length ≤ 20) (hs : s.f3.length ≤ 40 ∧ s.f4.length ≤ 20) : FewS (addS l s).1 := by
 unfold addS
 split
 · split
   · exact hl
   · refine ⟨?_, fun x hx => ?_⟩
     · have c := len_filter (fun x : Sp => decide (x.f0 < s.f0)) l
       show ((l.filter fun x => decide (x.f0 < s.f0)) ++ [s] ++ (l.filter fun x => !decide (x.f0 < s.f0))).length ≤ 30
       rw [List.length_append, List.length_append, List.length_singleton]; omega
     · rcases List.mem_append.1 hx with hx | hx
       · rcases List.mem_append.1 hx with hx | hx
         · exact hl.2 x (List.mem_filter.1 hx).1
         · rw [List.mem_singleton.1 hx]; exact hs
       · exact hl.2 x (List.mem_filter.1 hx).1
 · exact hl
/-! ### some fewer, and who watches -/
theorem NumbersL (l : List Int) (hm : l.length < 4398046511104) (d : Nat) : ∀ (k i : Nat), i ≤ l.length → l.length - i = d → d < k → r_03_Numbers.l0 k l l (i : Int) = some true := by
 induction d with
 | zero =>
  intro k i hi hd hk
  obtain ⟨k, rfl⟩ : ∃ m, k = m + 1 := ⟨k - 1, by omega⟩
  simp only [r_03_Numbers.l0]
  rw [if_neg (by omega)]
 | succ d ih =>
  intro k i hi hd hk
  obtain ⟨k, rfl⟩ : ∃ m, k = m + 1 := ⟨k - 1, by omega⟩
  simp only [r_03_Numbers.l0]
  rw [if_pos (by omega), if_pos (by omega), if_pos (by omega), if_pos trivial, wrN (by omega)]
  exact ih k (i + 1) (by omega) (by omega) (by omega)
theorem NumbersF (k : Nat) (l : List Int) (hm : l.length < 4398046511104) (hk : l.length < k) : r_03_Numbers.f k l l = some true := by
 unfold r_03_Numbers.f
 rw [if_pos rfl]
 exact NumbersL l hm l.length k 0 (by omega) (by omega) (by omega)
end Go.Proofs.YtncloefpjeolaaaGreat.Zw
namespace Go.Proofs.YtncloefpjeolaaaGreat.Zw
open Go.RowKit Go.Proofs.YtncloefpjeolaaaGreatW.PrintWords Go.Proofs.YtncloefpjeolaaaGreatW.PrintLast Go.Proofs.YtncloefpjeolaaaGreatW.PrintMore Go.Proofs.YtncloefpjeolaaaGreat.Ho
set_option linter.unusedVariables false
set_option linter.unusedSimpArgs false
/-! ### who may go on -/
abbrev Cl := S53
def chgW (h : List Cl) (w : Wr) : Bool := if (getB h w.f0).2 = 0 then (getB h w.f0).1 != w.f1 else true
theorem changed_f (a b c : Int) (w : List Wr) (t : List S57) (h : List Cl) : filter_changed.f a b c w t h = some (w.any (chgW h)) := by
 unfold filter_changed.f any_at_filter_changed_1.f
 rw [anyF_T (f := fun x : Wr => filter_changed_1.f x.f0 x.f1 h) (p := chgW h) w (fun x _ => by
  unfold filter_changed_1.f chgW
  rw [Get_f, Option.bind_some]
  split <;> rfl)]
 rfl
def tellB (t : List S57) (h : List Cl) : Bool := if (evalB t h []).2 = 0 then (evalB t h []).1 != 0 else false
theorem holds_f (k : Nat) (a b c : Int) (w : List Wr) (t : List S57) (h : List Cl) (hk : 20 ≤ k) : filter_holds.f k a b c w t h = some (tellB t h) := by
 unfold filter_holds.f tellB
 rw [Eval_f k t h [] hk, Option.bind_some]
 split <;> rfl
def goB (s : Sp) (h : List Cl) : Bool := if s.f1 = 1 then true else if s.f1 = 2 then s.f3.any (chgW h) else tellB s.f4 h
def mayF (s : Sp) (h : List Cl) : Bool := maySp s && (RightB h && goB s h)
theorem maySp_mode {s : Sp} (h : maySp s = true) : s.f1 = 1 ∨ s.f1 = 2 ∨ s.f1 = 3 := by
 unfold maySp at h
 simp only [Bool.and_eq_true] at h
 obtain ⟨_, _, _, h⟩ := h
 by_cases e3 : s.f1 = 3
 · exact .inr (.inr e3)
 · rw [if_neg e3] at h
   by_cases e1 : s.f1 = 1
   · exact .inl e1
   · rw [if_neg e1] at h
     by_cases e2 : s.f1 = 2
     · exact .inr (.inl e2)
     · rw [if_neg e2] at h; exact absurd h (by decide)
theorem rightS_one (s : Sp) : rightS [s] = maySp s := by
 unfold rightS
 rw [Bool.eq_iff_iff, decide_eq_true_eq]
 exact ⟨fun h => h.1 s (by simp), fun h => ⟨fun x hx => by rw [List.mem_singleton.1 hx]; exact h, List.pairwise_singleton _ _⟩⟩
abbrev Few1 (s : Sp) : Prop := s.f3.length ≤ 40 ∧ s.f4.length ≤ 20
theorem May_f (k : Nat) (s : Sp) (h : List Cl) (hs : Few1 s) (hk : 1400 < k) : filter_May.f k s.f0 s.f1 s.f2 s.f3 s.f4 h = some (mayF s h) := by
 unfold filter_May.f mayF
 rw [show (⟨s.f0, s.f1, s.f2, s.f3, s.f4⟩ : Sp) = s from rfl, RightF_f k [s] ⟨by simp, fun x hx => by rw [List.mem_singleton.1 hx]; exact hs⟩ (by omega), Option.bind_some, rightS_one, Right_f, Option.bind_some]
 by_cases hm : maySp s = true
 · rw [if_pos hm, hm, Bool.true_and]
   by_cases hr : RightB h = true
   · rw [if_pos hr, hr, Bool.true_and]
     unfold goB
     by_cases e1 : s.f1 = 1
     · rw [if_pos e1, if_pos e1]; rfl
     · rw [if_neg e1, if_neg e1]
       by_cases e2 : s.f1 = 2
       · rw [if_pos e2, if_pos e2, changed_f]; rfl
       · have e3 : s.f1 = 3 := by rcases maySp_mode hm with e | e | e <;> first | exact e | exact absurd e e1 | exact absurd e e2
         rw [if_neg e2, if_neg e2, if_pos e3, holds_f k _ _ _ _ _ _ (by omega)]; rfl
   · rw [if_neg hr, Bool.eq_false_iff.2 hr]; rfl
 · rw [if_neg hm, Bool.eq_false_iff.2 hm]; rfl
def wakes (w : List Wr) (h : List Cl) (s : Sp) : Bool := isOf (w.map fun x => x.f0) s && mayF s h
def wokenB (l : List Sp) (h : List Cl) (w : List Wr) : List Int := if rightS l = true then (l.filter (wakes w h)).map fun s => s.f0 else []
def wakeL (l : List Sp) (h : List Cl) (w : List Wr) : List Sp := if rightS l = true then l.filter (fun s => !(wakes w h s)) else l
theorem Woken_l1 (l L : List Sp) (h : List Cl) (hF : FewS l) (hR : RS l) (hL : ∀ x ∈ L, x ∈ l) (hm : L.length ≤ 30) (d : Nat) : ∀ (k i : Nat), i ≤ L.length → L.length - i = d → d + 1500 < k →
 filter_Woken.l1 k l h (((L.take i).filter fun s => mayF s h).map fun s => s.f0) (L.map fun s => s.f0) (L.length : Int) (i : Int) = some ((L.filter fun s => mayF s h).map fun s => s.f0) := by
 induction d with
 | zero =>
  intro k i hi hd hk
  obtain ⟨k, rfl⟩ : ∃ m, k = m + 1 := ⟨k - 1, by omega⟩
  simp only [filter_Woken.l1]
  rw [if_neg (by omega), List.take_of_length_le (by omega)]
 | succ d ih =>
  intro k i hi hd hk
  obtain ⟨k, rfl⟩ : ∃ m, k = m + 1 := ⟨k - 1, by omega⟩
  have next := ih k (i + 1) (by omega) (by omega) (by omega)
  have hmem := getD_in L z26 i (by omega)
  rw [take_snG L z26 i (by omega), List.filter_append, List.map_append] at next
  have hrd : rd (L.map fun s => s.f0) (i : Int) = (L.getD i z26).f0 := by
   show (L.map fun s => s.f0).getD i 0 = _
   rw [List.getD_eq_getElem?_getD, List.getElem?_map, List.getD_eq_getElem?_getD, List.getElem?_eq_getElem (by omega)]; rfl
  simp only [filter_Woken.l1]
  rw [if_pos (by omega), if_pos (by omega), if_pos (by rw [List.length_map]; omega), hrd, wrN (by omega)]
  generalize L.getD i z26 = s at *
  have hs := hL s hmem
  obtain ⟨j, hj, rfl⟩ := mem_idx hs
  rw [Find_f k l hF hR j hj (by omega), Option.bind_some, May_f k _ h (hF.2 _ hs) (by omega), Option.bind_some]
  by_cases g : mayF (l.getD j z26) h = true
  · rw [if_pos g, if_pos (by
     rw [List.length_map]
     refine Nat.lt_of_le_of_lt (List.length_filter_le _ _) ?_
     rw [List.length_take]; omega)]
    rw [List.filter_cons, if_pos g] at next
    exact next
  · rw [if_neg g]
    rw [List.filter_cons, if_neg g, List.filter_nil, List.map_nil, List.append_nil] at next
    exact next
theorem Woken_l0 (l : List Sp) (h : List Cl) (w : List Wr) (hF : FewS l) (hm : w.length ≤ 100) (d : Nat) : ∀ (k i : Nat), i ≤ w.length → w.length - i = d → d + 1600 < k →
 filter_Woken.l0 k l h ((w.take i).map fun x => x.f0) w (w.length : Int) (i : Int) = some (wokenB l h w) := by
 induction d with
 | zero =>
  intro k i hi hd hk
  obtain ⟨k, rfl⟩ : ∃ m, k = m + 1 := ⟨k - 1, by omega⟩
  simp only [filter_Woken.l0]
  rw [if_neg (by omega), List.take_of_length_le (by omega)]
  unfold wokenB
  by_cases hr : rightS l = true
  · have hR := (rightS_iff l).1 hr
    rw [Of_f k l _ hF hR (by rw [List.length_map]; omega) (by omega), Option.bind_some, if_pos hr]
    have hlf := List.length_filter_le (isOf (w.map fun x => x.f0)) l
    have hl := hF.1
    have := Woken_l1 l (l.filter (isOf (w.map fun x => x.f0))) h hF hR (fun x hx => (List.mem_filter.1 hx).1) (by omega) _ k 0 (by omega) rfl (by omega)
    rw [List.filter_filter, show ((0 : Nat) : Int) = 0 from rfl] at this
    rw [List.length_map]
    refine Eq.trans this ?_
    congr 2
    apply List.filter_congr
    intro x _
    unfold wakes
    rw [Bool.and_comm]
  · rw [Of_no k l _ hF hr (by omega), Option.bind_some, if_neg hr]
    obtain ⟨k, rfl⟩ : ∃ m, k = m + 1 := ⟨k - 1, by omega⟩
    simp only [filter_Woken.l1]
    rw [if_neg (by simp)]
 | succ d ih =>
  intro k i hi hd hk
  obtain ⟨k, rfl⟩ : ∃ m, k = m + 1 := ⟨k - 1, by omega⟩
  have next := ih k (i + 1) (by omega) (by omega) (by omega)
  rw [take_snG w z55 i (by omega), List.map_append] at next
  simp only [filter_Woken.l0]
  rw [if_pos (by omega), if_pos (by omega), if_pos (by omega), if_pos (by rw [List.length_map, List.length_take]; omega), wrN (by omega), show rd_T55 w (i : Int) = w.getD i z55 from rfl]
  exact next
theorem Woken_f (k : Nat) (l : List Sp) (h : List Cl) (w : List Wr) (hF : FewS l) (hm : w.length ≤ 100) (hk : 1800 < k) : filter_Woken.f k l h w = some (wokenB l h w) := by
 unfold filter_Woken.f
 exact Woken_l0 l h w hF hm w.length k 0 (by omega) (by omega) (by omega)
theorem dropL_all (l : List Sp) : ∀ (ws : List Int) (x : List Sp), (∀ w ∈ ws, ∃ s ∈ x, s.f0 = w) → ws.Nodup → dropL l x ws = (x.filter (fun s => !(ws.contains s.f0)), 0)
 | [], x, _, _ => by
  simp only [dropL]
  congr 1
  symm
  rw [List.filter_eq_self]
  intro s _
  simp
 | w :: ws, x, hin, hn => by
  rw [List.nodup_cons] at hn
  simp only [dropL]
  rw [if_pos (by
   obtain ⟨s, hs, e⟩ := hin w (by simp)
   exact List.any_eq_true.2 ⟨s, hs, by simpa using e⟩)]
  rw [dropL_all l ws _ (fun v hv => by
   obtain ⟨s, hs, e⟩ := hin v (by simp [hv])
   refine ⟨s, List.mem_filter.2 ⟨hs, ?_⟩, e⟩
   have : s.f0 ≠ w := fun g => hn.1 (by rw [← g, e]; exact hv)
   simpa using this) hn.2, List.filter_filter]
  congr 1
  apply List.filter_congr
  intro s _
  rw [List.contains_cons]
  cases h1 : ws.contains s.f0 <;> cases h2 : (s.f0 == w) <;> simp_all
theorem uniq {l : List Sp} (h : l.Pairwise Lt) {a b : Sp} (ha : a ∈ l) (hb : b ∈ l) (e : a.f0 = b.f0) : a = b := by
 obtain ⟨i, hi, rfl⟩ := mem_idx ha
 obtain ⟨j, hj, rfl⟩ := mem_idx hb
 rcases Nat.lt_trichotomy i j with q | q | q
 · have := lt_at h i j q hj; omega
 · rw [q]
 · have := lt_at h j i q hi; omega
theorem who_in {l : List Sp} (h : l.Pairwise Lt) (p : Sp → Bool) {s : Sp} (hs : s ∈ l) : ((l.filter p).map fun s => s.f0).contains s.f0 = p s := by
 rw [Bool.eq_iff_iff, List.contains_iff_mem]
 constructor
 · intro g
   obtain ⟨t, ht, e⟩ := List.mem_map.1 g
   have := uniq h ((List.mem_filter.1 ht).1) hs e
   rw [← this]
   exact (List.mem_filter.1 ht).2
 · intro g
   exact List.mem_map.2 ⟨s, List.mem_filter.2 ⟨hs, g⟩, rfl⟩
theorem who_nodup {l : List Sp} (h : l.Pairwise Lt) (p : Sp → Bool) : ((l.filter p).map fun s => s.f0).Nodup := by
 unfold List.Nodup
 rw [List.pairwise_map]
 refine (h.sublist List.filter_sublist).imp fun g => ?_
 intro e
 have : _ < _ := g
 omega
theorem Wake_f (k : Nat) (l : List Sp) (h : List Cl) (w : List Wr) (hF : FewS l) (hm : w.length ≤ 100) (hk : 1800 < k) : filter_Wake.f k l h w = some (wakeL l h w, wokenB l h w) := by
 have hl := hF.1
 unfold filter_Wake.f
 rw [Woken_f k l h w hF hm hk, Option.bind_some]
 unfold wokenB wakeL
 by_cases hr : rightS l = true
 · have hR := (rightS_iff l).1 hr
   rw [if_pos hr, if_pos hr]
   have hlf := List.length_filter_le (wakes w h) l
   rw [Drop_f k l hF hR _ (by rw [List.length_map]; omega) (by omega), dropL_all l _ l (fun v hv => by
    obtain ⟨t, ht, e⟩ := List.mem_map.1 hv
    exact ⟨t, (List.mem_filter.1 ht).1, e⟩) (who_nodup hR.2 _)]
   simp only [Option.bind_some]
   congr 2
   apply List.filter_congr
   intro s hs
   rw [who_in hR.2 _ hs]
 · rw [if_neg hr, if_neg hr]
   unfold sleep_Drop.f
   rw [CloneS_f l (by omega), Option.bind_some, RightF_f _ l hF (by omega), Option.bind_some, if_neg hr]
   rfl
theorem awake16 (k : Nat) (hk : 2100 ≤ k) : l_16_awake.f k = some true :=
 at_rounds (g := l_16_awake.f) l_16_awake.mono (Nat.le_trans (by decide : 80 ≤ 2100) hk) (by decide +kernel)
/-! ### the document's own answers: who may go on, who is touched, who is woken, who lies down -/
theorem rMay_l (h : List Cl) (hh : h.length ≤ 80) (a b c : Int) (w : List Wr) (t : List ROp) (hw : w.length ≤ 1000) (d : Nat) : ∀ (k i : Nat), i ≤ w.length → w.length - i = d → d + 100 < k →
 r_16_May.l0 k h (i : Int) a b c w t = some ((w.drop i).any (chgW h)) := by
 induction d with
 | zero =>
  intro k i hi hd hk
  obtain ⟨k, rfl⟩ : ∃ m, k = m + 1 := ⟨k - 1, by omega⟩
  simp only [r_16_May.l0]
  rw [if_neg (by omega), List.drop_of_length_le (by omega)]; rfl
 | succ d ih =>
  intro k i hi hd hk
  obtain ⟨k, rfl⟩ : ∃ m, k = m + 1 := ⟨k - 1, by omega⟩
  simp only [r_16_May.l0]
  rw [if_pos (by omega), if_pos (by omega), wrN (by omega), ih k (i + 1) (by omega) (by omega) (by omega), drop_cons w z55 i (by omega), show rd_T55 w (i : Int) = w.getD i z55 from rfl, rGet_f k h (by omega) (by omega), Option.bind_some, List.any_cons]
  generalize w.getD i z55 = x
  unfold chgW
  by_cases e : (getB h x.f0).2 = 0
  · rw [if_pos e, if_pos e]
    by_cases g : (getB h x.f0).1 = x.f1
    · rw [if_pos g, bne_eq_false_iff_eq.2 g, Bool.false_or]
    · rw [if_neg g, bne_iff_ne.2 g, Bool.true_or]
  · rw [if_neg e, if_neg e, Bool.true_or]
theorem rMay_f (k : Nat) (s : Sp) (h : List Cl) (hs : Few1 s) (hh : h.length ≤ 80) (hk : 3000 < k) : r_16_May.f k s.f0 s.f1 s.f2 s.f3 (s.f4.map refO) h = some (mayF s h) := by
 obtain ⟨k, rfl⟩ : ∃ m, k = m + 1 := ⟨k - 1, by omega⟩
 unfold r_16_May.f mayF
 rw [rOne_f (k + 1) s (by omega) (by omega), Option.bind_some, rRight_f (k + 1) h (by omega) (by omega), Option.bind_some]
 by_cases hm : maySp s = true
 · rw [if_pos hm, hm, Bool.true_and]
   simp only [r_16_May.j0]
   by_cases hr : RightB h = true
   · rw [hr, if_neg (by decide), Bool.true_and]
     unfold goB
     by_cases e1 : s.f1 = 1
     · rw [if_pos e1, if_pos e1]
     · rw [if_neg e1, if_neg e1]
       rcases maySp_mode hm with e | e2 | e3
       · exact absurd e e1
       · rw [if_neg (by omega), if_pos e2]
         have := rMay_l h hh s.f0 s.f1 s.f2 s.f3 (s.f4.map refO) (by omega) s.f3.length k 0 (by omega) (by omega) (by omega)
         rw [show ((0 : Nat) : Int) = 0 from rfl, List.drop_zero] at this
         exact this
       · rw [if_pos e3, if_neg (by omega), show s.f4.map refO = refT s.f4 from rfl, rEval_f k s.f4 h [] (by omega) (by omega) (by omega) (fun y hy => by cases hy), Option.bind_some]
         unfold tellB
         by_cases e : (evalB s.f4 h []).2 = 0
         · rw [if_pos e, if_pos e]
         · rw [if_neg e, if_neg e]
   · rw [Bool.eq_false_iff.2 hr, if_pos (by decide), Bool.false_and]
 · rw [if_neg hm, Bool.eq_false_iff.2 hm, Bool.false_and]
   simp only [r_16_May.j0]
   rw [if_pos trivial]
def tch (ws : List Wr) (y : Wr) : Bool := ws.any fun x => x.f0 == y.f0
theorem met_l1 (w : List Wr) (i : Nat) (hi : i < w.length) (a b c : Int) (ws : List Wr) (t : List ROp) (hw : ws.length ≤ 1000) (hwl : w.length ≤ 1000) (K : Nat) (r : Bool) (next : ∀ k, K < k → r_16_met.l0 k w ((i + 1 : Nat) : Int) a b c ws t = some r) (d : Nat) : ∀ (k j : Nat), j ≤ ws.length → ws.length - j = d → K + d + 2 < k →
 r_16_met.l1 k w (i : Int) (j : Int) a b c ws t = some (((ws.drop j).any fun x => x.f0 == (w.getD i z55).f0) || r) := by
 induction d with
 | zero =>
  intro k j hj hd hk
  obtain ⟨k, rfl⟩ : ∃ m, k = m + 1 := ⟨k - 1, by omega⟩
  simp only [r_16_met.l1]
  rw [if_neg (by omega), List.drop_of_length_le (by omega), wrN (by omega), next k (by omega)]; rfl
 | succ d ih =>
  intro k j hj hd hk
  obtain ⟨k, rfl⟩ : ∃ m, k = m + 1 := ⟨k - 1, by omega⟩
  simp only [r_16_met.l1]
  rw [if_pos (by omega), if_pos (by omega), if_pos (by omega), if_pos (by omega), wrN (by omega), ih k (j + 1) (by omega) (by omega) (by omega), drop_cons ws z55 j (by omega), show rd_T55 ws (j : Int) = ws.getD j z55 from rfl, show rd_T55 w (i : Int) = w.getD i z55 from rfl, List.any_cons]
  by_cases e : (ws.getD j z55).f0 = (w.getD i z55).f0
  · rw [if_pos e, beq_iff_eq.2 e, Bool.true_or, Bool.true_or]
  · rw [if_neg e, beq_eq_false_iff_ne.2 e, Bool.false_or]
theorem met_l0 (w : List Wr) (a b c : Int) (ws : List Wr) (t : List ROp) (hw : ws.length ≤ 40) (hwl : w.length ≤ 100) (d : Nat) : ∀ (k i : Nat), i ≤ w.length → w.length - i = d → 50 * d + 10 < k →
 r_16_met.l0 k w (i : Int) a b c ws t = some ((w.drop i).any (tch ws)) := by
 induction d with
 | zero =>
  intro k i hi hd hk
  obtain ⟨k, rfl⟩ : ∃ m, k = m + 1 := ⟨k - 1, by omega⟩
  simp only [r_16_met.l0]
  rw [if_neg (by omega), List.drop_of_length_le (by omega)]; rfl
 | succ d ih =>
  intro k i hi hd hk
  obtain ⟨k, rfl⟩ : ∃ m, k = m + 1 := ⟨k - 1, by omega⟩
  simp only [r_16_met.l0]
  have := met_l1 w i (by omega) a b c ws t (by omega) (by omega) (50 * d + 10) _ (fun k hk => ih k (i + 1) (by omega) (by omega) hk) ws.length k 0 (by omega) (by omega) (by omega)
  rw [show ((0 : Nat) : Int) = 0 from rfl, List.drop_zero] at this
  rw [if_pos (by omega), this, drop_cons w z55 i (by omega), List.any_cons]; rfl
theorem tch_is (w ws : List Wr) : (w.any (tch ws)) = ws.any fun x => (w.map fun y => y.f0).contains x.f0 := by
 rw [Bool.eq_iff_iff, List.any_eq_true, List.any_eq_true]
 constructor
 · rintro ⟨y, hy, g⟩
   obtain ⟨x, hx, e⟩ := List.any_eq_true.1 g
   exact ⟨x, hx, List.contains_iff_mem.2 (List.mem_map.2 ⟨y, hy, (beq_iff_eq.1 e).symm⟩)⟩
 · rintro ⟨x, hx, g⟩
   obtain ⟨y, hy, e⟩ := List.mem_map.1 (List.contains_iff_mem.1 g)
   exact ⟨y, hy, List.any_eq_true.2 ⟨x, hx, beq_iff_eq.2 e.symm⟩⟩
theorem met_f (k : Nat) (s : Sp) (w : List Wr) (hs : Few1 s) (hw : w.length ≤ 100) (hk : 6000 < k) : r_16_met.f k s.f0 s.f1 s.f2 s.f3 (s.f4.map refO) w = some (isOf (w.map fun x => x.f0) s) := by
 unfold r_16_met.f isOf
 have := met_l0 w s.f0 s.f1 s.f2 s.f3 (s.f4.map refO) hs.1 hw w.length k 0 (by omega) (by omega) (by omega)
 rw [show ((0 : Nat) : Int) = 0 from rfl, List.drop_zero] at this
 rw [this, tch_is]
theorem rWake_l (l : List Sp) (h : List Cl) (w : List Wr) (hF : FewS l) (hh : h.length ≤ 80) (hw : w.length ≤ 100) (d : Nat) : ∀ (k i : Nat), i ≤ l.length → l.length - i = d → d + 7000 < k →
 r_16_Wake.l0 k (l.map refSp) h w (((l.take i).filter fun s => !(wakes w h s)).map refSp) (((l.take i).filter (wakes w h)).map fun s => s.f0) (i : Int) = some ((l.filter fun s => !(wakes w h s)).map refSp, (l.filter (wakes w h)).map fun s => s.f0) := by
 have hl := hF.1
 induction d with
 | zero =>
  intro k i hi hd hk
  obtain ⟨k, rfl⟩ : ∃ m, k = m + 1 := ⟨k - 1, by omega⟩
  simp only [r_16_Wake.l0]
  rw [if_neg (by rw [List.length_map]; omega), List.take_of_length_le (by omega)]
 | succ d ih =>
  intro k i hi hd hk
  obtain ⟨k, rfl⟩ : ∃ m, k = m + 1 := ⟨k - 1, by omega⟩
  have next := ih k (i + 1) (by omega) (by omega) (by omega)
  have hs := hF.2 _ (getD_in l z26 i (by omega))
  have n1 : (((l.take i).filter fun s => !(wakes w h s)).map refSp).length ≤ 30 := by
   rw [List.length_map]; refine Nat.le_trans (List.length_filter_le _ _) ?_; rw [List.length_take]; omega
  have n2 : (((l.take i).filter (wakes w h)).map fun s => s.f0).length ≤ 30 := by
   rw [List.length_map]; refine Nat.le_trans (List.length_filter_le _ _) ?_; rw [List.length_take]; omega
  rw [take_snG l z26 i (by omega), List.filter_append, List.filter_append, List.map_append, List.map_append] at next
  simp only [r_16_Wake.l0]
  rw [if_pos (by rw [List.length_map]; omega), if_pos (by omega), wrN (by omega), mapS_at l i (by omega)]
  generalize l.getD i z26 = s at *
  simp only [refSp]
  rw [rMay_f k s h hs hh (by omega), Option.bind_some, met_f k s w hs hw (by omega), Option.bind_some]
  rw [List.filter_cons, List.filter_cons, List.filter_nil, List.filter_nil] at next
  have hq : wakes w h s = (isOf (w.map fun x => x.f0) s && mayF s h) := rfl
  by_cases g1 : mayF s h = true
  · rw [if_pos g1]
    by_cases g2 : isOf (w.map fun x => x.f0) s = true
    · rw [if_pos g2, if_pos (by omega)]
      rw [hq, g1, g2] at next
      simpa [refSp] using next
    · rw [if_neg g2, if_pos (by omega)]
      rw [hq, Bool.eq_false_iff.2 g2] at next
      simpa [refSp] using next
  · rw [if_neg g1, if_pos (by omega)]
    rw [hq, Bool.eq_false_iff.2 g1, Bool.and_false] at next
    simpa [refSp] using next
theorem rWake_f (k : Nat) (l : List Sp) (h : List Cl) (w : List Wr) (hF : FewS l) (hh : h.length ≤ 80) (hw : w.length ≤ 100) (hk : 8000 < k) : r_16_Wake.f k (l.map refSp) h w = some ((wakeL l h w).map refSp, wokenB l h w) := by
 have hl := hF.1
 unfold r_16_Wake.f wakeL wokenB
 rw [rRightS_f k l hF (by omega), Option.bind_some]
 by_cases hr : rightS l = true
 · rw [if_pos hr, if_pos hr, if_pos hr]
   exact rWake_l l h w hF hh hw l.length k 0 (by omega) (by omega) (by omega)
 · rw [if_neg hr, if_neg hr, if_neg hr]
def lieS (l : List Sp) (s : Sp) (h : List Cl) : List Sp × Int := if RightB h = true then (if (addS l s).2 = 0 then (if s.f1 = 1 then ((addS l s).1, 0) else if mayF s h = true then (l, 9) else ((addS l s).1, 0)) else (l, (addS l s).2)) else (l, 1)
theorem LieS_f (k : Nat) (l : List Sp) (s : Sp) (h : List Cl) (hl : FewS l) (hs : Few1 s) (hk : 1500 < k) : filter_Lie.f k l s.f0 s.f1 s.f2 s.f3 s.f4 h = some (lieS l s h) := by
 unfold filter_Lie.f lieS
 rw [AddS_f k l s hl hs.1 (by omega), Option.bind_some, Right_f, Option.bind_some]
 by_cases hr : RightB h = true
 · rw [if_pos hr, if_pos hr]
   by_cases e : (addS l s).2 = 0
   · rw [if_pos e, if_pos e]
     by_cases h1 : s.f1 = 1
     · rw [if_pos h1, if_pos h1]
     · rw [if_neg h1, if_neg h1, May_f k s h hs (by omega), Option.bind_some]
       by_cases hm : mayF s h = true
       · rw [if_pos hm, if_pos hm]
       · rw [if_neg hm, if_neg hm]
   · rw [if_neg e, if_neg e]
 · rw [if_neg hr, if_neg hr]
theorem addS_may {l : List Sp} {s : Sp} (h : (addS l s).2 = 0) : maySp s = true := by
 unfold addS at h
 split at h
 · rename_i g; exact g.2
 · cases h
theorem rLieS_f (k : Nat) (l : List Sp) (s : Sp) (h : List Cl) (hl : FewS l) (hs : Few1 s) (hh : h.length ≤ 80) (hk : 3000 < k) : r_16_Lie.f k (l.map refSp) s.f0 s.f1 s.f2 s.f3 (s.f4.map refO) h = some ((lieS l s h).1.map refSp, (lieS l s h).2) := by
 unfold r_16_Lie.f lieS
 rw [rRight_f k h (by omega) (by omega), Option.bind_some]
 by_cases hr : RightB h = true
 · rw [if_pos hr, if_pos hr, rAddS_f k l s hl hs.1 (by omega), Option.bind_some]
   dsimp only
   by_cases e : (addS l s).2 = 0
   · rw [if_pos e, if_pos e, rMay_f k s h hs hh (by omega), Option.bind_some]
     have hm3 := maySp_mode (addS_may e)
     by_cases h1 : s.f1 = 1
     · rw [if_pos h1, if_neg (by omega)]
     · rw [if_neg h1, if_pos (by omega)]
       by_cases hm : mayF s h = true
       · rw [if_pos hm, if_pos hm]
       · rw [if_neg hm, if_neg hm]
   · rw [if_neg e, if_neg e]
 · rw [if_neg hr, if_neg hr]
end Go.Proofs.YtncloefpjeolaaaGreat.Zw
namespace Go.Proofs.YtncloefpjeolaaaGreat.Zw
open Go.RowKit Go.Proofs.YtncloefpjeolaaaGreatW.PrintWords Go.Proofs.YtncloefpjeolaaaGreatW.PrintLast Go.Proofs.YtncloefpjeolaaaGreatW.PrintMore Go.Proofs.YtncloefpjeolaaaGreat.Ho
set_option linter.unusedVariables false
set_option linter.unusedSimpArgs false
theorem lieS_few {l : List Sp} {s : Sp} {h : List Cl} (hl : FewS l) (h20 : l.length ≤ 20) (hs : Few1 s) : FewS (lieS l s h).1 := by
 have a := addS_few hl h20 hs
 unfold lieS
 split
 · split
   · split
     · exact a
     · split
       · exact hl
       · exact a
   · exact hl
 · exact hl
theorem wakeL_few {l : List Sp} (h : List Cl) (w : List Wr) (hl : FewS l) : FewS (wakeL l h w) := by
 unfold wakeL
 split
 · exact few_subS hl List.filter_sublist
 · exact hl
theorem FilterTells : l_16_FilterTells.Pure := by
 intro l s h w
 intros
 refine ⟨l.length + 400000, ?_⟩
 generalize hK : l.length + 400000 = K
 unfold l_16_FilterTells.f
 obtain ⟨b, hb, hb'⟩ := Small15_f K l (by omega) (by omega)
 obtain ⟨c, hc, hc'⟩ := Small15_f K [s] (by simp) (by simp; omega)
 obtain ⟨K, rfl⟩ : ∃ m, K = m + 1 := ⟨K - 1, by omega⟩
 have aw : l_16_FilterTells.j0 (K + 1) l h w true s.f0 s.f1 s.f2 s.f3 s.f4 = some true := by
  simp only [l_16_FilterTells.j0]
  rw [if_pos trivial, awake16 K (by omega)]; rfl
 rw [hb, Option.bind_some]
 by_cases h1 : b < 0
 · rw [if_pos h1]; exact aw
 rw [if_neg h1, show ([(⟨s.f0, s.f1, s.f2, s.f3, s.f4⟩ : Sp)] : List Sp) = [s] from rfl, hc, Option.bind_some]
 by_cases h2 : c < 0
 · rw [if_pos h2]; exact aw
 rw [if_neg h2]
 by_cases h3 : (h.length : Int) > 80
 · rw [if_pos h3]; exact aw
 rw [if_neg h3]
 by_cases h4 : (w.length : Int) > 40
 · rw [decide_eq_true h4]; exact aw
 rw [decide_eq_false h4]
 have q1 := (hb'.resolve_left h1).2
 have q2 := (hc'.resolve_left h2).2.2 s (by simp)
 have hF : FewS l := ⟨by omega, q1.2⟩
 have hs : Few1 s := q2
 have n2 : (wokenB l h w).length < 100 := by
  unfold wokenB
  split
  · rw [List.length_map]; exact Nat.lt_of_le_of_lt (List.length_filter_le _ _) (by omega)
  · simp
 simp only [l_16_FilterTells.j0]
 rw [if_neg (by decide), RefsF_f K l hF (by omega), Option.bind_some, Wake_f K l h w hF (by omega) (by omega), Option.bind_some, rWake_f K l h w hF (by omega) (by omega) (by omega), Option.bind_some, LieS_f K l s h hF hs (by omega), Option.bind_some, SRef_f K s (by omega) (by omega), Option.bind_some]
 dsimp only
 rw [rLieS_f K l s h hF hs (by omega) (by omega), Option.bind_some, May_f K s h hs (by omega), Option.bind_some, Option.bind_some]
 try dsimp only
 rw [rMay_f K s h hs (by omega) (by omega), Option.bind_some]
 try dsimp only
 rw [RefsF_f K _ (wakeL_few h w hF) (by omega), RefsF_f K _ (lieS_few hF q1.1 hs) (by omega), Woken_f K l h w hF (by omega) (by omega)]
 simp only [Option.bind_some]
 rw [SameS_f K _ (wakeL_few h w hF) (by omega), SameS_f K _ (lieS_few hF q1.1 hs) (by omega), NumbersF K _ (by omega) (by omega), awake16 K (by omega)]
 simp only [Option.bind_some, if_true]
 by_cases g : mayF s h = true
 · rw [if_pos g, if_pos g]
 · rw [if_neg g, if_neg g]
end Go.Proofs.YtncloefpjeolaaaGreat.Zw
namespace Go.Proofs.YtncloefpjeolaaaGreat.Pure
theorem FilterTells : Go.Proofs.YtncloefpjeolaaaGreat.Zw.l_16_FilterTells.Pure := Go.Proofs.YtncloefpjeolaaaGreat.Zw.FilterTells
end Go.Proofs.YtncloefpjeolaaaGreat.Pure
