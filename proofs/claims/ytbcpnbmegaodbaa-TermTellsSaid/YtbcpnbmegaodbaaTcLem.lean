/-
  PROVED: Plain lemmas on numbers and lists, of what the printed functions answer. No condition beside those of each lemma.
-/
import Derived.Test.YtbcpnbmegaodbaaTcx1
import Derived.Test.YtbcpnbmegaodbaaTcx2
import Derived.Test.YtbcpnbmegaodbaaTcx3
import Derived.Test.YtbcpnbmegaodbaaTcx4
namespace Go.Proofs.Ytbcpnbmegaodbaa.Tc
open Go.RowKit Go.Proofs.YtbcpnbmegaodbaaW.PrintWords Go.Proofs.YtbcpnbmegaodbaaW.PrintLast Go.Proofs.YtbcpnbmegaodbaaW.PrintMore Go.Proofs.Ytbcpnbmegaodbaa.Ho
set_option linter.unusedVariables false
set_option linter.unusedSimpArgs false
theorem wr {i : Int} (h0 : -9223372036854775808 ≤ i) (h : i ≤ 9223372036854775807) : wrap64 i = i := by unfold wrap64; omega
theorem wrN {i : Nat} (h : i < 4611686018427387904) : wrap64 ((i : Int) + 1) = ((i + 1 : Nat) : Int) := by unfold wrap64; omega
theorem drop_cons {α : Type} (l : List α) (z : α) (i : Nat) (h : i < l.length) : l.drop i = l.getD i z :: l.drop (i + 1) := by
  rw [List.drop_eq_getElem_cons h]
  simp [List.getElem?_eq_getElem h]
/-- The first place at which p holds, from i on, or -1. -/
def idxT {α : Type} (p : α → Bool) : List α → Int → Int
  | [], _ => -1
  | x :: xs, i => if p x then i else idxT p xs (i + 1)
theorem idxT_yes {α : Type} {p : α → Bool} {x : α} {xs : List α} {i : Int} (h : p x = true) : idxT p (x :: xs) i = i := by simp [idxT, h]
theorem idxT_no {α : Type} {p : α → Bool} {x : α} {xs : List α} {i : Int} (h : p x = false) : idxT p (x :: xs) i = idxT p xs (i + 1) := by simp [idxT, h]
theorem idxF_T {α : Type} {f : α → Option Bool} {p : α → Bool} : ∀ (l : List α) (i : Int), (∀ x ∈ l, f x = some (p x)) → idxF f l i = some (idxT p l i)
  | [], _, _ => rfl
  | x :: xs, i, h => by
    simp only [idxF, idxT]
    rw [h x (by simp), idxF_T xs (i + 1) (fun y hy => h y (by simp [hy]))]
    simp only [Option.bind_some]
    cases p x <;> rfl
theorem anyF_T {α : Type} {f : α → Option Bool} {p : α → Bool} : ∀ (l : List α), (∀ x ∈ l, f x = some (p x)) → anyF f l = some (l.any p)
  | [], _ => rfl
  | x :: xs, h => by
    simp only [anyF, List.any_cons]
    rw [h x (by simp), anyF_T xs (fun y hy => h y (by simp [hy]))]
    simp only [Option.bind_some]
    cases p x <;> rfl
theorem idxT_cases {α : Type} (p : α → Bool) (z : α) : ∀ (l : List α) (i : Int), (idxT p l i = -1 ∧ ∀ x ∈ l, p x = false) ∨ ∃ j : Nat, j < l.length ∧ idxT p l i = i + j ∧ p (l.getD j z) = true ∧ ∀ m, m < j → p (l.getD m z) = false
  | [], i => .inl ⟨rfl, fun x hx => by cases hx⟩
  | x :: xs, i => by
    cases hx : p x with
    | true => exact .inr ⟨0, by simp, by simp [idxT, hx], by simpa using hx, fun m hm => by omega⟩
    | false =>
      rcases idxT_cases p z xs (i + 1) with ⟨h1, h2⟩ | ⟨j, h1, h2, h3, h4⟩
      · exact .inl ⟨by simp [idxT, hx, h1], fun y hy => by rcases List.mem_cons.1 hy with rfl | hy; exact hx; exact h2 y hy⟩
      · refine .inr ⟨j + 1, by simpa using h1, by simp [idxT, hx, h2]; omega, by simpa using h3, fun m hm => ?_⟩
        cases m with
        | zero => simpa using hx
        | succ m => simpa using h4 m (by omega)
def inR (v : Int) : Bool := decide (-2147483648 ≤ v ∧ v ≤ 2147483647)
theorem right_f (a : Int) : span_Right.f a = some (inR a) := by
  unfold span_Right.f inR
  by_cases h : a ≥ (-2147483648)
  · rw [if_pos h]; simp [h]
  · rw [if_neg h]; simp [h]
theorem u64w (a : Int) : IntKind.u64.wrap a = a % 18446744073709551616 := by
  unfold IntKind.wrap
  simp [IntKind.bits, IntKind.signed]
theorem w32_eq {x y : Int} : wrap32 x = wrap32 y ↔ x % 4294967296 = y % 4294967296 := by
  unfold wrap32; omega
theorem w64_small {x : Int} (h : -9223372036854775808 ≤ x) (h2 : x ≤ 9223372036854775807) : wrap64 x = x := by
  unfold wrap64; omega
theorem w32_lo (x : Int) : -2147483648 ≤ wrap32 x := by unfold wrap32; omega
theorem w32_hi (x : Int) : wrap32 x ≤ 2147483647 := by unfold wrap32; omega
theorem w32_id {x : Int} (h : -2147483648 ≤ x) (h2 : x ≤ 2147483647) : wrap32 x = x := by unfold wrap32; omega
theorem w32_w64 (x : Int) : wrap32 (wrap64 x) = wrap32 x := by unfold wrap32 wrap64; omega
theorem w32_w32 (x : Int) : wrap32 (wrap32 x) = wrap32 x := by unfold wrap32; omega
theorem w32_addl (x y : Int) : wrap32 (wrap32 x + y) = wrap32 (x + y) := by unfold wrap32; omega
theorem w32_addr (x y : Int) : wrap32 (x + wrap32 y) = wrap32 (x + y) := by unfold wrap32; omega
theorem w32_subl (x y : Int) : wrap32 (wrap32 x - y) = wrap32 (x - y) := by unfold wrap32; omega
theorem w32_subr (x y : Int) : wrap32 (x - wrap32 y) = wrap32 (x - y) := by unfold wrap32; omega
theorem w32_mod (x : Int) : wrap32 x % 4294967296 = x % 4294967296 := by unfold wrap32; omega
theorem w32_mull (x y : Int) : wrap32 (wrap32 x * y) = wrap32 (x * y) := by
  rw [w32_eq, Int.mul_emod, w32_mod, ← Int.mul_emod]
theorem w32_mulr (x y : Int) : wrap32 (x * wrap32 y) = wrap32 (x * y) := by
  rw [w32_eq, Int.mul_emod, w32_mod, ← Int.mul_emod]
theorem tmodM (a : Int) : a.tmod 4294967296 = if 0 ≤ a then a % 4294967296 else -((-a) % 4294967296) := by
  split
  · exact Int.tmod_eq_emod_of_nonneg ‹_›
  · have : a.tmod 4294967296 = -((-a).tmod 4294967296) := by rw [Int.neg_tmod]; omega
    rw [this, Int.tmod_eq_emod_of_nonneg (by omega)]
theorem wrap_f (a : Int) : span_Wrap.f a = some (wrap32 a) := by
  unfold span_Wrap.f
  rw [u64w]; unfold wrap64 wrap32
  congr 1; omega
theorem add_f (a b : Int) : span_Add.f a b = some (wrap32 (a + b)) := by
  unfold span_Add.f
  simp only [wrap_f, Option.bind_some, w32_w64, w32_addl, w32_addr]
theorem sub_f (a b : Int) : span_Sub.f a b = some (wrap32 (a - b)) := by
  unfold span_Sub.f
  simp only [wrap_f, Option.bind_some, w32_w64, w32_subl, w32_subr]
theorem mul_f (a b : Int) : span_Mul.f a b = some (wrap32 (a * b)) := by
  unfold span_Mul.f
  simp only [wrap_f, Option.bind_some, w32_w64, w32_mull, w32_mulr]
theorem truth_f (a : Bool) : span_Truth.f a = some (if a then 1 else 0) := by
  unfold span_Truth.f
  split <;> rfl
theorem rwrap_f {a : Int} (h : -9223372036854775808 ≤ a) (h2 : a ≤ 9223372036854775807) : handshakerref01_Wrap.f a = some (wrap32 a) := by
  unfold handshakerref01_Wrap.f
  rw [tmodM]
  have e1 : ∀ x : Int, -9223372036854775808 ≤ x → x ≤ 9223372036854775807 → wrap64 x = x := fun x => w64_small
  unfold wrap32
  split
  · rw [if_neg (by omega)]
    split
    · rw [e1 _ (by omega) (by omega)]; congr 1; omega
    · congr 1; omega
  · split
    · rw [e1 (-(-a % 4294967296) + 4294967296) (by omega) (by omega), if_neg (by omega)]; congr 1; omega
    · rw [if_neg (by omega)]; congr 1; omega
theorem tmod16 (a : Int) : a.tmod 65536 = if 0 ≤ a then a % 65536 else -((-a) % 65536) := by
  split
  · exact Int.tmod_eq_emod_of_nonneg ‹_›
  · have : a.tmod 65536 = -((-a).tmod 65536) := by rw [Int.neg_tmod]; omega
    rw [this, Int.tmod_eq_emod_of_nonneg (by omega)]
theorem prod_bd {x y X Y : Int} (h1 : -X ≤ x) (h2 : x ≤ X) (h3 : -Y ≤ y) (h4 : y ≤ Y) (hX : 0 ≤ X) : -(X * Y) ≤ x * y ∧ x * y ≤ X * Y := by
  have a1 : (X - x) * (Y + y) ≥ 0 := Int.mul_nonneg (by omega) (by omega)
  have a2 : (X + x) * (Y - y) ≥ 0 := Int.mul_nonneg (by omega) (by omega)
  have a3 : (X - x) * (Y - y) ≥ 0 := Int.mul_nonneg (by omega) (by omega)
  have a4 : (X + x) * (Y + y) ≥ 0 := Int.mul_nonneg (by omega) (by omega)
  simp only [Int.sub_mul, Int.add_mul, Int.mul_add, Int.mul_sub] at a1 a2 a3 a4
  constructor <;> omega
theorem rmul_f {a b : Int} (ha : -9223372036854775808 ≤ a) (ha2 : a ≤ 9223372036854775807) (hb : -9223372036854775808 ≤ b) (hb2 : b ≤ 9223372036854775807) : handshakerref01_Mul.f a b = some (wrap32 (a * b)) := by
  unfold handshakerref01_Mul.f
  rw [rwrap_f ha ha2, rwrap_f hb hb2]
  simp only [Option.bind_some]
  have hx1 := w32_lo a
  have hx2 := w32_hi a
  have hy1 := w32_lo b
  have hy2 := w32_hi b
  have hm : wrap32 (a * b) = wrap32 (wrap32 a * wrap32 b) := by rw [w32_mull, w32_mulr]
  rw [hm]
  generalize wrap32 a = x at *
  generalize wrap32 b = y at *
  have hl : -65535 ≤ y.tmod 65536 ∧ y.tmod 65536 ≤ 65535 ∧ ∃ q : Int, y - y.tmod 65536 = 65536 * q ∧ -32768 ≤ q ∧ q ≤ 32768 := by
    rw [tmod16]
    split
    · exact ⟨by omega, by omega, y / 65536, by omega, by omega, by omega⟩
    · exact ⟨by omega, by omega, -((-y) / 65536), by omega, by omega, by omega⟩
  obtain ⟨l1, l2, q, hq, q1, q2⟩ := hl
  generalize y.tmod 65536 = l at *
  have hd : wrap64 (Int.tdiv (wrap64 (y - l)) 65536) = q := by
    rw [w64_small (x := y - l) (by omega) (by omega), hq, Int.mul_tdiv_cancel_left _ (by decide), w64_small (by omega) (by omega)]
  rw [hd]
  have p1 := prod_bd (x := x) (y := q) (X := 2147483648) (Y := 32768) (by omega) (by omega) (by omega) (by omega) (by omega)
  have p2 := prod_bd (x := x) (y := l) (X := 2147483648) (Y := 65535) (by omega) (by omega) (by omega) (by omega) (by omega)
  have hy : x * y = x * l + x * q * 65536 := by
    have : y = l + q * 65536 := by omega
    rw [this, Int.mul_add, ← Int.mul_assoc]
  rw [hy]
  generalize x * q = u at *
  generalize x * l = v at *
  rw [w64_small (x := u) (by omega) (by omega), rwrap_f (by omega) (by omega)]
  simp only [Option.bind_some]
  have h1 := w32_lo u
  have h2 := w32_hi u
  rw [w64_small (x := v) (by omega) (by omega), w64_small (x := wrap32 u * 65536) (by omega) (by omega), w64_small (x := v + wrap32 u * 65536) (by omega) (by omega), rwrap_f (by omega) (by omega)]
  refine congrArg some (w32_eq.2 ?_)
  have := w32_mod u
  omega
/-! ### heaps -/
def okC (c : S58) : Bool := inR c.f1 && (c.f0 || c.f1 == 0)
def RightB (h : List S58) : Bool := decide (1 ≤ h.length) && decide (h.length ≤ 64) && h.all okC
def there (h : List S58) (c : Int) : Bool := decide (0 ≤ c ∧ c < h.length) && (h.getD c.toNat z58).f0
def getB (h : List S58) (c : Int) : Int × Int := if RightB h = true then if there h c = true then ((h.getD c.toNat z58).f1, 0) else (0, 3) else (0, 1)
theorem wrong_f (a : Bool) (v : Int) : heap_wrong.f a v = some (!(okC ⟨a, v⟩)) := by
  unfold heap_wrong.f
  rw [right_f]
  simp only [Option.bind_some, okC]
  cases inR v <;> cases a <;> first | rfl | (by_cases h : v = 0 <;> simp [h])
theorem all_okC (h : List S58) : (!(h.any fun x => !(okC x))) = h.all okC := by
  induction h with
  | nil => rfl
  | cons x xs ih => simp only [List.any_cons, List.all_cons, ← ih]; cases okC x <;> simp
theorem Right_f (h : List S58) : heap_Right.f h = some (RightB h) := by
  unfold heap_Right.f any_at_heap_wrong.f RightB
  rw [anyF_T (p := fun x => !(okC x)) h (fun x _ => wrong_f x.f0 x.f1)]
  simp only [Option.bind_some, all_okC]
  by_cases h1 : (h.length : Int) ≥ 1
  · rw [if_pos h1]
    by_cases h2 : (h.length : Int) ≤ 64
    · rw [if_pos h2]
      have e1 : decide (1 ≤ h.length) = true := by simp; omega
      have e2 : decide (h.length ≤ 64) = true := by simp; omega
      rw [e1, e2]; simp
    · rw [if_neg h2]
      have e2 : decide (h.length ≤ 64) = false := by simp; omega
      rw [e2]; simp
  · rw [if_neg h1]
    have e1 : decide (1 ≤ h.length) = false := decide_eq_false (by omega)
    rw [e1]; simp
theorem Right_len {h : List S58} (hr : RightB h = true) : 1 ≤ h.length ∧ h.length ≤ 64 ∧ ∀ x ∈ h, okC x = true := by
  simp only [RightB, Bool.and_eq_true, decide_eq_true_eq, List.all_eq_true] at hr
  exact ⟨hr.1.1, hr.1.2, hr.2⟩
theorem there_f (h : List S58) (c : Int) : heap_there.f h c = some (there h c) := by
  unfold heap_there.f there
  by_cases h0 : c ≥ 0
  · rw [if_pos h0]
    by_cases h1 : c < (h.length : Int)
    · rw [if_pos h1, if_pos h0]
      have : decide (0 ≤ c ∧ c < (h.length : Int)) = true := decide_eq_true ⟨h0, h1⟩
      rw [this]; rfl
    · rw [if_neg h1]
      have : decide (0 ≤ c ∧ c < (h.length : Int)) = false := decide_eq_false (fun e => h1 e.2)
      rw [this]; rfl
  · rw [if_neg h0]
    have : decide (0 ≤ c ∧ c < (h.length : Int)) = false := decide_eq_false (fun e => h0 e.1)
    rw [this]; rfl
theorem there_rng {h : List S58} {c : Int} (ht : there h c = true) : 0 ≤ c ∧ c < h.length ∧ (h.getD c.toNat z58).f0 = true := by
  simp only [there, Bool.and_eq_true, decide_eq_true_eq] at ht
  exact ⟨ht.1.1, ht.1.2, ht.2⟩
theorem Get_f (h : List S58) (c : Int) : heap_Get.f h c = some (getB h c) := by
  unfold heap_Get.f getB
  rw [Right_f, there_f]
  simp only [Option.bind_some]
  by_cases hr : RightB h = true
  · rw [if_pos hr, if_pos hr]
    by_cases ht : there h c = true
    · obtain ⟨h0, h1, _⟩ := there_rng ht
      rw [if_pos ht, if_pos ht, if_pos h0, if_pos h1]; rfl
    · rw [if_neg ht, if_neg ht]
  · rw [if_neg hr, if_neg hr]
theorem getB_ok {h : List S58} {c : Int} (he : (getB h c).2 = 0) : RightB h = true ∧ there h c = true := by
  unfold getB at he
  split at he
  · split at he
    · exact ⟨by assumption, by assumption⟩
    · simp at he
  · simp at he
/-! ### terms -/
theorem awake7 (k : Nat) (hk : 60 ≤ k) : handshakerlaw07_awake.f k = some true :=
  at_rounds (g := handshakerlaw07_awake.f) handshakerlaw07_awake.mono hk (by decide +kernel)
def takes (a : Int) : Nat := if 4 ≤ a ∧ a ≤ 10 then 2 else if a = 11 then 1 else 0
theorem takes_le (a : Int) : takes a ≤ 2 := by unfold takes; split <;> (try split) <;> omega
def mayB (a b : Int) : Bool := if a = 1 then inR b else if a = 2 then decide (0 ≤ b ∧ b < 64) else if a = 3 then decide (0 ≤ b ∧ b < 8) else decide (0 < takes a) && b == 0
theorem takes_f (k : Nat) (a b : Int) (hk : 0 < k) : term_Op_takes.f k a b = some (takes a : Int) := by
  obtain ⟨k, rfl⟩ : ∃ q, k = q + 1 := ⟨k - 1, by omega⟩
  unfold term_Op_takes.f takes
  simp only [term_Op_takes.j0, decide_eq_true_eq]
  repeat' split
  all_goals first | rfl | (exfalso; omega) | (simp at *; done) | (simp at *; omega)
theorem may_f (k : Nat) (a b : Int) (hk : 0 < k) : term_Op_may.f k a b = some (mayB a b) := by
  unfold term_Op_may.f mayB
  rw [takes_f _ _ _ hk, right_f]
  simp only [Option.bind_some]
  split
  · rfl
  · split
    · by_cases h : b ≥ 0 <;> simp [h]
    · split
      · by_cases h : b ≥ 0 <;> simp [h]
      · by_cases h : takes a = 0
        · simp [h]
        · rw [if_pos (by omega), decide_eq_true (by omega)]; simp
/-- How many numbers there are behind all, or none if there are too few. -/
def walkN : List S41 → Nat → Option Nat
  | [], n => some n
  | o :: os, n => if n < takes o.f0 then none else walkN os (n + 1 - takes o.f0)
def mostN : List S41 → Nat → Nat → Nat
  | [], _, m => m
  | o :: os, n, m => if n < takes o.f0 then 0 else mostN os (n + 1 - takes o.f0) (if m < n + 1 - takes o.f0 then n + 1 - takes o.f0 else m)
def walkI (t : List S41) (n : Nat) : Int := match walkN t n with | some m => (m : Int) | none => -1
theorem walk_l (t : List S41) (hm : t.length < 4398046511104) (d : Nat) : ∀ (k i n m : Nat), i ≤ t.length → t.length - i = d → d + 1 < k → n ≤ i → m ≤ i →
    term_walk.l0 k (n : Int) (m : Int) t (t.length : Int) (i : Int) = some (walkI (t.drop i) n, (mostN (t.drop i) n m : Int)) := by
  induction d with
  | zero =>
    intro k i n m hi hd hk hn hm'
    obtain ⟨k, rfl⟩ : ∃ q, k = q + 1 := ⟨k - 1, by omega⟩
    rw [List.drop_of_length_le (by omega)]
    simp only [term_walk.l0, walkI, walkN, mostN]
    rw [if_neg (by omega)]
  | succ d ih =>
    intro k i n m hi hd hk hn hm'
    obtain ⟨k, rfl⟩ : ∃ q, k = q + 1 := ⟨k - 1, by omega⟩
    rw [drop_cons t z41 i (by omega)]
    simp only [term_walk.l0]
    rw [if_pos (by omega), if_pos (by omega), if_pos (by omega), takes_f _ _ _ (by omega)]
    simp only [Option.bind_some]
    rw [show rd_T41 t (i : Int) = t.getD i z41 from rfl]
    have hlt := takes_le (t.getD i z41).f0
    unfold walkI
    simp only [walkN, mostN]
    by_cases h : n < takes (t.getD i z41).f0
    · rw [if_pos (by omega), if_pos h, if_pos h]; rfl
    · rw [if_neg (by omega), if_neg h, if_neg h, wrN (by omega)]
      have e1 : wrap64 ((n : Int) + wrap64 (1 - (takes (t.getD i z41).f0 : Int))) = ((n + 1 - takes (t.getD i z41).f0 : Nat) : Int) := by
        rw [wr (i := 1 - (takes (t.getD i z41).f0 : Int)) (by omega) (by omega), wr (by omega) (by omega)]; omega
      rw [e1]
      have e2 : mx (m : Int) ((n + 1 - takes (t.getD i z41).f0 : Nat) : Int) = ((if m < n + 1 - takes (t.getD i z41).f0 then n + 1 - takes (t.getD i z41).f0 else m : Nat) : Int) := by
        unfold mx
        by_cases h3 : m < n + 1 - takes (t.getD i z41).f0
        · rw [if_pos h3, if_pos (by omega)]
        · rw [if_neg h3, if_neg (by omega)]
      rw [e2, ih k (i + 1) _ _ (by omega) (by omega) (by omega) (by omega) (by split <;> omega)]
      rfl
theorem walk_f (k : Nat) (t : List S41) (hm : t.length < 4398046511104) (hk : t.length + 1 < k) : term_walk.f k t = some (walkI t 0, (mostN t 0 0 : Int)) := by
  unfold term_walk.f
  have := walk_l t hm t.length k 0 0 0 (by omega) (by omega) (by omega) (by omega) (by omega)
  simpa using this
def mayAll (t : List S41) : Bool := t.all fun o => mayB o.f0 o.f1
/-- Does it stand well? -/
def checkB (t : List S41) : Int := if 1 ≤ t.length ∧ t.length ≤ 12 ∧ mayAll t = true then (if walkN t 0 = some 1 then 0 else 2) else 1
theorem any_may (k : Nat) (t : List S41) (hk : 0 < k) : any_at_term_Check_1.f k t = some (!(mayAll t)) := by
  unfold any_at_term_Check_1.f mayAll
  rw [anyF_T (p := fun o => !(mayB o.f0 o.f1)) t (fun o _ => by unfold term_Check_1.f; rw [may_f _ _ _ hk]; rfl)]
  congr 1
  induction t with
  | nil => rfl
  | cons x xs ih => simp only [List.any_cons, List.all_cons, ih]; cases mayB x.f0 x.f1 <;> simp
theorem walkI_one (t : List S41) : walkI t 0 = 1 ↔ walkN t 0 = some 1 := by
  unfold walkI
  cases walkN t 0 with
  | none => simp
  | some m => simp; omega
theorem Check_f (k : Nat) (t : List S41) (hk : 20 ≤ k) : term_Check.f k t = some (checkB t) := by
  obtain ⟨k, rfl⟩ : ∃ q, k = q + 1 := ⟨k - 1, by omega⟩
  unfold term_Check.f checkB
  simp only [term_Check.j0]
  by_cases h1 : t.length < 1
  · rw [if_pos (by omega), if_pos trivial, if_neg (by omega)]
  · rw [if_neg (by omega)]
    by_cases h2 : t.length > 12
    · rw [if_pos (by omega), if_pos trivial, if_neg (by omega)]
    · rw [if_neg (by omega), any_may _ _ (by omega)]
      simp only [Option.bind_some]
      by_cases h3 : mayAll t = true
      · rw [h3, if_neg (by simp), if_pos ⟨by omega, by omega, rfl⟩, walk_f k t (by omega) (by omega)]
        simp only [Option.bind_some]
        by_cases h4 : walkN t 0 = some 1
        · rw [if_pos ((walkI_one t).2 h4), if_pos h4]
        · rw [if_neg (fun e => h4 ((walkI_one t).1 e)), if_neg h4]
      · rw [if_pos (by simpa using h3), if_neg (fun e => h3 e.2.2)]
theorem checkB_ok {t : List S41} (h : checkB t = 0) : 1 ≤ t.length ∧ t.length ≤ 12 ∧ (∀ o ∈ t, mayB o.f0 o.f1 = true) ∧ walkN t 0 = some 1 := by
  unfold checkB at h
  split at h
  · rename_i h1
    split at h
    · exact ⟨h1.1, h1.2.1, by simpa [mayAll] using h1.2.2, by assumption⟩
    · simp at h
  · simp at h
theorem checkB_of {t : List S41} (h1 : 1 ≤ t.length) (h2 : t.length ≤ 12) (h3 : ∀ o ∈ t, mayB o.f0 o.f1 = true) (h4 : walkN t 0 = some 1) : checkB t = 0 := by
  unfold checkB
  rw [if_pos ⟨h1, h2, by simpa [mayAll] using h3⟩, if_pos h4]
def deepB (t : List S41) : Int := if checkB t = 0 then (mostN t 0 0 : Int) else 0
theorem Deep_f (k : Nat) (t : List S41) (hk : 20 ≤ k) : term_Deep.f k t = some (deepB t) := by
  unfold term_Deep.f deepB
  rw [Check_f k t hk]
  simp only [Option.bind_some]
  by_cases h : checkB t = 0
  · have := checkB_ok h
    rw [if_pos h, if_pos h, walk_f k t (by omega) (by omega)]; rfl
  · rw [if_neg h, if_neg h]
/-! what is told -/
def leafB (o : S41) (h : List S58) (regs : List Int) : Int × Int := if o.f0 = 1 then (o.f1, 0) else if o.f0 = 2 then getB h o.f1 else if o.f1 < regs.length then (wrap32 (regs.getD o.f1.toNat 0), 0) else (0, 3)
def tru (b : Bool) : Int := if b then 1 else 0
def twoB (a x y : Int) : Int := if a = 4 then wrap32 (x + y) else if a = 5 then wrap32 (x - y) else if a = 6 then wrap32 (x * y) else if a = 7 then tru (x == y) else if a = 8 then tru (decide (x < y)) else if a = 9 then tru (x != 0 && y != 0) else tru (x != 0 || y != 0)
theorem leaf_f (o : S41) (h : List S58) (regs : List Int) (hm : mayB o.f0 o.f1 = true) (ht : takes o.f0 = 0) : term_leaf.f o.f0 o.f1 h regs = some (leafB o h regs) := by
  unfold term_leaf.f leafB
  by_cases h1 : o.f0 = 1
  · rw [if_pos h1, if_pos h1]
  · rw [if_neg h1, if_neg h1]
    by_cases h2 : o.f0 = 2
    · rw [if_pos h2, if_pos h2, Get_f]; rfl
    · rw [if_neg h2, if_neg h2]
      by_cases h3 : o.f0 = 3
      · have : 0 ≤ o.f1 ∧ o.f1 < 8 := by
          unfold mayB at hm
          rw [if_neg h1, if_neg h2, if_pos h3] at hm
          simpa using hm
        by_cases h4 : o.f1 < regs.length
        · rw [if_neg (by omega), if_pos h4, if_pos (by omega), if_pos h4, wrap_f]; rfl
        · rw [if_pos (by omega), if_neg h4]
      · unfold mayB at hm
        rw [if_neg h1, if_neg h2, if_neg h3, ht] at hm
        simp at hm
theorem two_f (a x y : Int) : term_two.f a x y = some (twoB a x y) := by
  unfold term_two.f twoB
  simp only [add_f, sub_f, mul_f, truth_f, Option.bind_some]
  repeat' split
  all_goals first | rfl | (simp_all [tru])
/-- One operation on what is piled up, the uppermost first. -/
def stepB (h : List S58) (regs : List Int) (o : S41) (p : List Int) : Except Int (List Int) :=
  match takes o.f0, p with
  | 0, p => if (leafB o h regs).2 = 0 then .ok ((leafB o h regs).1 :: p) else .error (leafB o h regs).2
  | 1, x :: p => .ok (tru (x == 0) :: p)
  | 2, y :: x :: p => .ok (twoB o.f0 x y :: p)
  | _, _ => .error 9
def runT (h : List S58) (regs : List Int) : List S41 → List Int → Except Int (List Int)
  | [], p => .ok p
  | o :: os, p => match stepB h regs o p with | .ok q => runT h regs os q | .error e => .error e
def endB : Except Int (List Int) → Int × Int
  | .ok p => (p.headD 0, 0)
  | .error e => (0, e)
def evalB (t : List S41) (h : List S58) (regs : List Int) : Int × Int := if checkB t = 0 then (if RightB h = true then endB (runT h regs t []) else (0, 1)) else (0, checkB t)
theorem Eval_l (t : List S41) (h : List S58) (regs : List Int) (hm : t.length ≤ 12) (hmay : ∀ o ∈ t, mayB o.f0 o.f1 = true) (d : Nat) : ∀ (k i : Nat) (p : List Int), i ≤ t.length → t.length - i = d → d + 1 < k → p.length ≤ i → walkN (t.drop i) p.length = some 1 →
    term_Eval.l0 k h regs p.reverse t (t.length : Int) (i : Int) = some (endB (runT h regs (t.drop i) p)) := by
  induction d with
  | zero =>
    intro k i p hi hd hk hp hw
    obtain ⟨k, rfl⟩ : ∃ q, k = q + 1 := ⟨k - 1, by omega⟩
    rw [List.drop_of_length_le (by omega)] at hw ⊢
    simp only [walkN, Option.some.injEq] at hw
    simp only [term_Eval.l0, runT, endB]
    rw [if_neg (by omega), if_pos (by simp <;> omega)]
    match p, hw with
    | [x], _ => rfl
  | succ d ih =>
    intro k i p hi hd hk hp hw
    obtain ⟨k, rfl⟩ : ∃ q, k = q + 1 := ⟨k - 1, by omega⟩
    rw [drop_cons t z41 i (by omega)] at hw ⊢
    have hmo : mayB (t.getD i z41).f0 (t.getD i z41).f1 = true := hmay _ (by
      rw [List.getD_eq_getElem?_getD, List.getElem?_eq_getElem (by omega)]; exact List.getElem_mem _)
    simp only [walkN] at hw
    simp only [term_Eval.l0, runT]
    rw [if_pos (by omega), if_pos (by omega), if_pos (by omega), takes_f _ _ _ (by omega)]
    simp only [Option.bind_some]
    rw [show rd_T41 t (i : Int) = t.getD i z41 from rfl]
    generalize t.getD i z41 = o at *
    have hlt := takes_le o.f0
    by_cases h0 : takes o.f0 = 0
    · rw [h0] at hw ⊢
      rw [if_pos (show ((0 : Nat) : Int) = 0 from rfl), leaf_f o h regs hmo h0]
      simp only [Option.bind_some]
      unfold stepB
      simp only [h0]
      by_cases he : (leafB o h regs).2 = 0
      · rw [if_pos he, if_pos he]
        have e1 : wrap64 ((p.reverse.length : Int) - ((0 : Nat) : Int)) = (p.length : Int) := by rw [wr (by simp <;> omega) (by simp <;> omega)]; simp
        rw [e1, if_pos (by omega), if_pos (by simp), if_pos (by simp <;> omega), wrN (by omega)]
        have e2 : List.take (p.length : Int).toNat p.reverse ++ [(leafB o h regs).1] = ((leafB o h regs).1 :: p).reverse := by
          rw [List.take_of_length_le (by simp)]; simp
        rw [e2]
        exact ih k (i + 1) _ (by omega) (by omega) (by omega) (by simp <;> omega) (by simpa using hw)
      · rw [if_neg he, if_neg he]; rfl
    · rw [if_neg (by omega)]
      by_cases h1 : takes o.f0 = 1
      · rw [h1] at hw ⊢
        rw [if_pos (show ((1 : Nat) : Int) = 1 from rfl)]
        match p, hw, hp with
        | [], hw, _ => simp at hw
        | x :: p, hw, hp =>
          have e1 : wrap64 (((x :: p).reverse.length : Int) - ((1 : Nat) : Int)) = (p.length : Int) := by
            simp only [List.length_cons] at hp
            rw [wr (by simp <;> omega) (by simp <;> omega)]; simp
          have e3 : rd (x :: p).reverse (p.length : Int) = x := by unfold rd; simp
          have e2 : List.take (p.length : Int).toNat (x :: p).reverse = p.reverse := by simp
          simp only [List.length_cons] at hp
          rw [e1, e2, e3, if_pos (by omega), if_pos (by simp <;> omega), truth_f]
          simp only [Option.bind_some]
          rw [if_pos (by simp <;> omega), if_pos (by simp <;> omega), wrN (by omega)]
          unfold stepB
          simp only [h1]
          have := ih k (i + 1) (tru (x == 0) :: p) (by omega) (by omega) (by omega) (by simp <;> omega) (by simpa using hw)
          rw [← this]; simp [tru]
      · have h2 : takes o.f0 = 2 := by omega
        rw [h2] at hw ⊢
        rw [if_neg (show ¬ ((2 : Nat) : Int) = 1 by decide)]
        match p, hw, hp with
        | [], hw, _ => simp at hw
        | [_], hw, _ => simp at hw
        | y :: x :: p, hw, hp =>
          have e1 : wrap64 (((y :: x :: p).reverse.length : Int) - ((2 : Nat) : Int)) = (p.length : Int) := by
            simp only [List.length_cons] at hp
            rw [wr (by simp <;> omega) (by simp <;> omega)]; simp <;> omega
          have e3 : rd (y :: x :: p).reverse (p.length : Int) = x := by unfold rd; simp
          have e4 : rd (y :: x :: p).reverse ((p.length + 1 : Nat) : Int) = y := by unfold rd; simp
          have e2 : List.take (p.length : Int).toNat (y :: x :: p).reverse = p.reverse := by simp
          simp only [List.length_cons] at hp
          rw [e1, wrN (i := p.length) (by omega), e2, e3, e4, if_pos (by omega), if_pos (by simp <;> omega), if_pos (by omega), if_pos (by simp <;> omega), two_f]
          simp only [Option.bind_some]
          rw [if_pos (by simp <;> omega), if_pos (by simp <;> omega), wrN (by omega)]
          unfold stepB
          simp only [h2]
          have := ih k (i + 1) (twoB o.f0 x y :: p) (by omega) (by omega) (by omega) (by simp <;> omega) (by simpa using hw)
          rw [← this]; simp
theorem Eval_f (k : Nat) (t : List S41) (h : List S58) (regs : List Int) (hk : 20 ≤ k) : term_Eval.f k t h regs = some (evalB t h regs) := by
  unfold term_Eval.f evalB
  rw [Check_f k t hk, Right_f]
  simp only [Option.bind_some]
  by_cases h1 : checkB t = 0
  · rw [if_pos h1, if_pos h1]
    by_cases h2 : RightB h = true
    · rw [if_pos h2, if_pos h2]
      obtain ⟨a, b, c, e⟩ := checkB_ok h1
      exact Eval_l t h regs b c t.length k 0 [] (by omega) (by omega) (by omega) (by simp) e
    · rw [if_neg h2, if_neg h2]
  · rw [if_neg h1, if_neg h1]
end Go.Proofs.Ytbcpnbmegaodbaa.Tc
