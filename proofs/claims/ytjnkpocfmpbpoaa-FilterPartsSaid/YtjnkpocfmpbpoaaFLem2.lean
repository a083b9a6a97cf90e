/-
 PROVED: Plain lemmas on numbers and lists, of what the printed functions answer. No condition beside those of each lemma.
-/
import Derived.Test.YtjnkpocfmpbpoaaFLem
import Derived.Test.YtjnkpocfmpbpoaaFx3
import Derived.Test.YtjnkpocfmpbpoaaFx4
import Derived.Test.YtjnkpocfmpbpoaaFx8
import Derived.Test.YtjnkpocfmpbpoaaFx9
namespace Go.Proofs.Ytjnkpocfmpbpoaa.F
open Go.RowKit Go.Proofs.YtjnkpocfmpbpoaaW.PrintWords Go.Proofs.YtjnkpocfmpbpoaaW.PrintLast Go.Proofs.YtjnkpocfmpbpoaaW.PrintMore Go.Proofs.Ytjnkpocfmpbpoaa.Ho
set_option linter.unusedVariables false
set_option linter.unusedSimpArgs false
theorem u64w (a : Int) : IntKind.u64.wrap a = a % 18446744073709551616 := by
 unfold IntKind.wrap
 simp [IntKind.bits, IntKind.signed]
theorem w32_eq {x y : Int} : wrap32 x = wrap32 y ↔ x % 4294967296 = y % 4294967296 := by
 unfold wrap32; omega
theorem w32_w64 (x : Int) : wrap32 (wrap64 x) = wrap32 x := by unfold wrap32 wrap64; omega
theorem w32_addl (x y : Int) : wrap32 (wrap32 x + y) = wrap32 (x + y) := by unfold wrap32; omega
theorem w32_addr (x y : Int) : wrap32 (x + wrap32 y) = wrap32 (x + y) := by unfold wrap32; omega
theorem w32_subl (x y : Int) : wrap32 (wrap32 x - y) = wrap32 (x - y) := by unfold wrap32; omega
theorem w32_subr (x y : Int) : wrap32 (x - wrap32 y) = wrap32 (x - y) := by unfold wrap32; omega
theorem w32_mod (x : Int) : wrap32 x % 4294967296 = x % 4294967296 := by unfold wrap32; omega
theorem w32_mull (x y : Int) : wrap32 (wrap32 x * y) = wrap32 (x * y) := by
 rw [w32_eq, Int.mul_emod, w32_mod, ← Int.mul_emod]
theorem w32_mulr (x y : Int) : wrap32 (x * wrap32 y) = wrap32 (x * y) := by
 rw [w32_eq, Int.mul_emod, w32_mod, ← Int.mul_emod]
theorem wrap_f (a : Int) : span_Wrap.f a = some (wrap32 a) := by
 unfold span_Wrap.f
 rw [u64w]; unfold wrap64 wrap32
 congr 1; omega
theorem add_f (a b : Int) : span_Add.f a b = some (wrap32 (a + b)) := by
 unfold span_Add.f
 simp only [wrap_f, Option.bind_some, w32_w64, w32_addl, w32_addr]
theorem sub_f (a b : Int) : span_Sub.f a b = some (wrap32 (a - b)) := by
 unfold span_Sub.f
 simp only [wrap_f, Option.bind_some, w32_w64, w32_subl, w32_subr]
theorem mul_f (a b : Int) : span_Mul.f a b = some (wrap32 (a * b)) := by
 unfold span_Mul.f
 simp only [wrap_f, Option.bind_some, w32_w64, w32_mull, w32_mulr]
theorem truth_f (a : Bool) : span_Truth.f a = some (if a then 1 else 0) := by
 unfold span_Truth.f
 split <;> rfl
/-! ### heaps -/
def okC (c : S98) : Bool := inR c.f1 && (c.f0 || c.f1 == 0)
def RightB (h : List S98) : Bool := decide (1 ≤ h.length) && decide (h.length ≤ 64) && h.all okC
def there (h : List S98) (c : Int) : Bool := decide (0 ≤ c ∧ c < h.length) && (h.getD c.toNat z98).f0
def getB (h : List S98) (c : Int) : Int × Int := if RightB h = true then if there h c = true then ((h.getD c.toNat z98).f1, 0) else (0, 3) else (0, 1)
theorem wrong_f (a : Bool) (v : Int) : heap_wrong.f a v = some (!(okC ⟨a, v⟩)) := by
 unfold heap_wrong.f
 rw [right_f]
 simp only [Option.bind_some, okC]
 cases inR v <;> cases a <;> first | rfl | (by_cases h : v = 0 <;> simp [h])
theorem all_okC (h : List S98) : (!(h.any fun x => !(okC x))) = h.all okC := by
 induction h with
 | nil => rfl
 | cons x xs ih => simp only [List.any_cons, List.all_cons, ← ih]; cases okC x <;> simp
theorem Right_f (h : List S98) : heap_Right.f h = some (RightB h) := by
 unfold heap_Right.f any_at_heap_wrong.f RightB
 rw [anyF_T (p := fun x => !(okC x)) h (fun x _ => wrong_f x.f0 x.f1)]
 simp only [Option.bind_some, all_okC]
 by_cases h1 : (h.length : Int) ≥ 1
 · rw [if_pos h1]
   by_cases h2 : (h.length : Int) ≤ 64
   · rw [if_pos h2]
     have e1 : decide (1 ≤ h.length) = true := by simp; omega
     have e2 : decide (h.length ≤ 64) = true := by simp; omega
     rw [e1, e2]; simp
   · rw [if_neg h2]
     have e2 : decide (h.length ≤ 64) = false := by simp; omega
     rw [e2]; simp
 · rw [if_neg h1]
   have e1 : decide (1 ≤ h.length) = false := decide_eq_false (by omega)
   rw [e1]; simp
theorem Right_len {h : List S98} (hr : RightB h = true) : 1 ≤ h.length ∧ h.length ≤ 64 ∧ ∀ x ∈ h, okC x = true := by
 simp only [RightB, Bool.and_eq_true, decide_eq_true_eq, List.all_eq_true] at hr
 exact ⟨hr.1.1, hr.1.2, hr.2⟩
theorem there_f (h : List S98) (c : Int) : heap_there.f h c = some (there h c) := by
 unfold heap_there.f there
 by_cases h0 : c ≥ 0
 · rw [if_pos h0]
   by_cases h1 : c < (h.length : Int)
   · rw [if_pos h1, if_pos h0]
     have : decide (0 ≤ c ∧ c < (h.length : Int)) = true := decide_eq_true ⟨h0, h1⟩
     rw [this]; rfl
   · rw [if_neg h1]
     have : decide (0 ≤ c ∧ c < (h.length : Int)) = false := decide_eq_false (fun e => h1 e.2)
     rw [this]; rfl
 · rw [if_neg h0]
   have : decide (0 ≤ c ∧ c < (h.length : Int)) = false := decide_eq_false (fun e => h0 e.1)
   rw [this]; rfl
theorem there_rng {h : List S98} {c : Int} (ht : there h c = true) : 0 ≤ c ∧ c < h.length ∧ (h.getD c.toNat z98).f0 = true := by
 simp only [there, Bool.and_eq_true, decide_eq_true_eq] at ht
 exact ⟨ht.1.1, ht.1.2, ht.2⟩
theorem Get_f (h : List S98) (c : Int) : heap_Get.f h c = some (getB h c) := by
 unfold heap_Get.f getB
 rw [Right_f, there_f]
 simp only [Option.bind_some]
 by_cases hr : RightB h = true
 · rw [if_pos hr, if_pos hr]
   by_cases ht : there h c = true
   · obtain ⟨h0, h1, _⟩ := there_rng ht
     rw [if_pos ht, if_pos ht, if_pos h0, if_pos h1]; rfl
   · rw [if_neg ht, if_neg ht]
 · rw [if_neg hr, if_neg hr]
/-! ### terms -/
def takes (a : Int) : Nat := if 4 ≤ a ∧ a ≤ 10 then 2 else if a = 11 then 1 else 0
theorem takes_le (a : Int) : takes a ≤ 2 := by unfold takes; split <;> (try split) <;> omega
def mayB (a b : Int) : Bool := if a = 1 then inR b else if a = 2 then decide (0 ≤ b ∧ b < 64) else if a = 3 then decide (0 ≤ b ∧ b < 8) else decide (0 < takes a) && b == 0
theorem takes_f (k : Nat) (a b : Int) (hk : 0 < k) : term_Op_takes.f k a b = some (takes a : Int) := by
 obtain ⟨k, rfl⟩ : ∃ q, k = q + 1 := ⟨k - 1, by omega⟩
 unfold term_Op_takes.f takes
 simp only [term_Op_takes.j0, decide_eq_true_eq]
 repeat' split
 all_goals first | rfl | (exfalso; omega) | (simp at *; done) | (simp at *; omega)
theorem may_f (k : Nat) (a b : Int) (hk : 0 < k) : term_Op_may.f k a b = some (mayB a b) := by
 unfold term_Op_may.f mayB
 rw [takes_f _ _ _ hk, right_f]
 simp only [Option.bind_some]
 split
 · rfl
 · split
   · by_cases h : b ≥ 0 <;> simp [h]
   · split
     · by_cases h : b ≥ 0 <;> simp [h]
     · by_cases h : takes a = 0
       · simp [h]
       · rw [if_pos (by omega), decide_eq_true (by omega)]; simp
/-- How many numbers there are behind all, or none if there are too few. -/
def walkN : List S80 → Nat → Option Nat
 | [], n => some n
 | o :: os, n => if n < takes o.f0 then none else walkN os (n + 1 - takes o.f0)
def mostN : List S80 → Nat → Nat → Nat
 | [], _, m => m
 | o :: os, n, m => if n < takes o.f0 then 0 else mostN os (n + 1 - takes o.f0) (if m < n + 1 - takes o.f0 then n + 1 - takes o.f0 else m)
def walkI (t : List S80) (n : Nat) : Int := match walkN t n with | some m => (m : Int) | none => -1
theorem walk_l (t : List S80) (hm : t.length < 4398046511104) (d : Nat) : ∀ (k i n m : Nat), i ≤ t.length → t.length - i = d → d + 1 < k → n ≤ i → m ≤ i →
 term_walk.l0 k (n : Int) (m : Int) t (t.length : Int) (i : Int) = some (walkI (t.drop i) n, (mostN (t.drop i) n m : Int)) := by
 induction d with
 | zero =>
  intro k i n m hi hd hk hn hm'
  obtain ⟨k, rfl⟩ : ∃ q, k = q + 1 := ⟨k - 1, by omega⟩
  rw [List.drop_of_length_le (by omega)]
  simp only [term_walk.l0, walkI, walkN, mostN]
  rw [if_neg (by omega)]
 | succ d ih =>
  intro k i n m hi hd hk hn hm'
  obtain ⟨k, rfl⟩ : ∃ q, k = q + 1 := ⟨k - 1, by omega⟩
  rw [drop_cons t z80 i (by omega)]
  simp only [term_walk.l0]
  rw [if_pos (by omega), if_pos (by omega), if_pos (by omega), takes_f _ _ _ (by omega)]
  simp only [Option.bind_some]
  rw [show rd_T80 t (i : Int) = t.getD i z80 from rfl]
  have hlt := takes_le (t.getD i z80).f0
  unfold walkI
  simp only [walkN, mostN]
  by_cases h : n < takes (t.getD i z80).f0
  · rw [if_pos (by omega), if_pos h, if_pos h]; rfl
  · rw [if_neg (by omega), if_neg h, if_neg h, wrN (by omega)]
    have e1 : wrap64 ((n : Int) + wrap64 (1 - (takes (t.getD i z80).f0 : Int))) = ((n + 1 - takes (t.getD i z80).f0 : Nat) : Int) := by
     rw [wr (i := 1 - (takes (t.getD i z80).f0 : Int)) (by omega) (by omega), wr (by omega) (by omega)]; omega
    rw [e1]
    have e2 : mx (m : Int) ((n + 1 - takes (t.getD i z80).f0 : Nat) : Int) = ((if m < n + 1 - takes (t.getD i z80).f0 then n + 1 - takes (t.getD i z80).f0 else m : Nat) : Int) := by
     unfold mx
     by_cases h3 : m < n + 1 - takes (t.getD i z80).f0
     · rw [if_pos h3, if_pos (by omega)]
     · rw [if_neg h3, if_neg (by omega)]
    rw [e2, ih k (i + 1) _ _ (by omega) (by omega) (by omega) (by omega) (by split <;> omega)]
    rfl
theorem walk_f (k : Nat) (t : List S80) (hm : t.length < 4398046511104) (hk : t.length + 1 < k) : term_walk.f k t = some (walkI t 0, (mostN t 0 0 : Int)) := by
 unfold term_walk.f
 have := walk_l t hm t.length k 0 0 0 (by omega) (by omega) (by omega) (by omega) (by omega)
 simpa using this
def mayAll (t : List S80) : Bool := t.all fun o => mayB o.f0 o.f1
/-- Does it stand well? -/
def checkB (t : List S80) : Int := if 1 ≤ t.length ∧ t.length ≤ 12 ∧ mayAll t = true then (if walkN t 0 = some 1 then 0 else 2) else 1
theorem any_may (k : Nat) (t : List S80) (hk : 0 < k) : any_at_term_Check_1.f k t = some (!(mayAll t)) := by
 unfold any_at_term_Check_1.f mayAll
 rw [anyF_T (p := fun o => !(mayB o.f0 o.f1)) t (fun o _ => by unfold term_Check_1.f; rw [may_f _ _ _ hk]; rfl)]
 congr 1
 induction t with
 | nil => rfl
 | cons x xs ih => simp only [List.any_cons, List.all_cons, ih]; cases mayB x.f0 x.f1 <;> simp
theorem walkI_one (t : List S80) : walkI t 0 = 1 ↔ walkN t 0 = some 1 := by
 unfold walkI
 cases walkN t 0 with
 | none => simp
 | some m => simp; omega
theorem Check_f (k : Nat) (t : List S80) (hk : 20 ≤ k) : term_Check.f k t = some (checkB t) := by
 obtain ⟨k, rfl⟩ : ∃ q, k = q + 1 := ⟨k - 1, by omega⟩
 unfold term_Check.f checkB
 simp only [term_Check.j0]
 by_cases h1 : t.length < 1
 · rw [if_pos (by omega), if_pos trivial, if_neg (by omega)]
 · rw [if_neg (by omega)]
   by_cases h2 : t.length > 12
   · rw [if_pos (by omega), if_pos trivial, if_neg (by omega)]
   · rw [if_neg (by omega), any_may _ _ (by omega)]
     simp only [Option.bind_some]
     by_cases h3 : mayAll t = true
     · rw [h3, if_neg (by simp), if_pos ⟨by omega, by omega, rfl⟩, walk_f k t (by omega) (by omega)]
       simp only [Option.bind_some]
       by_cases h4 : walkN t 0 = some 1
       · rw [if_pos ((walkI_one t).2 h4), if_pos h4]
       · rw [if_neg (fun e => h4 ((walkI_one t).1 e)), if_neg h4]
     · rw [if_pos (by simpa using h3), if_neg (fun e => h3 e.2.2)]
theorem checkB_ok {t : List S80} (h : checkB t = 0) : 1 ≤ t.length ∧ t.length ≤ 12 ∧ (∀ o ∈ t, mayB o.f0 o.f1 = true) ∧ walkN t 0 = some 1 := by
 unfold checkB at h
 split at h
 · rename_i h1
   split at h
   · exact ⟨h1.1, h1.2.1, by simpa [mayAll] using h1.2.2, by assumption⟩
   · simp at h
 · simp at h
def deepB (t : List S80) : Int := if checkB t = 0 then (mostN t 0 0 : Int) else 0
/-! what is told -/
def leafB (o : S80) (h : List S98) (regs : List Int) : Int × Int := if o.f0 = 1 then (o.f1, 0) else if o.f0 = 2 then getB h o.f1 else if o.f1 < regs.length then (wrap32 (regs.getD o.f1.toNat 0), 0) else (0, 3)
def tru (b : Bool) : Int := if b then 1 else 0
def twoB (a x y : Int) : Int := if a = 4 then wrap32 (x + y) else if a = 5 then wrap32 (x - y) else if a = 6 then wrap32 (x * y) else if a = 7 then tru (x == y) else if a = 8 then tru (decide (x < y)) else if a = 9 then tru (x != 0 && y != 0) else tru (x != 0 || y != 0)
theorem leaf_f (o : S80) (h : List S98) (regs : List Int) (hm : mayB o.f0 o.f1 = true) (ht : takes o.f0 = 0) : term_leaf.f o.f0 o.f1 h regs = some (leafB o h regs) := by
 unfold term_leaf.f leafB
 by_cases h1 : o.f0 = 1
 · rw [if_pos h1, if_pos h1]
 · rw [if_neg h1, if_neg h1]
   by_cases h2 : o.f0 = 2
   · rw [if_pos h2, if_pos h2, Get_f]; rfl
   · rw [if_neg h2, if_neg h2]
     by_cases h3 : o.f0 = 3
     · have : 0 ≤ o.f1 ∧ o.f1 < 8 := by
        unfold mayB at hm
        rw [if_neg h1, if_neg h2, if_pos h3] at hm
        simpa using hm
       by_cases h4 : o.f1 < regs.length
       · rw [if_neg (by omega), if_pos h4, if_pos (by omega), if_pos h4, wrap_f]; rfl
       · rw [if_pos (by omega), if_neg h4]
     · unfold mayB at hm
       rw [if_neg h1, if_neg h2, if_neg h3, ht] at hm
       simp at hm
theorem two_f (a x y : Int) : term_two.f a x y = some (twoB a x y) := by
 unfold term_two.f twoB
 simp only [add_f, sub_f, mul_f, truth_f, Option.bind_some]
 repeat' split
 all_goals first | rfl | (simp_all [tru])
/-- One operation on what is piled up, the uppermost first. -/
def stepB (h : List S98) (regs : List Int) (o : S80) (p : List Int) : Except Int (List Int) :=
 match takes o.f0, p with
 | 0, p => if (leafB o h regs).2 = 0 then .ok ((leafB o h regs).1 :: p) else .error (leafB o h regs).2
 | 1, x :: p => .ok (tru (x == 0) :: p)
 | 2, y :: x :: p => .ok (twoB o.f0 x y :: p)
 | _, _ => .error 9
def runT (h : List S98) (regs : List Int) : List S80 → List Int → Except Int (List Int)
 | [], p => .ok p
 | o :: os, p => match stepB h regs o p with | .ok q => runT h regs os q | .error e => .error e
def endB : Except Int (List Int) → Int × Int
 | .ok p => (p.headD 0, 0)
 | .error e => (0, e)
def evalB (t : List S80) (h : List S98) (regs : List Int) : Int × Int := if checkB t = 0 then (if RightB h = true then endB (runT h regs t []) else (0, 1)) else (0, checkB t)
theorem Eval_l (t : List S80) (h : List S98) (regs : List Int) (hm : t.length ≤ 12) (hmay : ∀ o ∈ t, mayB o.f0 o.f1 = true) (d : Nat) : ∀ (k i : Nat) (p : List Int), i ≤ t.length → t.length - i = d → d + 1 < k → p.length ≤ i → walkN (t.drop i) p.length = some 1 →
 term_Eval.l0 k h regs p.reverse t (t.length : Int) (i : Int) = some (endB (runT h regs (t.drop i) p)) := by
 induction d with
 | zero =>
  intro k i p hi hd hk hp hw
  obtain ⟨k, rfl⟩ : ∃ q, k = q + 1 := ⟨k - 1, by omega⟩
  rw [List.drop_of_length_le (by omega)] at hw ⊢
  simp only [walkN, Option.some.injEq] at hw
  simp only [term_Eval.l0, runT, endB]
  rw [if_neg (by omega), if_pos (by simp <;> omega)]
  match p, hw with
  | [x], _ => rfl
 | succ d ih =>
  intro k i p hi hd hk hp hw
  obtain ⟨k, rfl⟩ : ∃ q, k = q + 1 := ⟨k - 1, by omega⟩
  rw [drop_cons t z80 i (by omega)] at hw ⊢
  have hmo : mayB (t.getD i z80).f0 (t.getD i z80).f1 = true := hmay _ (by
   rw [List.getD_eq_getElem?_getD, List.getElem?_eq_getElem (by omega)]; exact List.getElem_mem _)
  simp only [walkN] at hw
  simp only [term_Eval.l0, runT]
  rw [if_pos (by omega), if_pos (by omega), if_pos (by omega), takes_f _ _ _ (by omega)]
  simp only [Option.bind_some]
  rw [show rd_T80 t (i : Int) = t.getD i z80 from rfl]
  generalize t.getD i z80 = o at *
  have hlt := takes_le o.f0
  by_cases h0 : takes o.f0 = 0
  · rw [h0] at hw ⊢
    rw [if_pos (show ((0 : Nat) : Int) = 0 from rfl), leaf_f o h regs hmo h0]
    simp only [Option.bind_some]
    unfold stepB
    simp only [h0]
    by_cases he : (leafB o h regs).2 = 0
    · rw [if_pos he, if_pos he]
      have e1 : wrap64 ((p.reverse.length : Int) - ((0 : Nat) : Int)) = (p.length : Int) := by rw [wr (by simp <;> omega) (by simp <;> omega)]; simp
      rw [e1, if_pos (by omega), if_pos (by simp), if_pos (by simp <;> omega), wrN (by omega)]
      have e2 : List.take (p.length : Int).toNat p.reverse ++ [(leafB o h regs).1] = ((leafB o h regs).1 :: p).reverse := by
       rw [List.take_of_length_le (by simp)]; simp
      rw [e2]
      exact ih k (i + 1) _ (by omega) (by omega) (by omega) (by simp <;> omega) (by simpa using hw)
    · rw [if_neg he, if_neg he]; rfl
  · rw [if_neg (by omega)]
    by_cases h1 : takes o.f0 = 1
    · rw [h1] at hw ⊢
      rw [if_pos (show ((1 : Nat) : Int) = 1 from rfl)]
      match p, hw, hp with
      | [], hw, _ => simp at hw
      | x :: p, hw, hp =>
       have e1 : wrap64 (((x :: p).reverse.length : Int) - ((1 : Nat) : Int)) = (p.length : Int) := by
        simp only [List.length_cons] at hp
        rw [wr (by simp <;> omega) (by simp <;> omega)]; simp
       have e3 : rd (x :: p).reverse (p.length : Int) = x := by unfold rd; simp
       have e2 : List.take (p.length : Int).toNat (x :: p).reverse = p.reverse := by simp
       simp only [List.length_cons] at hp
       rw [e1, e2, e3, if_pos (by omega), if_pos (by simp <;> omega), truth_f]
       simp only [Option.bind_some]
       rw [if_pos (by simp <;> omega), if_pos (by simp <;> omega), wrN (by omega)]
       unfold stepB
       simp only [h1]
       have := ih k (i + 1) (tru (x == 0) :: p) (by omega) (by omega) (by omega) (by simp <;> omega) (by simpa using hw)
       rw [← this]; simp [tru]
    · have h2 : takes o.f0 = 2 := by omega
      rw [h2] at hw ⊢
      rw [if_neg (show ¬ ((2 : Nat) : Int) = 1 by decide)]
      match p, hw, hp with
      | [], hw, _ => simp at hw
      | [_], hw, _ => simp at hw
      | y :: x :: p, hw, hp =>
       have e1 : wrap64 (((y :: x :: p).reverse.length : Int) - ((2 : Nat) : Int)) = (p.length : Int) := by
        simp only [List.length_cons] at hp
        rw [wr (by simp <;> omega) (by simp <;> omega)]; simp <;> omega
       have e3 : rd (y :: x :: p).reverse (p.length : Int) = x := by unfold rd; simp
       have e4 : rd (y :: x :: p).reverse ((p.length + 1 : Nat) : Int) = y := by unfold rd; simp
       have e2 : List.take (p.length : Int).toNat (y :: x :: p).reverse = p.reverse := by simp
       simp only [List.length_cons] at hp
       rw [e1, wrN (i := p.length) (by omega), e2, e3, e4, if_pos (by omega), if_pos (by simp <;> omega), if_pos (by omega), if_pos (by simp <;> omega), two_f]
       simp only [Option.bind_some]
       rw [if_pos (by simp <;> omega), if_pos (by simp <;> omega), wrN (by omega)]
       unfold stepB
       simp only [h2]
       have := ih k (i + 1) (twoB o.f0 x y :: p) (by omega) (by omega) (by omega) (by simp <;> omega) (by simpa using hw)
       rw [← this]; simp
theorem Eval_f (k : Nat) (t : List S80) (h : List S98) (regs : List Int) (hk : 20 ≤ k) : term_Eval.f k t h regs = some (evalB t h regs) := by
 unfold term_Eval.f evalB
 rw [Check_f k t hk, Right_f]
 simp only [Option.bind_some]
 by_cases h1 : checkB t = 0
 · rw [if_pos h1, if_pos h1]
   by_cases h2 : RightB h = true
   · rw [if_pos h2, if_pos h2]
     obtain ⟨a, b, c, e⟩ := checkB_ok h1
     exact Eval_l t h regs b c t.length k 0 [] (by omega) (by omega) (by omega) (by simp) e
   · rw [if_neg h2, if_neg h2]
 · rw [if_neg h1, if_neg h1]
/-! the cells that a term names -/
def cellsL (t : List S80) : List Int := (t.filter fun o => o.f0 == 2).map fun o => o.f1
def cellsB (t : List S80) : List Int := if checkB t = 0 then Go.Lib.compact ((cellsL t).mergeSort fun x y => decide (x ≤ y)) else []
theorem Cells_l (t : List S80) (hm : t.length ≤ 12) (d : Nat) : ∀ (k i : Nat) (out : List Int), i ≤ t.length → t.length - i = d → d < k → out.length ≤ i →
 term_Cells.l0 k out t (t.length : Int) (i : Int) = some (Go.Lib.compact ((out ++ cellsL (t.drop i)).mergeSort fun x y => decide (x ≤ y))) := by
 induction d with
 | zero =>
  intro k i out hi hd hk ho
  obtain ⟨k, rfl⟩ : ∃ m, k = m + 1 := ⟨k - 1, by omega⟩
  rw [List.drop_of_length_le (by omega)]
  simp only [term_Cells.l0, slices_Sort.f, slices_Compact.f]
  rw [if_neg (by omega), if_pos (by omega)]
  simp only [Option.bind_some]
  rw [if_pos (by simp; omega)]
  simp [cellsL]
 | succ d ih =>
  intro k i out hi hd hk ho
  obtain ⟨k, rfl⟩ : ∃ m, k = m + 1 := ⟨k - 1, by omega⟩
  rw [drop_cons t z80 i (by omega)]
  simp only [term_Cells.l0]
  rw [if_pos (by omega), if_pos (by omega), if_pos (by omega), wrN (by omega)]
  rw [show rd_T80 t (i : Int) = t.getD i z80 from rfl]
  by_cases h2 : (t.getD i z80).f0 = 2
  · rw [if_pos h2, if_pos (by omega), ih k (i + 1) _ (by omega) (by omega) (by omega) (by simp; omega)]
    have : cellsL (t.getD i z80 :: t.drop (i + 1)) = (t.getD i z80).f1 :: cellsL (t.drop (i + 1)) := by
     unfold cellsL
     generalize t.getD i z80 = o at h2 ⊢
     simp [List.filter_cons, h2]
    rw [this]; simp
  · rw [if_neg h2, ih k (i + 1) _ (by omega) (by omega) (by omega) (by omega)]
    have : cellsL (t.getD i z80 :: t.drop (i + 1)) = cellsL (t.drop (i + 1)) := by
     unfold cellsL
     generalize t.getD i z80 = o at h2 ⊢
     simp [List.filter_cons, h2]
    rw [this]
theorem Cells_f (k : Nat) (t : List S80) (hk : 20 ≤ k) : term_Cells.f k t = some (cellsB t) := by
 unfold term_Cells.f cellsB
 rw [Check_f k t hk]
 simp only [Option.bind_some]
 by_cases h : checkB t = 0
 · rw [if_pos h, if_pos h]
   have := checkB_ok h
   exact Cells_l t (by omega) t.length k 0 [] (by omega) (by omega) (by omega) (by simp)
 · rw [if_neg h, if_neg h]
end Go.Proofs.Ytjnkpocfmpbpoaa.F
