/-
 PROVED: Plain lemmas on numbers and lists, of what the printed functions answer. No condition beside those of each lemma.
-/
import Derived.Test.YtihcnbhcemkncaaBx3
import Derived.Test.YtihcnbhcemkncaaBx4
import Derived.Test.YtihcnbhcemkncaaBx5
import Derived.Test.YtihcnbhcemkncaaBx6
import Derived.Test.YtihcnbhcemkncaaBx7
namespace Go.Proofs.Ytihcnbhcemkncaa.B
open Go.RowKit Go.Proofs.YtihcnbhcemkncaaW.PrintWords Go.Proofs.YtihcnbhcemkncaaW.PrintLast Go.Proofs.YtihcnbhcemkncaaW.PrintMore Go.Proofs.Ytihcnbhcemkncaa.Ho
set_option linter.unusedVariables false
set_option linter.unusedSimpArgs false
theorem wr {i : Int} (h0 : -9223372036854775808 ≤ i) (h : i ≤ 9223372036854775807) : wrap64 i = i := by unfold wrap64; omega
theorem wrN {i : Nat} (h : i < 4611686018427387904) : wrap64 ((i : Int) + 1) = ((i + 1 : Nat) : Int) := by unfold wrap64; omega
theorem drop_cons {α : Type} (l : List α) (z : α) (i : Nat) (h : i < l.length) : l.drop i = l.getD i z :: l.drop (i + 1) := by
 rw [List.drop_eq_getElem_cons h]
 simp [List.getElem?_eq_getElem h]
/-- The first place at which p holds, from i on, or -1. -/
def idxT {α : Type} (p : α → Bool) : List α → Int → Int
 | [], _ => -1
 | x :: xs, i => if p x then i else idxT p xs (i + 1)
theorem idxT_yes {α : Type} {p : α → Bool} {x : α} {xs : List α} {i : Int} (h : p x = true) : idxT p (x :: xs) i = i := by simp [idxT, h]
theorem idxT_no {α : Type} {p : α → Bool} {x : α} {xs : List α} {i : Int} (h : p x = false) : idxT p (x :: xs) i = idxT p xs (i + 1) := by simp [idxT, h]
theorem idxF_T {α : Type} {f : α → Option Bool} {p : α → Bool} : ∀ (l : List α) (i : Int), (∀ x ∈ l, f x = some (p x)) → idxF f l i = some (idxT p l i)
 | [], _, _ => rfl
 | x :: xs, i, h => by
  simp only [idxF, idxT]
  rw [h x (by simp), idxF_T xs (i + 1) (fun y hy => h y (by simp [hy]))]
  simp only [Option.bind_some]
  cases p x <;> rfl
theorem anyF_T {α : Type} {f : α → Option Bool} {p : α → Bool} : ∀ (l : List α), (∀ x ∈ l, f x = some (p x)) → anyF f l = some (l.any p)
 | [], _ => rfl
 | x :: xs, h => by
  simp only [anyF, List.any_cons]
  rw [h x (by simp), anyF_T xs (fun y hy => h y (by simp [hy]))]
  simp only [Option.bind_some]
  cases p x <;> rfl
def inR (v : Int) : Bool := decide (-2147483648 ≤ v ∧ v ≤ 2147483647)
theorem right_f (a : Int) : span_Right.f a = some (inR a) := by
 unfold span_Right.f inR
 by_cases h : a ≥ (-2147483648)
 · rw [if_pos h]; simp [h]
 · rw [if_neg h]; simp [h]
theorem u64w (a : Int) : IntKind.u64.wrap a = a % 18446744073709551616 := by
 unfold IntKind.wrap
 simp [IntKind.bits, IntKind.signed]
theorem w64_small {x : Int} (h : -9223372036854775808 ≤ x) (h2 : x ≤ 9223372036854775807) : wrap64 x = x := by
 unfold wrap64; omega
theorem w32_lo (x : Int) : -2147483648 ≤ wrap32 x := by unfold wrap32; omega
theorem w32_hi (x : Int) : wrap32 x ≤ 2147483647 := by unfold wrap32; omega
theorem w32_w64 (x : Int) : wrap32 (wrap64 x) = wrap32 x := by unfold wrap32 wrap64; omega
theorem w32_addl (x y : Int) : wrap32 (wrap32 x + y) = wrap32 (x + y) := by unfold wrap32; omega
theorem w32_addr (x y : Int) : wrap32 (x + wrap32 y) = wrap32 (x + y) := by unfold wrap32; omega
theorem tmodM (a : Int) : a.tmod 4294967296 = if 0 ≤ a then a % 4294967296 else -((-a) % 4294967296) := by
 split
 · exact Int.tmod_eq_emod_of_nonneg ‹_›
 · have : a.tmod 4294967296 = -((-a).tmod 4294967296) := by rw [Int.neg_tmod]; omega
   rw [this, Int.tmod_eq_emod_of_nonneg (by omega)]
theorem wrap_f (a : Int) : span_Wrap.f a = some (wrap32 a) := by
 unfold span_Wrap.f
 rw [u64w]; unfold wrap64 wrap32
 congr 1; omega
theorem add_f (a b : Int) : span_Add.f a b = some (wrap32 (a + b)) := by
 unfold span_Add.f
 simp only [wrap_f, Option.bind_some, w32_w64, w32_addl, w32_addr]
/-! ### heaps -/
def okC (c : S66) : Bool := inR c.f1 && (c.f0 || c.f1 == 0)
def RightB (h : List S66) : Bool := decide (1 ≤ h.length) && decide (h.length ≤ 64) && h.all okC
def there (h : List S66) (c : Int) : Bool := decide (0 ≤ c ∧ c < h.length) && (h.getD c.toNat z66).f0
def getB (h : List S66) (c : Int) : Int × Int := if RightB h = true then if there h c = true then ((h.getD c.toNat z66).f1, 0) else (0, 3) else (0, 1)
theorem wrong_f (a : Bool) (v : Int) : heap_wrong.f a v = some (!(okC ⟨a, v⟩)) := by
 unfold heap_wrong.f
 rw [right_f]
 simp only [Option.bind_some, okC]
 cases inR v <;> cases a <;> first | rfl | (by_cases h : v = 0 <;> simp [h])
theorem all_okC (h : List S66) : (!(h.any fun x => !(okC x))) = h.all okC := by
 induction h with
 | nil => rfl
 | cons x xs ih => simp only [List.any_cons, List.all_cons, ← ih]; cases okC x <;> simp
theorem Right_f (h : List S66) : heap_Right.f h = some (RightB h) := by
 unfold heap_Right.f any_at_heap_wrong.f RightB
 rw [anyF_T (p := fun x => !(okC x)) h (fun x _ => wrong_f x.f0 x.f1)]
 simp only [Option.bind_some, all_okC]
 by_cases h1 : (h.length : Int) ≥ 1
 · rw [if_pos h1]
   by_cases h2 : (h.length : Int) ≤ 64
   · rw [if_pos h2]
     have e1 : decide (1 ≤ h.length) = true := by simp; omega
     have e2 : decide (h.length ≤ 64) = true := by simp; omega
     rw [e1, e2]; simp
   · rw [if_neg h2]
     have e2 : decide (h.length ≤ 64) = false := by simp; omega
     rw [e2]; simp
 · rw [if_neg h1]
   have e1 : decide (1 ≤ h.length) = false := decide_eq_false (by omega)
   rw [e1]; simp
theorem Right_len {h : List S66} (hr : RightB h = true) : 1 ≤ h.length ∧ h.length ≤ 64 ∧ ∀ x ∈ h, okC x = true := by
 simp only [RightB, Bool.and_eq_true, decide_eq_true_eq, List.all_eq_true] at hr
 exact ⟨hr.1.1, hr.1.2, hr.2⟩
theorem there_f (h : List S66) (c : Int) : heap_there.f h c = some (there h c) := by
 unfold heap_there.f there
 by_cases h0 : c ≥ 0
 · rw [if_pos h0]
   by_cases h1 : c < (h.length : Int)
   · rw [if_pos h1, if_pos h0]
     have : decide (0 ≤ c ∧ c < (h.length : Int)) = true := decide_eq_true ⟨h0, h1⟩
     rw [this]; rfl
   · rw [if_neg h1]
     have : decide (0 ≤ c ∧ c < (h.length : Int)) = false := decide_eq_false (fun e => h1 e.2)
     rw [this]; rfl
 · rw [if_neg h0]
   have : decide (0 ≤ c ∧ c < (h.length : Int)) = false := decide_eq_false (fun e => h0 e.1)
   rw [this]; rfl
theorem there_rng {h : List S66} {c : Int} (ht : there h c = true) : 0 ≤ c ∧ c < h.length ∧ (h.getD c.toNat z66).f0 = true := by
 simp only [there, Bool.and_eq_true, decide_eq_true_eq] at ht
 exact ⟨ht.1.1, ht.1.2, ht.2⟩
theorem Get_f (h : List S66) (c : Int) : heap_Get.f h c = some (getB h c) := by
 unfold heap_Get.f getB
 rw [Right_f, there_f]
 simp only [Option.bind_some]
 by_cases hr : RightB h = true
 · rw [if_pos hr, if_pos hr]
   by_cases ht : there h c = true
   · obtain ⟨h0, h1, _⟩ := there_rng ht
     rw [if_pos ht, if_pos ht, if_pos h0, if_pos h1]; rfl
   · rw [if_neg ht, if_neg ht]
 · rw [if_neg hr, if_neg hr]
theorem Clone_f (h : List S66) (hl : h.length < 8796093022208) : slices_Clone_76.f h = some h := by
 unfold slices_Clone_76.f
 simp only [Option.bind_some, List.length_nil, Nat.zero_add, List.nil_append]
 rw [if_pos hl]
def putL (h : List S66) : List S66 → List S77 → List S66 × Int
 | out, [] => (out, 0)
 | out, w :: ws => if there h w.f0 = true then putL h (out.set w.f0.toNat ⟨(out.getD w.f0.toNat z66).f0, w.f1⟩) ws else (h, 3)
def putB (h : List S66) (l : List S77) : List S66 × Int := if RightB h = true ∧ l.all (fun w => inR w.f1) = true then putL h h l else (h, 1)
theorem Put_l (h : List S66) (l : List S77) (hm : l.length < 4611686018427387904) (d : Nat) : ∀ (k i : Nat) (out : List S66), i ≤ l.length → l.length - i = d → d < k → out.length = h.length →
 heap_Put.l0 k h out l (l.length : Int) (i : Int) = some (putL h out (l.drop i)) := by
 induction d with
 | zero =>
  intro k i out hi hd hk ho
  obtain ⟨k, rfl⟩ : ∃ m, k = m + 1 := ⟨k - 1, by omega⟩
  simp only [heap_Put.l0]
  rw [if_neg (by omega), List.drop_of_length_le (by omega)]
  rfl
 | succ d ih =>
  intro k i out hi hd hk ho
  obtain ⟨k, rfl⟩ : ∃ m, k = m + 1 := ⟨k - 1, by omega⟩
  simp only [heap_Put.l0]
  rw [if_pos (by omega), if_pos (by omega), if_pos (by omega), there_f, drop_cons l z77 i (by omega)]
  simp only [Option.bind_some, putL]
  rw [show rd_T77 l (i : Int) = l.getD i z77 from rfl]
  by_cases ht : there h (l.getD i z77).f0 = true
  · obtain ⟨h0, h1, _⟩ := there_rng ht
    rw [if_pos ht, if_pos ht, if_pos h0, if_pos (by omega), wrN (by omega)]
    exact ih k (i + 1) _ (by omega) (by omega) (by omega) (by simpa using ho)
  · rw [if_neg ht, if_neg ht]
theorem Put1_any (l : List S77) : any_at_heap_Put_1.f l = some (!(l.all (fun w => inR w.f1))) := by
 unfold any_at_heap_Put_1.f
 rw [anyF_T (p := fun w : S77 => !(inR w.f1)) l (fun w _ => by unfold heap_Put_1.f; rw [right_f]; rfl)]
 congr 1
 induction l with
 | nil => rfl
 | cons x xs ih => simp only [List.any_cons, List.all_cons, ih]; cases inR x.f1 <;> simp
theorem Put_f (k : Nat) (h : List S66) (l : List S77) (hm : l.length < 4611686018427387904) (hk : l.length + 1 < k) : heap_Put.f k h l = some (putB h l) := by
 obtain ⟨k, rfl⟩ : ∃ m, k = m + 1 := ⟨k - 1, by omega⟩
 unfold heap_Put.f putB
 rw [Right_f, Put1_any]
 simp only [Option.bind_some]
 by_cases hr : RightB h = true
 · rw [if_pos hr]
   simp only [heap_Put.j0]
   by_cases hv : l.all (fun w => inR w.f1) = true
   · rw [if_neg (by simp [hv]), if_pos ⟨hr, hv⟩, Clone_f h (by have := (Right_len hr).2.1; omega)]
     simp only [Option.bind_some]
     have := Put_l h l hm l.length k 0 h (by omega) (by omega) (by omega) rfl
     simpa using this
   · rw [if_pos (by simpa using hv), if_neg (fun e => hv e.2)]
 · rw [if_neg hr]
   simp only [heap_Put.j0]
   rw [if_pos trivial, if_neg (fun e => hr e.1)]
/-! ### jobs -/
abbrev Ac := S61
abbrev Jb := S25
abbrev Cl := S66
theorem getD_in {α : Type} (l : List α) (z : α) (i : Nat) (h : i < l.length) : l.getD i z ∈ l := by
 rw [List.getD_eq_getElem?_getD, List.getElem?_eq_getElem h]; exact List.getElem_mem _
theorem take_snG {α : Type} (l : List α) (z : α) (i : Nat) (hi : i < l.length) : l.take (i + 1) = l.take i ++ [l.getD i z] := by
 rw [List.take_add_one, List.getD_eq_getElem?_getD, List.getElem?_eq_getElem hi]; rfl
theorem getD_setW {α : Type} (z : α) (l : List α) (i j : Nat) (x : α) (hj : j < l.length) : (l.set i x).getD j z = if i = j then x else l.getD j z := by
 rw [List.getD_eq_getElem?_getD, List.getD_eq_getElem?_getD, List.getElem?_set]
 by_cases e : i = j
 · subst e; rw [if_pos rfl, if_pos hj, if_pos rfl]; rfl
 · rw [if_neg e, if_neg e]
theorem all_not {α : Type} (p : α → Bool) (l : List α) : (!(l.any fun x => !(p x))) = l.all p := by
 induction l with
 | nil => rfl
 | cons x xs ih => simp only [List.any_cons, List.all_cons, ← ih]; cases p x <;> simp
def okA (a : Ac) : Bool := decide (0 ≤ a.f0 ∧ a.f0 < 64) && decide (a.f1 = 1 ∨ a.f1 = 2) && inR a.f2
theorem okA_iff (a : Ac) : okA a = true ↔ (0 ≤ a.f0 ∧ a.f0 < 64) ∧ (a.f1 = 1 ∨ a.f1 = 2) ∧ inR a.f2 = true := by
 unfold okA; rw [Bool.and_eq_true, Bool.and_eq_true, decide_eq_true_eq, decide_eq_true_eq, and_assoc]
theorem wrongA_f (a b c : Int) : after_Act_wrong.f a b c = some (!(okA ⟨a, b, c⟩)) := by
 unfold after_Act_wrong.f okA
 rw [right_f]
 simp only [Option.bind_some]
 by_cases h0 : a < 0
 · rw [if_pos h0, decide_eq_false (show ¬ (0 ≤ a ∧ a < 64) by omega)]; rfl
 rw [if_neg h0]
 by_cases h1 : a ≥ 64
 · rw [if_pos h1, decide_eq_false (show ¬ (0 ≤ a ∧ a < 64) by omega)]; rfl
 rw [if_neg h1, decide_eq_true (show 0 ≤ a ∧ a < 64 by omega)]
 by_cases h2 : b = 1
 · rw [if_pos h2, decide_eq_true (show b = 1 ∨ b = 2 from Or.inl h2)]; simp
 rw [if_neg h2]
 by_cases h3 : b = 2
 · rw [if_pos h3, decide_eq_true (show b = 1 ∨ b = 2 from Or.inr h3)]; simp
 · rw [if_neg h3, decide_eq_false (show ¬ (b = 1 ∨ b = 2) by omega)]; rfl
def mayB (j : Jb) : Bool := decide (1 ≤ j.f0 ∧ j.f0 ≤ 8) && decide (1 ≤ j.f1.length ∧ j.f1.length ≤ 8) && j.f1.all okA
theorem mayB_iff (j : Jb) : mayB j = true ↔ (1 ≤ j.f0 ∧ j.f0 ≤ 8) ∧ (1 ≤ j.f1.length ∧ j.f1.length ≤ 8) ∧ ∀ a ∈ j.f1, okA a = true := by
 unfold mayB; rw [Bool.and_eq_true, Bool.and_eq_true, decide_eq_true_eq, decide_eq_true_eq, List.all_eq_true, and_assoc]
theorem may_f (j : Jb) : after_Job_may.f j.f0 j.f1 = some (mayB j) := by
 obtain ⟨w, l⟩ := j
 unfold after_Job_may.f any_at_after_Act_wrong.f mayB
 dsimp only
 rw [anyF_T (f := fun x : Ac => after_Act_wrong.f x.f0 x.f1 x.f2) (p := fun x => !(okA x)) l (fun x _ => wrongA_f x.f0 x.f1 x.f2)]
 simp only [Option.bind_some, all_not]
 by_cases h1 : w ≥ 1
 · rw [if_pos h1]
   by_cases h2 : w ≤ 8
   · rw [if_pos h2, decide_eq_true (show 1 ≤ w ∧ w ≤ 8 from ⟨h1, h2⟩)]
     by_cases h3 : (l.length : Int) ≥ 1
     · rw [if_pos h3]
       by_cases h4 : (l.length : Int) ≤ 8
       · rw [if_pos h4, decide_eq_true (show 1 ≤ l.length ∧ l.length ≤ 8 by omega)]; simp
       · rw [if_neg h4, decide_eq_false (show ¬ (1 ≤ l.length ∧ l.length ≤ 8) by omega)]; rfl
     · rw [if_neg h3, decide_eq_false (show ¬ (1 ≤ l.length ∧ l.length ≤ 8) by omega)]; rfl
   · rw [if_neg h2, decide_eq_false (show ¬ (1 ≤ w ∧ w ≤ 8) by omega)]; rfl
 · rw [if_neg h1, decide_eq_false (show ¬ (1 ≤ w ∧ w ≤ 8) by omega)]; rfl
def holdsB (j : Jb) (c : Int) : Bool := j.f1.any fun a => a.f0 == c
theorem holds_iff (j : Jb) (c : Int) : holdsB j c = true ↔ ∃ a ∈ j.f1, a.f0 = c := by
 unfold holdsB; rw [List.any_eq_true]; simp
theorem holds_f (j : Jb) (c : Int) : after_Job_holds.f j.f0 j.f1 c = some (holdsB j c) := by
 unfold after_Job_holds.f any_at_after_Job_holds_1.f holdsB
 rw [anyF_T (f := fun x : Ac => after_Job_holds_1.f x.f0 x.f1 x.f2 c) (p := fun a : Ac => a.f0 == c) j.f1 (fun x _ => rfl)]; rfl
def Fine (a b : Jb) : Prop := a.f0 = b.f0 ∨ ∀ x ∈ a.f1, ∀ y ∈ b.f1, x.f0 ≠ y.f0
instance (a b : Jb) : Decidable (Fine a b) := by unfold Fine; infer_instance
theorem fine_symm {a b : Jb} (h : Fine a b) : Fine b a := by
 rcases h with h | h
 · exact .inl h.symm
 · exact .inr fun x hx y hy e => h y hy x hx e.symm
def againstB (j k : Jb) : Bool := decide (j.f0 ≠ k.f0) && k.f1.any fun a => holdsB j a.f0
theorem against_no {j k : Jb} : againstB j k = false ↔ Fine k j := by
 unfold againstB Fine
 rw [Bool.and_eq_false_iff, decide_eq_false_iff_not, List.any_eq_false]
 constructor
 · rintro (h | h)
   · exact .inl (Decidable.not_not.1 h).symm
   · exact .inr fun x hx y hy e => h x hx ((holds_iff j x.f0).2 ⟨y, hy, e.symm⟩)
 · rintro (h | h)
   · exact .inl (Decidable.not_not.2 h.symm)
   · exact .inr fun x hx e => by
      obtain ⟨y, hy, e⟩ := (holds_iff j x.f0).1 e
      exact h x hx y hy e.symm
theorem against_f (j k : Jb) : after_Job_against.f j.f0 j.f1 k.f0 k.f1 = some (againstB j k) := by
 unfold after_Job_against.f any_at_after_Job_against_1.f againstB
 rw [anyF_T (f := fun x : Ac => after_Job_against_1.f x.f0 x.f1 x.f2 j.f0 j.f1) (p := fun a : Ac => holdsB j a.f0) k.f1 (fun x _ => by unfold after_Job_against_1.f; rw [holds_f]; rfl)]
 by_cases h : j.f0 = k.f0
 · rw [if_pos h, decide_eq_false (fun e => e h)]; rfl
 · rw [if_neg h, decide_eq_true h]; rfl
theorem anyAgainst_f (l : List Jb) (j : Jb) : any_at_after_Job_against.f l j.f0 j.f1 = some (l.any (againstB j)) := by
 unfold any_at_after_Job_against.f
 rw [anyF_T (f := fun x : Jb => after_Job_against.f j.f0 j.f1 x.f0 x.f1) (p := againstB j) l (fun x _ => against_f j x)]
theorem anyAgainst_no {l : List Jb} {j : Jb} : l.any (againstB j) = false ↔ ∀ x ∈ l, Fine x j := by
 rw [List.any_eq_false]
 exact ⟨fun h x hx => against_no.1 (Bool.eq_false_iff.2 (h x hx)), fun h x hx => Bool.eq_false_iff.1 (against_no.2 (h x hx))⟩
abbrev RJ (l : List Jb) : Prop := l.length ≤ 16 ∧ (∀ x ∈ l, mayB x = true) ∧ l.Pairwise Fine
def rightJ (l : List Jb) : Bool := decide (RJ l)
theorem rightJ_iff (l : List Jb) : rightJ l = true ↔ RJ l := by unfold rightJ; rw [decide_eq_true_eq]
theorem rightJ_no {l : List Jb} (h : ¬ RJ l) : rightJ l = false := by unfold rightJ; rw [decide_eq_false_iff_not]; exact h
theorem RightJ_l (l : List Jb) (hm : l.length < 4398046511104) (d : Nat) : ∀ (k i : Nat), i ≤ l.length → l.length - i = d → d < k → (∀ x ∈ l.take i, mayB x = true) → (l.take i).Pairwise Fine →
 after_Right.l0 k l l (l.length : Int) (i : Int) = some (rightJ l) := by
 induction d with
 | zero =>
  intro k i hi hd hk h1 h2
  obtain ⟨k, rfl⟩ : ∃ m, k = m + 1 := ⟨k - 1, by omega⟩
  rw [List.take_of_length_le (by omega)] at h1 h2
  simp only [after_Right.l0]
  rw [if_neg (by omega)]
  unfold rightJ
  congr 1
  rw [decide_eq_decide]
  exact ⟨fun h => ⟨by omega, h1, h2⟩, fun h => by have := h.1; omega⟩
 | succ d ih =>
  intro k i hi hd hk h1 h2
  obtain ⟨k, rfl⟩ : ∃ m, k = m + 1 := ⟨k - 1, by omega⟩
  have hmem := getD_in l z25 i (by omega)
  simp only [after_Right.l0]
  rw [if_pos (by omega), if_pos (by omega), if_pos (by omega), show rd_T25 l (i : Int) = l.getD i z25 from rfl, may_f, wrN (by omega)]
  simp only [Option.bind_some]
  by_cases a1 : mayB (l.getD i z25) = true
  · rw [if_pos a1, if_pos (by omega), anyAgainst_f, show ((i : Int)).toNat = i from rfl]
    simp only [Option.bind_some]
    have hs := take_snG l z25 i (by omega)
    by_cases a2 : (l.take i).any (againstB (l.getD i z25)) = true
    · rw [if_pos a2, rightJ_no]
      intro h
      have h3 := h.2.2
      rw [← List.take_append_drop (i + 1) l, hs] at h3
      have h4 := (List.pairwise_append.1 (List.pairwise_append.1 h3).1).2.2
      rw [anyAgainst_no.2 (fun x hx => h4 x hx _ (by simp))] at a2
      cases a2
    · rw [if_neg a2]
      have a3 := anyAgainst_no.1 (Bool.eq_false_iff.2 a2)
      refine ih k (i + 1) (by omega) (by omega) (by omega) (fun x hx => ?_) ?_
      · rw [hs] at hx
        rcases List.mem_append.1 hx with hx | hx
        · exact h1 x hx
        · rw [List.mem_singleton.1 hx]; exact a1
      · rw [hs, List.pairwise_append]
        exact ⟨h2, List.pairwise_singleton _ _, fun x hx y hy => by rw [List.mem_singleton.1 hy]; exact a3 x hx⟩
  · rw [if_neg a1, rightJ_no (fun h => a1 (h.2.1 _ hmem))]
theorem RightJ_f (k : Nat) (l : List Jb) (hm : l.length < 4398046511104) (hk : l.length < k) : after_Right.f k l = some (rightJ l) := by
 unfold after_Right.f
 exact RightJ_l l hm l.length k 0 (by omega) (by omega) (by omega) (by simp) (by simp)
theorem fine_mem {l : List Jb} (h : RJ l) {a b : Jb} (ha : a ∈ l) (hb : b ∈ l) : Fine a b := by
 obtain ⟨i, hi, rfl⟩ := List.mem_iff_getElem.1 ha
 obtain ⟨j, hj, rfl⟩ := List.mem_iff_getElem.1 hb
 rcases Nat.lt_trichotomy i j with e | e | e
 · exact List.pairwise_iff_getElem.1 h.2.2 i j hi hj e
 · subst e; exact .inl rfl
 · exact fine_symm (List.pairwise_iff_getElem.1 h.2.2 j i hj hi e)
/-! who holds a cell -/
def hold1 (l : List Jb) (c : Int) : Int := ((l.find? fun j => holdsB j c).map (fun j => j.f0)).getD 0
def holderB (l : List Jb) (c : Int) : Int := if rightJ l = true then hold1 l c else 0
theorem idx_find {α : Type} (p : α → Bool) (z : α) : ∀ (l : List α) (i : Int), (idxT p l i = -1 ∧ l.find? p = none) ∨ ∃ n : Nat, n < l.length ∧ idxT p l i = i + n ∧ l.find? p = some (l.getD n z)
 | [], i => .inl ⟨rfl, rfl⟩
 | x :: xs, i => by
  cases hx : p x with
  | true => exact .inr ⟨0, by simp, by simp [idxT, hx], by simp [hx]⟩
  | false =>
   rcases idx_find p z xs (i + 1) with ⟨h1, h2⟩ | ⟨n, h1, h2, h3⟩
   · exact .inl ⟨by simp [idxT, hx, h1], by simp [hx]; simpa using h2⟩
   · exact .inr ⟨n + 1, by simpa using h1, by simp [idxT, hx, h2]; omega, by rw [List.find?_cons_of_neg (by simp [hx])]; simpa using h3⟩
theorem Holder_f (k : Nat) (l : List Jb) (c : Int) (hm : l.length < 4398046511104) (hk : l.length < k) : after_Holder.f k l c = some (holderB l c) := by
 unfold after_Holder.f idx_at_after_Holder_1.f holderB
 rw [idxF_T (f := fun x : Jb => after_Holder_1.f x.f0 x.f1 c) (p := fun j : Jb => holdsB j c) l 0 (fun x _ => by unfold after_Holder_1.f; rw [holds_f]; rfl), RightJ_f k l hm hk]
 simp only [Option.bind_some]
 rcases idx_find (fun j : Jb => holdsB j c) z25 l 0 with ⟨h1, h2⟩ | ⟨n, h1, h2, h3⟩
 · rw [h1, if_pos (by decide)]; unfold hold1; rw [h2]; simp
 · rw [h2, if_neg (by omega)]
   by_cases hr : rightJ l = true
   · rw [if_pos hr, if_pos hr, if_pos (by omega), if_pos (by omega)]
     unfold hold1
     rw [h3, show (0 : Int) + (n : Int) = (n : Int) by omega]; rfl
   · rw [if_neg hr, if_neg hr]
theorem hold_cases {l : List Jb} (h : RJ l) (c : Int) : (hold1 l c = 0 ∧ ∀ j ∈ l, holdsB j c = false) ∨ (1 ≤ hold1 l c ∧ (∃ j ∈ l, holdsB j c = true) ∧ ∀ j ∈ l, holdsB j c = true → j.f0 = hold1 l c) := by
 cases hf : l.find? (fun j => holdsB j c) with
 | none => exact .inl ⟨by unfold hold1; rw [hf]; rfl, fun j hj => Bool.eq_false_iff.2 (List.find?_eq_none.1 hf j hj)⟩
 | some j =>
  have hj := List.mem_of_find?_eq_some hf
  have hh := List.find?_some hf
  have he : hold1 l c = j.f0 := by unfold hold1; rw [hf]; rfl
  refine .inr ⟨by rw [he]; exact ((mayB_iff j).1 (h.2.1 j hj)).1.1, ⟨j, hj, hh⟩, fun x hx hc => ?_⟩
  rw [he]
  rcases fine_mem h hx hj with e | e
  · exact e
  · obtain ⟨a, ha, ea⟩ := (holds_iff x c).1 hc
    obtain ⟨b, hb, eb⟩ := (holds_iff j c).1 hh
    exact absurd (ea.trans eb.symm) (e a ha b hb)
/-! what a job does -/
def doable (h : List Cl) (j : Jb) : Bool := j.f1.all fun a => there h a.f0
def actV (a : Ac) (v : Int) : Int := if a.f1 = 2 then wrap32 (v + a.f2) else a.f2
def actS (h : List Cl) (a : Ac) : List Cl := h.set a.f0.toNat ⟨true, actV a (h.getD a.f0.toNat z66).f1⟩
def jobS (h : List Cl) (j : Jb) : List Cl := j.f1.foldl actS h
theorem act_len (h : List Cl) (a : Ac) : (actS h a).length = h.length := by unfold actS; rw [List.length_set]
theorem there_iff (h : List Cl) (c : Int) : there h c = true ↔ 0 ≤ c ∧ c < h.length ∧ (h.getD c.toNat z66).f0 = true := by
 unfold there; rw [Bool.and_eq_true, decide_eq_true_eq, and_assoc]
theorem act_get (h : List Cl) (a : Ac) (j : Nat) (hj : j < h.length) : (actS h a).getD j z66 = if a.f0.toNat = j then ⟨true, actV a (h.getD j z66).f1⟩ else h.getD j z66 := by
 unfold actS
 rw [getD_setW _ _ _ _ _ hj]
 split
 · next e => rw [e]
 · rfl
theorem there_act {h : List Cl} {a : Ac} (ha : there h a.f0 = true) (c : Int) : there (actS h a) c = there h c := by
 obtain ⟨a0, a1, a2⟩ := (there_iff h a.f0).1 ha
 rw [Bool.eq_iff_iff, there_iff, there_iff, act_len]
 by_cases hc : 0 ≤ c ∧ c < h.length
 · rw [act_get h a c.toNat (by omega)]
   split
   · next e =>
     have : a.f0 = c := by omega
     subst this
     exact ⟨fun _ => ⟨a0, a1, a2⟩, fun _ => ⟨a0, a1, rfl⟩⟩
   · exact Iff.rfl
 · exact ⟨fun e => absurd ⟨e.1, e.2.1⟩ hc, fun e => absurd ⟨e.1, e.2.1⟩ hc⟩
theorem inR_iff (v : Int) : inR v = true ↔ -2147483648 ≤ v ∧ v ≤ 2147483647 := by unfold inR; rw [decide_eq_true_eq]
theorem okC_iff (x : Cl) : okC x = true ↔ inR x.f1 = true ∧ (x.f0 = true ∨ x.f1 = 0) := by
 unfold okC
 rw [Bool.and_eq_true, Bool.or_eq_true, beq_iff_eq]
theorem actV_in {a : Ac} (ho : okA a = true) (v : Int) : inR (actV a v) = true := by
 unfold actV
 split
 · rw [inR_iff]; exact ⟨w32_lo _, w32_hi _⟩
 · exact ((okA_iff a).1 ho).2.2
theorem right_of {h : List Cl} (h1 : 1 ≤ h.length) (h2 : h.length ≤ 64) (h3 : ∀ j : Nat, j < h.length → okC (h.getD j z66) = true) : RightB h = true := by
 unfold RightB
 rw [decide_eq_true h1, decide_eq_true h2]
 simp only [Bool.true_and, List.all_eq_true]
 intro x hx
 obtain ⟨j, hj, rfl⟩ := List.mem_iff_getElem.1 hx
 have := h3 j hj
 rw [List.getD_eq_getElem?_getD, List.getElem?_eq_getElem hj] at this
 exact this
theorem right_act {h : List Cl} {a : Ac} (hr : RightB h = true) (ha : there h a.f0 = true) (ho : okA a = true) : RightB (actS h a) = true := by
 obtain ⟨r1, r2, r3⟩ := Right_len hr
 refine right_of (by rw [act_len]; exact r1) (by rw [act_len]; exact r2) fun j hj => ?_
 rw [act_len] at hj
 rw [act_get h a j hj]
 split
 · rw [okC_iff]; exact ⟨actV_in ho _, .inl rfl⟩
 · exact r3 _ (getD_in h _ j hj)
theorem put_one {h : List Cl} {c v : Int} (hr : RightB h = true) (ha : there h c = true) (hv : inR v = true) : putB h [⟨c, v⟩] = (h.set c.toNat ⟨true, v⟩, 0) := by
 unfold putB
 rw [if_pos ⟨hr, by simp [hv]⟩]
 simp only [putL]
 rw [if_pos ha, (there_rng ha).2.2]
theorem done_l (h : List Cl) (l : List Ac) (hm : l.length < 4611686018427387904) (hok : ∀ a ∈ l, okA a = true) (d : Nat) : ∀ (k i : Nat) (out : List Cl), i ≤ l.length → l.length - i = d → d + 5 < k → RightB out = true → (∀ c, there out c = there h c) →
 after_done.l0 k h out l (l.length : Int) (i : Int) = some (cond ((l.drop i).all (fun a => there h a.f0)) ((l.drop i).foldl actS out, 0) (h, 3)) := by
 induction d with
 | zero =>
  intro k i out hi hd hk hr ht
  obtain ⟨k, rfl⟩ : ∃ m, k = m + 1 := ⟨k - 1, by omega⟩
  simp only [after_done.l0]
  rw [if_neg (by omega), List.drop_of_length_le (by omega)]
  rfl
 | succ d ih =>
  intro k i out hi hd hk hr ht
  obtain ⟨k, rfl⟩ : ∃ m, k = m + 1 := ⟨k - 1, by omega⟩
  have hmem := hok _ (getD_in l z61 i (by omega))
  simp only [after_done.l0]
  rw [if_pos (by omega), if_pos (by omega), if_pos (by omega), show rd_T61 l (i : Int) = l.getD i z61 from rfl, Get_f, drop_cons l z61 i (by omega), wrN (by omega)]
  generalize l.getD i z61 = a at *
  simp only [Option.bind_some, List.all_cons, List.foldl_cons]
  by_cases ha : there h a.f0 = true
  · have ha' : there out a.f0 = true := by rw [ht]; exact ha
    have hg : getB out a.f0 = ((out.getD a.f0.toNat z66).f1, 0) := by unfold getB; rw [if_pos hr, if_pos ha']
    have next := ih k (i + 1) (actS out a) (by omega) (by omega) (by omega) (right_act hr ha' hmem) (fun c => by rw [there_act ha', ht])
    rw [hg, if_pos rfl, ha, Bool.true_and]
    have hv := actV_in hmem (out.getD a.f0.toNat z66).f1
    have hp := put_one hr ha' hv
    by_cases h2 : a.f1 = 2
    · rw [if_pos h2, add_f]
      simp only [Option.bind_some]
      rw [show wrap32 ((out.getD a.f0.toNat z66).f1 + a.f2) = actV a (out.getD a.f0.toNat z66).f1 by unfold actV; rw [if_pos h2], Put_f k out _ (by simp) (by simp; omega), hp]
      exact next
    · rw [if_neg h2]
      rw [show (⟨a.f0, a.f2⟩ : S77) = ⟨a.f0, actV a (out.getD a.f0.toNat z66).f1⟩ by unfold actV; rw [if_neg h2], Put_f k out _ (by simp) (by simp; omega), hp]
      exact next
  · have ha' : ¬ there out a.f0 = true := by rw [ht]; exact ha
    have hg : getB out a.f0 = (0, 3) := by unfold getB; rw [if_pos hr, if_neg ha']
    rw [hg, if_neg (by decide), Bool.eq_false_iff.2 ha]
    rfl
theorem done_f (k : Nat) (j : Jb) (h : List Cl) (hj : mayB j = true) (hr : RightB h = true) (hk : 20 < k) : after_done.f k j.f0 j.f1 h = some (if doable h j = true then (jobS h j, 0) else (h, 3)) := by
 obtain ⟨_, h2, h3⟩ := (mayB_iff j).1 hj
 unfold after_done.f
 have := done_l h j.f1 (by omega) h3 j.f1.length k 0 h (by omega) (by omega) (by omega) hr (fun _ => rfl)
 refine this.trans ?_
 show some (cond (doable h j) (jobS h j, 0) (h, 3)) = _
 cases doable h j <;> rfl
/-! somebody's first job -/
def cutJ : List Jb → Int → Option (Jb × List Jb)
 | [], _ => none
 | j :: l, w => if j.f0 = w then some (j, l) else (cutJ l w).map fun p => (p.1, j :: p.2)
theorem cut_idx (w : Int) : ∀ (l : List Jb) (i : Int), (idxT (fun x : Jb => x.f0 == w) l i = -1 ∧ cutJ l w = none) ∨ ∃ n : Nat, n < l.length ∧ idxT (fun x : Jb => x.f0 == w) l i = i + n ∧ cutJ l w = some (l.getD n z25, l.eraseIdx n)
 | [], i => .inl ⟨rfl, rfl⟩
 | x :: xs, i => by
  by_cases hx : x.f0 = w
  · exact .inr ⟨0, by simp, by simp [idxT, hx], by simp [cutJ, hx]⟩
  · rcases cut_idx w xs (i + 1) with ⟨h1, h2⟩ | ⟨n, h1, h2, h3⟩
    · exact .inl ⟨by simp [idxT, hx, h1], by simp [cutJ, hx, h2]⟩
    · exact .inr ⟨n + 1, by simpa using h1, by simp [idxT, hx, h2]; omega, by simp [cutJ, hx, h3]⟩
theorem cut_some {w : Int} : ∀ {l : List Jb} {j : Jb} {l' : List Jb}, cutJ l w = some (j, l') → j.f0 = w ∧ j ∈ l ∧ l'.Sublist l ∧ l.length = l'.length + 1 ∧ ∀ v : Int, l.filter (fun x => x.f0 == v) = (if v = w then [j] else []) ++ l'.filter (fun x => x.f0 == v)
 | [], j, l', h => by cases h
 | x :: xs, j, l', h => by
  simp only [cutJ] at h
  by_cases hx : x.f0 = w
  · rw [if_pos hx] at h
    injection h with h
    injection h with e1 e2
    subst e1; subst e2
    refine ⟨hx, by simp, by simp, by simp, fun v => ?_⟩
    by_cases hv : v = w
    · rw [if_pos hv, List.filter_cons, if_pos (by rw [hx, hv]; simp)]; rfl
    · rw [if_neg hv, List.filter_cons, if_neg (by rw [hx]; simp; exact fun e => hv e.symm)]; rfl
  · rw [if_neg hx] at h
    cases hc : cutJ xs w with
    | none => rw [hc] at h; cases h
    | some p =>
     obtain ⟨j1, l1⟩ := p
     rw [hc] at h
     simp only [Option.map_some, Option.some.injEq, Prod.mk.injEq] at h
     obtain ⟨rfl, rfl⟩ := h
     obtain ⟨h1, h2, h3, h4, h5⟩ := cut_some hc
     refine ⟨h1, List.mem_cons_of_mem _ h2, h3.cons_cons x, by simp [h4], fun v => ?_⟩
     rw [List.filter_cons, List.filter_cons, h5 v]
     by_cases hv : v = w
     · rw [if_pos hv, if_neg (by rw [hv]; simpa using hx), if_neg (by rw [hv]; simpa using hx)]
     · rw [if_neg hv]; rfl
def doB (l : List Jb) (w : Int) (h : List Cl) : List Jb × List Cl × Int :=
 if rightJ l = true ∧ RightB h = true then match cutJ l w with
  | none => (l, h, 3)
  | some p => if doable h p.1 = true then (p.2, jobS h p.1, 0) else (l, h, 3)
 else (l, h, 1)
theorem CloneJ_f (l : List Jb) (hl : l.length < 4398046511104) : slices_Clone_40.f l = some l := by
 unfold slices_Clone_40.f
 simp only [Option.bind_some, List.length_nil, Nat.zero_add, List.nil_append]
 rw [if_pos hl]
theorem Do_f (k : Nat) (l : List Jb) (w : Int) (h : List Cl) (hm : l.length < 4398046511104) (hk : l.length + 30 < k) : after_Do.f k l w h = some (doB l w h) := by
 obtain ⟨k, rfl⟩ : ∃ m, k = m + 1 := ⟨k - 1, by omega⟩
 unfold after_Do.f idx_at_after_Do_1.f doB
 rw [idxF_T (f := fun x : Jb => after_Do_1.f x.f0 x.f1 w) (p := fun x : Jb => x.f0 == w) l 0 (fun x _ => rfl), RightJ_f _ l hm (by omega), Right_f]
 simp only [Option.bind_some]
 by_cases hr : rightJ l = true
 · rw [if_pos hr]
   by_cases hh : RightB h = true
   · rw [if_pos ⟨hr, hh⟩, hh]
     simp only [after_Do.j0]
     rw [if_neg (by decide)]
     rcases cut_idx w l 0 with ⟨h1, h2⟩ | ⟨n, h1, h2, h3⟩
     · rw [h1, h2, if_pos (by decide)]
     · rw [h2, h3, show (0 : Int) + (n : Int) = (n : Int) by omega, if_neg (by omega), if_pos (by omega), if_pos (by omega), show rd_T25 l (n : Int) = l.getD n z25 from rfl,
        done_f k _ h (((rightJ_iff l).1 hr).2.1 _ (getD_in l _ n h1)) hh (by omega)]
       simp only [Option.bind_some]
       by_cases hd : doable h (l.getD n z25) = true
       · rw [if_pos hd, if_pos hd, if_pos rfl, CloneJ_f l hm]
         simp only [Option.bind_some]
         rw [if_pos (by omega)]; rfl
       · rw [if_neg hd, if_neg hd, if_neg (show ¬ (3 : Int) = 0 by decide)]
   · rw [if_neg (fun e => hh e.2), Bool.eq_false_iff.2 hh]
     simp only [after_Do.j0]
     rw [if_pos (by decide)]
 · rw [if_neg hr, if_neg (fun e => hr e.1)]
   simp only [after_Do.j0]
   rw [if_pos trivial]
def seeB (l : List Jb) (w : Int) (h : List Cl) (c : Int) : Int × Int :=
 if rightJ l = true ∧ RightB h = true then (if hold1 l c = 0 ∨ hold1 l c = w then getB h c else (0, 7)) else (0, 1)
theorem See_f (k : Nat) (l : List Jb) (w : Int) (h : List Cl) (c : Int) (hm : l.length < 4398046511104) (hk : l.length < k) : after_See.f k l w h c = some (seeB l w h c) := by
 obtain ⟨k, rfl⟩ : ∃ m, k = m + 1 := ⟨k - 1, by omega⟩
 unfold after_See.f seeB
 rw [Holder_f _ l c hm (by omega), RightJ_f _ l hm (by omega), Right_f]
 simp only [Option.bind_some]
 by_cases hr : rightJ l = true
 · rw [if_pos hr]
   unfold holderB
   rw [if_pos hr]
   by_cases hh : RightB h = true
   · rw [if_pos ⟨hr, hh⟩, hh]
     simp only [after_See.j0]
     rw [if_neg (by decide), Get_f]
     simp only [Option.bind_some]
     by_cases h0 : hold1 l c = 0
     · rw [if_pos h0, if_pos (Or.inl h0)]
     · rw [if_neg h0]
       by_cases h1 : hold1 l c = w
       · rw [if_pos h1, if_pos (Or.inr h1)]
       · rw [if_neg h1, if_neg (fun e => e.elim h0 h1)]
   · rw [if_neg (fun e => hh e.2), Bool.eq_false_iff.2 hh]
     simp only [after_See.j0]
     rw [if_pos (by decide)]
 · rw [if_neg hr, if_neg (fun e => hr e.1)]
   simp only [after_See.j0]
   rw [if_pos trivial]
def deferB (l : List Jb) (j : Jb) : List Jb × Int :=
 if rightJ l = true ∧ mayB j = true then (if l.any (againstB j) = true then (l, 7) else if l.length = 16 then (l, 4) else (l ++ [j], 0)) else (l, 1)
theorem Defer_f (k : Nat) (l : List Jb) (j : Jb) (hm : l.length < 4398046511104) (hk : l.length < k) : after_Defer.f k l j.f0 j.f1 = some (deferB l j) := by
 obtain ⟨k, rfl⟩ : ∃ m, k = m + 1 := ⟨k - 1, by omega⟩
 unfold after_Defer.f deferB
 rw [RightJ_f _ l hm (by omega)]
 simp only [Option.bind_some]
 by_cases hr : rightJ l = true
 · rw [if_pos hr, may_f]
   simp only [Option.bind_some, after_Defer.j0]
   by_cases hj : mayB j = true
   · rw [if_neg (show ¬ (!mayB j) = true by rw [hj]; decide), if_pos (show rightJ l = true ∧ mayB j = true from ⟨hr, hj⟩), anyAgainst_f]
     simp only [Option.bind_some]
     by_cases ha : l.any (againstB j) = true
     · rw [if_pos ha, if_pos ha]
     · have hl := ((rightJ_iff l).1 hr).1
       rw [if_neg ha, if_neg ha]
       by_cases h6 : l.length = 16
       · rw [if_pos (by omega), if_pos h6]
       · rw [if_neg (by omega), if_neg h6, CloneJ_f l hm]
         simp only [Option.bind_some]
         rw [if_pos (by simp; omega)]
   · rw [if_pos (show (!mayB j) = true by rw [Bool.eq_false_iff.2 hj]; decide), if_neg (fun e => hj e.2)]
 · rw [if_neg hr, if_neg (fun e => hr e.1)]
   simp only [after_Defer.j0]
   rw [if_pos trivial]
theorem awake22 (k : Nat) (hk : 60 ≤ k) : handshakerlaw22_awake.f k = some true :=
 at_rounds (g := handshakerlaw22_awake.f) handshakerlaw22_awake.mono hk (by decide +kernel)
theorem Small22 (p : List Jb) (hm : p.length < 140737488351233) (d : Nat) : ∀ (k i : Nat), i ≤ p.length → p.length - i = d → d < k → (∀ x ∈ p.take i, x.f1.length ≤ 20) →
 ∃ b, handshakerlaw22_small.l0 k p p (p.length : Int) (i : Int) = some b ∧ (b = true → p.length ≤ 30 ∧ ∀ x ∈ p, x.f1.length ≤ 20) := by
 induction d with
 | zero =>
  intro k i hi hd hk h
  obtain ⟨k, rfl⟩ : ∃ m, k = m + 1 := ⟨k - 1, by omega⟩
  rw [List.take_of_length_le (by omega)] at h
  simp only [handshakerlaw22_small.l0]
  rw [if_neg (by omega)]
  exact ⟨_, rfl, fun g => ⟨by have := of_decide_eq_true g; omega, h⟩⟩
 | succ d ih =>
  intro k i hi hd hk h
  obtain ⟨k, rfl⟩ : ∃ m, k = m + 1 := ⟨k - 1, by omega⟩
  simp only [handshakerlaw22_small.l0]
  rw [if_pos (by omega), if_pos (by omega), if_pos (by omega), wrN (by omega), show rd_T25 p (i : Int) = p.getD i z25 from rfl]
  by_cases h2 : ((p.getD i z25).f1.length : Int) > 20
  · rw [if_pos h2]; exact ⟨false, rfl, fun h => by cases h⟩
  · rw [if_neg h2]
    refine ih k (i + 1) (by omega) (by omega) (by omega) fun x hx => ?_
    rw [take_snG p z25 i (by omega)] at hx
    rcases List.mem_append.1 hx with hx | hx
    · exact h x hx
    · rw [List.mem_singleton.1 hx]; omega
theorem small22_f (k : Nat) (p : List Jb) (hm : p.length < 140737488351233) (hk : p.length < k) : ∃ b, handshakerlaw22_small.f k p = some b ∧ (b = true → p.length ≤ 30 ∧ ∀ x ∈ p, x.f1.length ≤ 20) := by
 unfold handshakerlaw22_small.f
 exact Small22 p hm p.length k 0 (by omega) (by omega) (by omega) (by simp)
end Go.Proofs.Ytihcnbhcemkncaa.B
