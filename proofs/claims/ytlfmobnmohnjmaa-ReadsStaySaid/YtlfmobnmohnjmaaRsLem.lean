/-
 PROVED: Plain lemmas on numbers and lists, of what the printed functions answer. No condition beside those of each lemma.
-/
import Derived.Test.YtlfmobnmohnjmaaRsx2
import Derived.Test.YtlfmobnmohnjmaaRsx3
import Derived.Test.YtlfmobnmohnjmaaRsx4
import Derived.Test.YtlfmobnmohnjmaaRsx5
import Derived.Test.YtlfmobnmohnjmaaRsx6
import Derived.Test.YtlfmobnmohnjmaaRsx7
namespace Go.Proofs.Ytlfmobnmohnjmaa.Rs
open Go.RowKit Go.Proofs.YtlfmobnmohnjmaaW.PrintWords Go.Proofs.YtlfmobnmohnjmaaW.PrintLast Go.Proofs.YtlfmobnmohnjmaaW.PrintMore Go.Proofs.Ytlfmobnmohnjmaa.Ho
set_option linter.unusedVariables false
set_option linter.unusedSimpArgs false
theorem wr {i : Int} (h0 : -9223372036854775808 ≤ i) (h : i ≤ 9223372036854775807) : wrap64 i = i := by unfold wrap64; omega
theorem wrN {i : Nat} (h : i < 4611686018427387904) : wrap64 ((i : Int) + 1) = ((i + 1 : Nat) : Int) := by unfold wrap64; omega
theorem drop_cons {α : Type} (l : List α) (z : α) (i : Nat) (h : i < l.length) : l.drop i = l.getD i z :: l.drop (i + 1) := by
 rw [List.drop_eq_getElem_cons h]
 simp [List.getElem?_eq_getElem h]
/-- The first place at which p holds, from i on, or -1. -/
def idxT {α : Type} (p : α → Bool) : List α → Int → Int
 | [], _ => -1
 | x :: xs, i => if p x then i else idxT p xs (i + 1)
theorem idxT_yes {α : Type} {p : α → Bool} {x : α} {xs : List α} {i : Int} (h : p x = true) : idxT p (x :: xs) i = i := by simp [idxT, h]
theorem idxT_no {α : Type} {p : α → Bool} {x : α} {xs : List α} {i : Int} (h : p x = false) : idxT p (x :: xs) i = idxT p xs (i + 1) := by simp [idxT, h]
theorem idxF_T {α : Type} {f : α → Option Bool} {p : α → Bool} : ∀ (l : List α) (i : Int), (∀ x ∈ l, f x = some (p x)) → idxF f l i = some (idxT p l i)
 | [], _, _ => rfl
 | x :: xs, i, h => by
  simp only [idxF, idxT]
  rw [h x (by simp), idxF_T xs (i + 1) (fun y hy => h y (by simp [hy]))]
  simp only [Option.bind_some]
  cases p x <;> rfl
theorem anyF_T {α : Type} {f : α → Option Bool} {p : α → Bool} : ∀ (l : List α), (∀ x ∈ l, f x = some (p x)) → anyF f l = some (l.any p)
 | [], _ => rfl
 | x :: xs, h => by
  simp only [anyF, List.any_cons]
  rw [h x (by simp), anyF_T xs (fun y hy => h y (by simp [hy]))]
  simp only [Option.bind_some]
  cases p x <;> rfl
theorem idxT_cases {α : Type} (p : α → Bool) (z : α) : ∀ (l : List α) (i : Int), (idxT p l i = -1 ∧ ∀ x ∈ l, p x = false) ∨ ∃ j : Nat, j < l.length ∧ idxT p l i = i + j ∧ p (l.getD j z) = true ∧ ∀ m, m < j → p (l.getD m z) = false
 | [], i => .inl ⟨rfl, fun x hx => by cases hx⟩
 | x :: xs, i => by
  cases hx : p x with
  | true => exact .inr ⟨0, by simp, by simp [idxT, hx], by simpa using hx, fun m hm => by omega⟩
  | false =>
   rcases idxT_cases p z xs (i + 1) with ⟨h1, h2⟩ | ⟨j, h1, h2, h3, h4⟩
   · exact .inl ⟨by simp [idxT, hx, h1], fun y hy => by rcases List.mem_cons.1 hy with rfl | hy; exact hx; exact h2 y hy⟩
   · refine .inr ⟨j + 1, by simpa using h1, by simp [idxT, hx, h2]; omega, by simpa using h3, fun m hm => ?_⟩
     cases m with
     | zero => simpa using hx
     | succ m => simpa using h4 m (by omega)
def inR (v : Int) : Bool := decide (-2147483648 ≤ v ∧ v ≤ 2147483647)
theorem right_f (a : Int) : span_Right.f a = some (inR a) := by
 unfold span_Right.f inR
 by_cases h : a ≥ (-2147483648)
 · rw [if_pos h]; simp [h]
 · rw [if_neg h]; simp [h]
/-! ### heaps -/
def okC (c : S73) : Bool := inR c.f1 && (c.f0 || c.f1 == 0)
def RightB (h : List S73) : Bool := decide (1 ≤ h.length) && decide (h.length ≤ 64) && h.all okC
def there (h : List S73) (c : Int) : Bool := decide (0 ≤ c ∧ c < h.length) && (h.getD c.toNat z73).f0
def getB (h : List S73) (c : Int) : Int × Int := if RightB h = true then if there h c = true then ((h.getD c.toNat z73).f1, 0) else (0, 3) else (0, 1)
theorem wrong_f (a : Bool) (v : Int) : heap_wrong.f a v = some (!(okC ⟨a, v⟩)) := by
 unfold heap_wrong.f
 rw [right_f]
 simp only [Option.bind_some, okC]
 cases inR v <;> cases a <;> first | rfl | (by_cases h : v = 0 <;> simp [h])
theorem all_okC (h : List S73) : (!(h.any fun x => !(okC x))) = h.all okC := by
 induction h with
 | nil => rfl
 | cons x xs ih => simp only [List.any_cons, List.all_cons, ← ih]; cases okC x <;> simp
theorem Right_f (h : List S73) : heap_Right.f h = some (RightB h) := by
 unfold heap_Right.f any_at_heap_wrong.f RightB
 rw [anyF_T (p := fun x => !(okC x)) h (fun x _ => wrong_f x.f0 x.f1)]
 simp only [Option.bind_some, all_okC]
 by_cases h1 : (h.length : Int) ≥ 1
 · rw [if_pos h1]
   by_cases h2 : (h.length : Int) ≤ 64
   · rw [if_pos h2]
     have e1 : decide (1 ≤ h.length) = true := by simp; omega
     have e2 : decide (h.length ≤ 64) = true := by simp; omega
     rw [e1, e2]; simp
   · rw [if_neg h2]
     have e2 : decide (h.length ≤ 64) = false := by simp; omega
     rw [e2]; simp
 · rw [if_neg h1]
   have e1 : decide (1 ≤ h.length) = false := decide_eq_false (by omega)
   rw [e1]; simp
theorem Right_len {h : List S73} (hr : RightB h = true) : 1 ≤ h.length ∧ h.length ≤ 64 ∧ ∀ x ∈ h, okC x = true := by
 simp only [RightB, Bool.and_eq_true, decide_eq_true_eq, List.all_eq_true] at hr
 exact ⟨hr.1.1, hr.1.2, hr.2⟩
theorem there_f (h : List S73) (c : Int) : heap_there.f h c = some (there h c) := by
 unfold heap_there.f there
 by_cases h0 : c ≥ 0
 · rw [if_pos h0]
   by_cases h1 : c < (h.length : Int)
   · rw [if_pos h1, if_pos h0]
     have : decide (0 ≤ c ∧ c < (h.length : Int)) = true := decide_eq_true ⟨h0, h1⟩
     rw [this]; rfl
   · rw [if_neg h1]
     have : decide (0 ≤ c ∧ c < (h.length : Int)) = false := decide_eq_false (fun e => h1 e.2)
     rw [this]; rfl
 · rw [if_neg h0]
   have : decide (0 ≤ c ∧ c < (h.length : Int)) = false := decide_eq_false (fun e => h0 e.1)
   rw [this]; rfl
theorem there_rng {h : List S73} {c : Int} (ht : there h c = true) : 0 ≤ c ∧ c < h.length ∧ (h.getD c.toNat z73).f0 = true := by
 simp only [there, Bool.and_eq_true, decide_eq_true_eq] at ht
 exact ⟨ht.1.1, ht.1.2, ht.2⟩
theorem Get_f (h : List S73) (c : Int) : heap_Get.f h c = some (getB h c) := by
 unfold heap_Get.f getB
 rw [Right_f, there_f]
 simp only [Option.bind_some]
 by_cases hr : RightB h = true
 · rw [if_pos hr, if_pos hr]
   by_cases ht : there h c = true
   · obtain ⟨h0, h1, _⟩ := there_rng ht
     rw [if_pos ht, if_pos ht, if_pos h0, if_pos h1]; rfl
   · rw [if_neg ht, if_neg ht]
 · rw [if_neg hr, if_neg hr]
theorem getB_ok {h : List S73} {c : Int} (he : (getB h c).2 = 0) : RightB h = true ∧ there h c = true := by
 unfold getB at he
 split at he
 · split at he
   · exact ⟨by assumption, by assumption⟩
   · simp at he
 · simp at he
/-! ### reads -/
theorem getD_in {α : Type} (l : List α) (z : α) (i : Nat) (h : i < l.length) : l.getD i z ∈ l := by
 rw [List.getD_eq_getElem?_getD, List.getElem?_eq_getElem h]; exact List.getElem_mem _
theorem take_snG {α : Type} (l : List α) (z : α) (i : Nat) (hi : i < l.length) : l.take (i + 1) = l.take i ++ [l.getD i z] := by
 rw [List.take_add_one, List.getD_eq_getElem?_getD, List.getElem?_eq_getElem hi]; rfl
theorem mem_takeG {α : Type} (l : List α) (z : α) (i : Nat) (x : α) (hi : i ≤ l.length) (h : x ∈ l.take i) : ∃ m, m < i ∧ l.getD m z = x := by
 obtain ⟨m, hm, rfl⟩ := List.mem_iff_getElem.1 h
 rw [List.length_take] at hm
 refine ⟨m, by omega, ?_⟩
 rw [List.getD_eq_getElem?_getD, List.getElem?_eq_getElem (by omega), List.getElem_take]; rfl
def tickB (a : Int) : Bool := decide (0 ≤ a ∧ a ≤ 2147483647)
theorem tick_f (a : Int) : tick_Right.f a = some (tickB a) := by
 unfold tick_Right.f tickB
 by_cases h : a ≥ 0
 · rw [if_pos h]; congr 1; rw [decide_eq_decide]; omega
 · rw [if_neg h]; congr 1; symm; rw [decide_eq_false_iff_not]; omega
def okR (r : S24) : Bool := decide (0 ≤ r.f0) && tickB r.f1 && inR r.f2
theorem okR_eq (r : S24) : okR r = true ↔ 0 ≤ r.f0 ∧ tickB r.f1 = true ∧ inR r.f2 = true := by
 unfold okR
 rw [Bool.and_eq_true, Bool.and_eq_true, decide_eq_true_eq, and_assoc]
def plc (l : List S24) (c : Int) : Int := idxT (fun x => x.f0 == c) l 0
theorem place_f (l : List S24) (c : Int) : reads_place.f l c = some (plc l c) := by
 unfold reads_place.f idx_at_reads_place_1.f plc
 rw [idxF_T (f := fun x : S24 => reads_place_1.f x.f0 x.f1 x.f2 c) (p := fun x => x.f0 == c) l 0 (fun x _ => rfl)]; rfl
theorem plc_cases (l : List S24) (c : Int) : (plc l c = -1 ∧ ∀ x ∈ l, x.f0 ≠ c) ∨ ∃ j : Nat, j < l.length ∧ plc l c = (j : Int) ∧ (l.getD j z24).f0 = c ∧ ∀ m, m < j → (l.getD m z24).f0 ≠ c := by
 rcases idxT_cases (fun x : S24 => x.f0 == c) z24 l 0 with ⟨h1, h2⟩ | ⟨j, h1, h2, h3, h4⟩
 · exact .inl ⟨h1, fun x hx => by simpa using h2 x hx⟩
 · exact .inr ⟨j, h1, by unfold plc; rw [h2]; omega, by simpa using h3, fun m hm => by simpa using h4 m hm⟩
abbrev RightP (l : List S24) : Prop := l.length ≤ 24 ∧ (∀ x ∈ l, okR x = true) ∧ l.Pairwise (fun a b => a.f0 ≠ b.f0)
def rightR (l : List S24) : Bool := decide (RightP l)
theorem rightR_iff (l : List S24) : rightR l = true ↔ RightP l := by unfold rightR; rw [decide_eq_true_eq]
theorem rightR_no {l : List S24} (h : ¬ RightP l) : rightR l = false := by unfold rightR; rw [decide_eq_false_iff_not]; exact h
theorem pair_at {l : List S24} (h : l.Pairwise (fun a b => a.f0 ≠ b.f0)) (i j : Nat) (hij : i < j) (hj : j < l.length) : (l.getD i z24).f0 ≠ (l.getD j z24).f0 := by
 have := List.pairwise_iff_getElem.1 h i j (by omega) hj hij
 rw [List.getD_eq_getElem?_getD, List.getElem?_eq_getElem (by omega), List.getD_eq_getElem?_getD, List.getElem?_eq_getElem hj]
 exact this
theorem pair_same {l : List S24} (h : l.Pairwise (fun a b => a.f0 ≠ b.f0)) (i j : Nat) (hi : i < l.length) (hj : j < l.length) (e : (l.getD i z24).f0 = (l.getD j z24).f0) : i = j := by
 rcases Nat.lt_trichotomy i j with h1 | h1 | h1
 · exact absurd e (pair_at h i j h1 hj)
 · exact h1
 · exact absurd e.symm (pair_at h j i h1 hi)
theorem pair_sn {l : List S24} (i : Nat) (hi : i < l.length) (h : (l.take i).Pairwise (fun a b => a.f0 ≠ b.f0)) (hx : ∀ m, m < i → (l.getD m z24).f0 ≠ (l.getD i z24).f0) : (l.take (i + 1)).Pairwise (fun a b => a.f0 ≠ b.f0) := by
 rw [take_snG l z24 i hi, List.pairwise_append]
 refine ⟨h, List.pairwise_singleton _ _, fun a ha b hb => ?_⟩
 obtain ⟨m, hm, rfl⟩ := mem_takeG l z24 i a (by omega) ha
 rw [List.mem_singleton.1 hb]
 exact hx m hm
theorem ok_sn {l : List S24} (i : Nat) (hi : i < l.length) (h : ∀ x ∈ l.take i, okR x = true) (hx : okR (l.getD i z24) = true) : ∀ x ∈ l.take (i + 1), okR x = true := by
 intro x hx'
 rw [take_snG l z24 i hi] at hx'
 rcases List.mem_append.1 hx' with h' | h'
 · exact h x h'
 · rw [List.mem_singleton.1 h']; exact hx
theorem RightR_l (l : List S24) (hm : l.length < 4398046511104) (d : Nat) : ∀ (k i : Nat), i ≤ l.length → l.length - i = d → d < k → (∀ x ∈ l.take i, okR x = true) → (l.take i).Pairwise (fun a b => a.f0 ≠ b.f0) →
 reads_Right.l0 k l l (l.length : Int) (i : Int) = some (rightR l) := by
 induction d with
 | zero =>
  intro k i hi hd hk h1 h2
  obtain ⟨k, rfl⟩ : ∃ m, k = m + 1 := ⟨k - 1, by omega⟩
  rw [List.take_of_length_le (by omega)] at h1 h2
  simp only [reads_Right.l0]
  rw [if_neg (by omega)]
  unfold rightR
  congr 1
  rw [decide_eq_decide]
  exact ⟨fun h => ⟨by omega, h1, h2⟩, fun h => by have := h.1; omega⟩
 | succ d ih =>
  intro k i hi hd hk h1 h2
  obtain ⟨k, rfl⟩ : ∃ m, k = m + 1 := ⟨k - 1, by omega⟩
  have hmem := getD_in l z24 i (by omega)
  have no : ¬ okR (l.getD i z24) = true → some false = some (rightR l) := fun h => by rw [rightR_no (fun e => h (e.2.1 _ hmem))]
  simp only [reads_Right.l0]
  rw [if_pos (by omega), if_pos (by omega), if_pos (by omega), show rd_T24 l (i : Int) = l.getD i z24 from rfl, tick_f, right_f, place_f, wrN (by omega)]
  simp only [Option.bind_some]
  by_cases a0 : (l.getD i z24).f0 < 0
  · rw [if_pos a0]; exact no (fun e => by have := ((okR_eq _).1 e).1; omega)
  rw [if_neg a0]
  by_cases a1 : tickB (l.getD i z24).f1 = true
  · rw [if_pos a1]
    by_cases a2 : inR (l.getD i z24).f2 = true
    · rw [if_pos a2]
      have hok : okR (l.getD i z24) = true := (okR_eq _).2 ⟨by omega, a1, a2⟩
      rcases plc_cases l (l.getD i z24).f0 with ⟨h, h'⟩ | ⟨j, hj, h, h', h''⟩
      · exact absurd rfl (h' _ hmem)
      · rw [h]
        by_cases e : j = i
        · subst e
          rw [if_pos rfl]
          exact ih k (j + 1) (by omega) (by omega) (by omega) (ok_sn j (by omega) h1 hok) (pair_sn j (by omega) h2 h'')
        · rw [if_neg (by omega), rightR_no]
          intro e'
          exact e (pair_same e'.2.2 j i hj (by omega) h')
    · rw [if_neg a2]; exact no (fun e => a2 ((okR_eq _).1 e).2.2)
  · rw [if_neg a1]; exact no (fun e => a1 ((okR_eq _).1 e).2.1)
theorem RightR_f (k : Nat) (l : List S24) (hm : l.length < 4398046511104) (hk : l.length < k) : reads_Right.f k l = some (rightR l) := by
 unfold reads_Right.f
 exact RightR_l l hm l.length k 0 (by omega) (by omega) (by omega) (by simp) (by simp)
theorem rightR_one (r : S24) : rightR [r] = okR r := by
 rw [Bool.eq_iff_iff, rightR_iff]
 constructor
 · intro h; exact h.2.1 r (by simp)
 · intro h; exact ⟨by simp, fun x hx => by rw [List.mem_singleton.1 hx]; exact h, List.pairwise_singleton _ _⟩
def eqR (a b : S24) : Bool := a.f0 == b.f0 && (a.f1 == b.f1 && (a.f2 == b.f2))
theorem eqR_iff (a b : S24) : eqR a b = true ↔ a = b := by
 obtain ⟨a0, a1, a2⟩ := a
 obtain ⟨b0, b1, b2⟩ := b
 unfold eqR
 simp only [Bool.and_eq_true, beq_iff_eq, S24.mk.injEq]
def addR (l : List S24) (r : S24) : List S24 × Int :=
 if rightR l = true ∧ okR r = true then
  if 0 ≤ plc l r.f0 then (if eqR (l.getD (plc l r.f0).toNat z24) r = true then (l, 0) else (l, 8))
  else if l.length = 24 then (l, 5) else (l ++ [r], 0)
 else (l, 1)
theorem AddR_f (k : Nat) (l : List S24) (r : S24) (hm : l.length < 4398046511104) (hk : l.length + 5 < k) : reads_Add.f k l r.f0 r.f1 r.f2 = some (addR l r) := by
 obtain ⟨k, rfl⟩ : ∃ m, k = m + 2 := ⟨k - 2, by omega⟩
 unfold reads_Add.f addR
 rw [RightR_f (k + 2) l hm (by omega), RightR_f (k + 2) _ (by simp) (by simp), rightR_one]
 simp only [Option.bind_some]
 by_cases h1 : rightR l = true
 · rw [if_pos h1]
   by_cases h2 : okR r = true
   · rw [if_pos ⟨h1, h2⟩, show okR ⟨r.f0, r.f1, r.f2⟩ = true from h2]
     simp only [reads_Add.j0]
     rw [if_neg (by decide), place_f]
     simp only [Option.bind_some]
     have hl := ((rightR_iff l).1 h1).1
     rcases plc_cases l r.f0 with ⟨h, h'⟩ | ⟨j, hj, h, h', h''⟩
     · rw [h, if_neg (by omega), if_neg (by omega)]
       simp only [reads_Add.j1]
       rw [if_neg (by decide), if_neg (by omega)]
       by_cases e : l.length = 24
       · rw [if_pos (by omega), if_pos e]
       · rw [if_neg (by omega), if_neg e]
         unfold slices_Clone_46.f
         simp only [Option.bind_some, List.nil_append, List.length_nil]
         rw [if_pos (by omega)]
         simp only [Option.bind_some]
         rw [if_pos (by simp; omega)]
     · rw [h, if_pos (by omega), if_pos (by omega), if_pos (by omega), if_pos (by omega)]
       simp only [reads_Add.j1]
       rw [show rd_T24 l (j : Int) = l.getD j z24 from rfl, show ((j : Int)).toNat = j from by omega]
       by_cases e : eqR (l.getD j z24) r = true
       · rw [if_pos e, if_pos (show ((l.getD j z24).f0 == r.f0 && ((l.getD j z24).f1 == r.f1 && (l.getD j z24).f2 == r.f2)) = true from e)]
       · rw [if_neg e, if_neg (show ¬ ((l.getD j z24).f0 == r.f0 && ((l.getD j z24).f1 == r.f1 && (l.getD j z24).f2 == r.f2)) = true from e), if_pos (by omega)]
   · rw [if_neg (fun e => h2 e.2), show okR ⟨r.f0, r.f1, r.f2⟩ = false from by simpa using h2]
     simp only [reads_Add.j0]
     rw [if_pos (by decide)]
 · rw [if_neg h1, if_neg (fun e => h1 e.1)]
   simp only [reads_Add.j0]
   rw [if_pos trivial]
def findR (l : List S24) (c : Int) : Int × Int × Int × Bool :=
 if 0 ≤ plc l c ∧ rightR l = true then ((l.getD (plc l c).toNat z24).f0, (l.getD (plc l c).toNat z24).f1, (l.getD (plc l c).toNat z24).f2, true) else (0, 0, 0, false)
theorem FindR_f (k : Nat) (l : List S24) (c : Int) (hm : l.length < 4398046511104) (hk : l.length < k) : reads_Find.f k l c = some (findR l c) := by
 unfold reads_Find.f findR
 rw [place_f, RightR_f k l hm hk]
 simp only [Option.bind_some]
 rcases plc_cases l c with ⟨h, h'⟩ | ⟨j, hj, h, h', h''⟩
 · rw [h, if_pos (by omega), if_neg (by omega)]
 · rw [h, if_neg (by omega)]
   by_cases h1 : rightR l = true
   · rw [if_pos h1, if_pos (by omega), if_pos (by omega), if_pos ⟨by omega, h1⟩]; rfl
   · rw [if_neg h1, if_neg (fun e => h1 e.2)]
def cellsR (l : List S24) : List Int := if rightR l = true then (l.map fun x => x.f0).mergeSort fun x y => decide (x ≤ y) else []
theorem CellsR_l (l : List S24) (hm : l.length < 4398046511) (d : Nat) : ∀ (k i : Nat), i ≤ l.length → l.length - i = d → d + l.length + 1 < k →
 reads_Cells.l0 k l ((l.take i).map fun x => x.f0) l (l.length : Int) (i : Int) = some (cellsR l) := by
 induction d with
 | zero =>
  intro k i hi hd hk
  obtain ⟨k, rfl⟩ : ∃ m, k = m + 1 := ⟨k - 1, by omega⟩
  rw [List.take_of_length_le (by omega)]
  simp only [reads_Cells.l0]
  rw [if_neg (by omega), RightR_f k l (by omega) (by omega)]
  unfold cellsR slices_Sort.f
  simp only [Option.bind_some]
  by_cases h : rightR l = true
  · rw [if_pos h, if_pos h, if_pos (by rw [List.length_map]; omega)]; rfl
  · rw [if_neg h, if_neg h]
 | succ d ih =>
  intro k i hi hd hk
  obtain ⟨k, rfl⟩ : ∃ m, k = m + 1 := ⟨k - 1, by omega⟩
  simp only [reads_Cells.l0]
  rw [if_pos (by omega), if_pos (by omega), if_pos (by omega), if_pos (by rw [List.length_map, List.length_take]; omega), wrN (by omega)]
  have := ih k (i + 1) (by omega) (by omega) (by omega)
  rw [take_snG l z24 i (by omega), List.map_append] at this
  exact this
theorem CellsR_f (k : Nat) (l : List S24) (hm : l.length < 4398046511) (hk : 2 * l.length + 1 < k) : reads_Cells.f k l = some (cellsR l) := by
 unfold reads_Cells.f
 have := CellsR_l l hm l.length k 0 (by omega) (by omega) (by omega)
 simpa using this
/-! tables of records -/
def okT (x : S67) : Bool := tickB x.f0 && decide (0 ≤ x.f1 ∧ x.f1 ≤ 8)
theorem someb_f (a : Int) : stripe_somebody.f a = some (decide (1 ≤ a ∧ a ≤ 8)) := by
 unfold stripe_somebody.f
 by_cases h : a ≥ 1
 · rw [if_pos h]; congr 1; rw [decide_eq_decide]; omega
 · rw [if_neg h]; congr 1; symm; rw [decide_eq_false_iff_not]; omega
theorem wrongT_f (a b : Int) : stripe_wrong.f a b = some (!(okT ⟨a, b⟩)) := by
 unfold stripe_wrong.f okT tickB
 rw [someb_f]
 simp only [Option.bind_some]
 by_cases h0 : a < 0
 · rw [if_pos h0, decide_eq_false (show ¬ (0 ≤ a ∧ a ≤ 2147483647) by omega)]; rfl
 · rw [if_neg h0]
   by_cases h1 : a > 2147483647
   · rw [if_pos h1, decide_eq_false (show ¬ (0 ≤ a ∧ a ≤ 2147483647) by omega)]; rfl
   · rw [if_neg h1, decide_eq_true (show 0 ≤ a ∧ a ≤ 2147483647 by omega)]
     by_cases h2 : b = 0
     · rw [if_pos h2, decide_eq_true (show 0 ≤ b ∧ b ≤ 8 by omega)]; rfl
     · rw [if_neg h2, Bool.true_and]
       congr 2
       rw [decide_eq_decide]; omega
theorem all_okT (t : List S67) : (!(t.any fun x => !(okT x))) = t.all okT := by
 induction t with
 | nil => rfl
 | cons x xs ih => simp only [List.any_cons, List.all_cons, ← ih]; cases okT x <;> simp
def rightT (t : List S67) : Bool := decide (1 ≤ t.length ∧ t.length ≤ 16) && t.all okT
theorem RightT_f (t : List S67) : stripe_Right.f t = some (rightT t) := by
 unfold stripe_Right.f any_at_stripe_wrong.f rightT
 rw [anyF_T (p := fun x => !(okT x)) t (fun x _ => wrongT_f x.f0 x.f1)]
 simp only [Option.bind_some, all_okT]
 by_cases h1 : (t.length : Int) ≥ 1
 · rw [if_pos h1]
   by_cases h2 : (t.length : Int) ≤ 16
   · rw [if_pos h2, decide_eq_true (by omega)]; simp
   · rw [if_neg h2, decide_eq_false (by omega)]; rfl
 · rw [if_neg h1, decide_eq_false (by omega)]; rfl
theorem rightT_ok {t : List S67} (h : rightT t = true) : 1 ≤ t.length ∧ t.length ≤ 16 ∧ ∀ x ∈ t, okT x = true := by
 unfold rightT at h
 rw [Bool.and_eq_true, decide_eq_true_eq, List.all_eq_true] at h
 exact ⟨h.1.1, h.1.2, h.2⟩
theorem tmodN (c : Int) (n : Nat) (hc : 0 ≤ c) (hn : 0 < n) : ∃ m : Nat, Int.tmod c (n : Int) = (m : Int) ∧ m < n ∧ m = c.toNat % n := by
 refine ⟨c.toNat % n, ?_, Nat.mod_lt _ hn, rfl⟩
 obtain ⟨q, rfl⟩ : ∃ q : Nat, c = (q : Int) := ⟨c.toNat, by omega⟩
 rw [Int.toNat_natCast]; rfl
/-! what is valid -/
def okV (t : List S67) (who : Int) (x : S24) : Bool :=
 (t.getD (x.f0.toNat % t.length) z67).f0 == x.f1 && ((t.getD (x.f0.toNat % t.length) z67).f1 == 0 || (t.getD (x.f0.toNat % t.length) z67).f1 == who)
def whoB (who : Int) : Bool := decide (1 ≤ who ∧ who ≤ 8)
def validR (l : List S24) (t : List S67) (who : Int) : Int := if (rightR l && rightT t && whoB who) = true then (if l.all (okV t who) = true then 0 else 8) else 1
theorem ValidR_l (l : List S24) (t : List S67) (who : Int) (hm : l.length < 4398046511) (hr : rightR l = true) (ht : rightT t = true) (d : Nat) : ∀ (k i : Nat), i ≤ l.length → l.length - i = d → d < k →
 reads_Valid.l0 k t who l (l.length : Int) (i : Int) = some (if (l.drop i).all (okV t who) = true then 0 else 8) := by
 have hp := ((rightR_iff l).1 hr).2.1
 have hn := (rightT_ok ht).1
 induction d with
 | zero =>
  intro k i hi hd hk
  obtain ⟨k, rfl⟩ : ∃ m, k = m + 1 := ⟨k - 1, by omega⟩
  rw [List.drop_of_length_le (by omega)]
  simp only [reads_Valid.l0]
  rw [if_neg (by omega)]; rfl
 | succ d ih =>
  intro k i hi hd hk
  obtain ⟨k, rfl⟩ : ∃ m, k = m + 1 := ⟨k - 1, by omega⟩
  have hx := ((okR_eq _).1 (hp _ (getD_in l z24 i (by omega)))).1
  have next := ih k (i + 1) (by omega) (by omega) (by omega)
  rw [drop_cons l z24 i (by omega), List.all_cons]
  simp only [reads_Valid.l0]
  rw [show rd_T24 l (i : Int) = l.getD i z24 from rfl]
  unfold okV
  generalize l.getD i z24 = x at *
  obtain ⟨m, e1, e2, e3⟩ := tmodN x.f0 t.length hx (by omega)
  rw [e1, if_pos (by omega), if_pos (by omega), if_pos (by omega), if_neg (by omega), if_pos (by omega), if_pos (by omega), wrN (by omega), show rd_T67 t (m : Int) = t.getD m z67 from rfl, next, ← e3]
  generalize t.getD m z67 = y
  unfold okV
  generalize (l.drop (i + 1)).all _ = q
  by_cases h1 : y.f0 = x.f1
  · rw [if_pos h1, beq_iff_eq.2 h1, Bool.true_and]
    by_cases h2 : y.f1 = 0
    · rw [if_pos h2, beq_iff_eq.2 h2]; rfl
    · rw [if_neg h2, beq_eq_false_iff_ne.2 h2]
      by_cases h3 : y.f1 = who
      · rw [if_pos h3, beq_iff_eq.2 h3]; rfl
      · rw [if_neg h3, beq_eq_false_iff_ne.2 h3]; rfl
  · rw [if_neg h1, beq_eq_false_iff_ne.2 h1]; rfl
theorem ValidR_f (k : Nat) (l : List S24) (t : List S67) (who : Int) (hm : l.length < 4398046511) (hk : l.length + 2 < k) : reads_Valid.f k l t who = some (validR l t who) := by
 obtain ⟨k, rfl⟩ : ∃ m, k = m + 1 := ⟨k - 1, by omega⟩
 unfold reads_Valid.f validR
 rw [RightR_f (k + 1) l (by omega) (by omega), RightT_f]
 simp only [Option.bind_some]
 by_cases h1 : rightR l = true
 · rw [if_pos h1, h1]
   by_cases h2 : rightT t = true
   · rw [if_pos h2, h2]
     have ew : (if who < 1 then reads_Valid.j0 (k + 1) l t who true else reads_Valid.j0 (k + 1) l t who (decide (who > 8))) = reads_Valid.j0 (k + 1) l t who (!(whoB who)) := by
      unfold whoB
      by_cases h3 : who < 1
      · rw [if_pos h3, decide_eq_false (by omega)]; rfl
      · rw [if_neg h3]
        congr 1
        by_cases h4 : who > 8
        · rw [decide_eq_true h4, decide_eq_false (by omega)]; rfl
        · rw [decide_eq_false h4, decide_eq_true (by omega)]; rfl
     rw [ew]
     simp only [reads_Valid.j0]
     cases hw : whoB who with
     | true =>
      rw [if_neg (by decide), if_pos (show (true && true && true) = true from rfl)]
      have := ValidR_l l t who hm h1 h2 l.length k 0 (by omega) (by omega) (by omega)
      simpa using this
     | false => rw [if_pos (by decide), if_neg (by decide)]
   · rw [if_neg h2, show rightT t = false from by simpa using h2]
     simp only [reads_Valid.j0]
     rw [if_pos trivial]; rfl
 · rw [if_neg h1, show rightR l = false from by simpa using h1]
   simp only [reads_Valid.j0]
   rw [if_pos trivial]; rfl
/-! what stands -/
def okS (h : List S73) (x : S24) : Bool := (getB h x.f0).2 == 0 && (getB h x.f0).1 == x.f2
def sameR (l : List S24) (h : List S73) : Bool := rightR l && RightB h && l.all (okS h)
theorem SameH_f (k : Nat) (l : List S24) (h : List S73) (hm : l.length < 4398046511) (hk : l.length < k) : reads_Same.f k l h = some (sameR l h) := by
 unfold reads_Same.f sameR any_at_reads_Same_1.f
 rw [RightR_f k l (by omega) hk, Right_f]
 simp only [Option.bind_some]
 rw [anyF_T (f := fun x : S24 => reads_Same_1.f x.f0 x.f1 x.f2 h) (p := fun x => !(okS h x)) l (fun x _ => by
  unfold reads_Same_1.f okS
  rw [Get_f]
  simp only [Option.bind_some]
  by_cases h1 : (getB h x.f0).2 = 0
  · rw [if_pos h1, beq_iff_eq.2 h1]; rfl
  · rw [if_neg h1, beq_eq_false_iff_ne.2 h1]; rfl)]
 simp only [Option.bind_some]
 have ea : (!(l.any fun x => !(okS h x))) = l.all (okS h) := by
  clear hm hk
  induction l with
  | nil => rfl
  | cons x xs ih => simp only [List.any_cons, List.all_cons, ← ih]; cases okS h x <;> simp
 rw [ea]
 cases rightR l <;> cases RightB h <;> simp
theorem awake5 (k : Nat) (hk : 60 ≤ k) : handshakerlaw05_awake.f k = some true :=
 at_rounds (g := handshakerlaw05_awake.f) handshakerlaw05_awake.mono hk (by decide +kernel)
/-- Rows that rise and have the same elements are the same. -/
theorem rise_ext : ∀ (a b : List Int), a.Pairwise (· < ·) → b.Pairwise (· < ·) → (∀ x, x ∈ a ↔ x ∈ b) → a = b
 | [], [], _, _, _ => rfl
 | [], y :: b, _, _, h => by have := (h y).2 (by simp); simp at this
 | x :: a, [], _, _, h => by have := (h x).1 (by simp); simp at this
 | x :: a, y :: b, ha, hb, h => by
  obtain ⟨a1, a2⟩ := List.pairwise_cons.1 ha
  obtain ⟨b1, b2⟩ := List.pairwise_cons.1 hb
  have exy : x = y := by
   rcases List.mem_cons.1 ((h x).1 (by simp)) with e | e
   · exact e
   · rcases List.mem_cons.1 ((h y).2 (by simp)) with e2 | e2
     · exact e2.symm
     · have := a1 y e2
       have := b1 x e
       omega
  subst exy
  rw [rise_ext a b a2 b2 fun z => ?_]
  constructor
  · intro hz
    rcases List.mem_cons.1 ((h z).1 (by simp [hz])) with e | e
    · have := a1 z hz; omega
    · exact e
  · intro hz
    rcases List.mem_cons.1 ((h z).2 (by simp [hz])) with e | e
    · have := b1 z hz; omega
    · exact e
theorem mem_comp (l : List Int) (x : Int) : x ∈ Go.Lib.compact l ↔ x ∈ l := by
 constructor
 · intro h
   unfold Go.Lib.compact Go.Lib.compactUpTo at h
   obtain ⟨i, hi, rfl⟩ := List.mem_map.1 h
   have hi' : i < l.length := List.mem_range.1 (List.mem_filter.1 hi).1
   simp [getElem!_pos, hi']
 intro h
 have key : ∀ i : Nat, i < l.length → ∃ j, j ≤ i ∧ Go.Lib.keeps l.toArray j = true ∧ l.toArray[j]! = l.toArray[i]! := by
  intro i
  induction i with
  | zero => intro _; exact ⟨0, by omega, by simp [Go.Lib.keeps], rfl⟩
  | succ i ih =>
   intro hi
   by_cases e : l.toArray[i + 1]! = l.toArray[i]!
   · obtain ⟨j, h1, h2, h3⟩ := ih (by omega)
     exact ⟨j, by omega, h2, h3.trans e.symm⟩
   · exact ⟨i + 1, by omega, by unfold Go.Lib.keeps; exact decide_eq_true (.inr (by simpa using e)), rfl⟩
 obtain ⟨i, hi, rfl⟩ := List.mem_iff_getElem.1 h
 obtain ⟨j, h1, h2, h3⟩ := key i hi
 unfold Go.Lib.compact Go.Lib.compactUpTo
 refine List.mem_map.2 ⟨j, List.mem_filter.2 ⟨List.mem_range.2 (by omega), h2⟩, ?_⟩
 rw [h3]
 simp [getElem!_pos, hi]
theorem comp_rise (l : List Int) (hs : l.Pairwise (· ≤ ·)) : (Go.Lib.compact l).Pairwise (· < ·) := by
 unfold Go.Lib.compact Go.Lib.compactUpTo
 rw [List.pairwise_map]
 have hp : (List.range l.length).Pairwise (· < ·) := List.pairwise_lt_range
 have hp2 := List.Pairwise.filter (Go.Lib.keeps l.toArray) hp
 refine List.Pairwise.imp_of_mem ?_ hp2
 intro i j hi hj hij
 have hi1 : i < l.length := List.mem_range.1 (List.mem_filter.1 hi).1
 have hj1 : j < l.length := List.mem_range.1 (List.mem_filter.1 hj).1
 have hk := (List.mem_filter.1 hj).2
 unfold Go.Lib.keeps at hk
 have hk := of_decide_eq_true hk
 have hne : l.toArray[j]! ≠ l.toArray[j - 1]! := by
  rcases hk with h | h
  · omega
  · exact h
 have hget := List.pairwise_iff_getElem.1 hs
 have e1 : ∀ q, (hq : q < l.length) → l.toArray[q]! = l[q] := fun q hq => by simp [getElem!_pos, hq]
 rw [e1 j hj1, e1 (j - 1) (by omega)] at hne
 rw [e1 i hi1, e1 j hj1]
 have h1 : l[j - 1] ≤ l[j] := hget (j - 1) j (by omega) hj1 (by omega)
 have h2 : l[i] ≤ l[j - 1] := by
  by_cases e : i = j - 1
  · subst e; exact Int.le_refl _
  · exact hget i (j - 1) hi1 (by omega) (by omega)
 omega
/-! ### stripes -/
theorem sort_f (l : List Int) (h : l.length < 4611686018427387904) : slices_Sort.f l = some (l.mergeSort fun x y => decide (x ≤ y)) := by
 unfold slices_Sort.f
 rw [if_pos h]
 all_goals first | rfl | rw [Is.isort_eq]
theorem comp_f (l : List Int) (h : l.length ≤ 9223372036854775807) : slices_Compact.f l = some (Go.Lib.compact l) := by
 unfold slices_Compact.f
 rw [if_pos h]
def whoT (who : Int) : Bool := decide (1 ≤ who ∧ who ≤ 8)
def negB (cells : List Int) : Bool := cells.any fun c => decide (c < 0)
theorem neg_f (cells : List Int) : any_at_stripe_below.f cells = some (negB cells) := by
 unfold any_at_stripe_below.f negB
 rw [anyF_T (f := fun x => stripe_below.f x) (p := fun c => decide (c < 0)) cells (fun x _ => rfl)]
theorem negB_no {cells : List Int} (h : negB cells = false) : ∀ c ∈ cells, 0 ≤ c := by
 intro c hc
 unfold negB at h
 rw [List.any_eq_false] at h
 have := h c hc
 simpa using this
def ofL (n : Nat) (cells : List Int) : List Int := Go.Lib.compact ((cells.map fun c => Int.tmod c (n : Int)).mergeSort fun x y => decide (x ≤ y))
def ofT (t : List S67) (cells : List Int) : List Int := if (rightT t && !(negB cells)) = true then ofL t.length cells else []
theorem ofL_mem (n : Nat) (cells : List Int) (x : Int) : x ∈ ofL n cells ↔ ∃ c ∈ cells, Int.tmod c (n : Int) = x := by
 unfold ofL
 rw [mem_comp, List.mem_mergeSort, List.mem_map]
theorem ofL_up (n : Nat) (cells : List Int) : (ofL n cells).Pairwise (· < ·) := by
 unfold ofL
 refine comp_rise _ ?_
 have := List.pairwise_mergeSort (le := fun x y : Int => decide (x ≤ y)) (by intro a b c; simp; omega) (by intro a b; simp; omega) (cells.map fun c => Int.tmod c (n : Int))
 exact this.imp fun h => of_decide_eq_true h
theorem ofL_rng {n : Nat} {cells : List Int} (hn : 0 < n) (h : ∀ c ∈ cells, 0 ≤ c) : ∀ x ∈ ofL n cells, 0 ≤ x ∧ x < n := by
 intro x hx
 obtain ⟨c, hc, rfl⟩ := (ofL_mem n cells x).1 hx
 obtain ⟨m, e, hm, _⟩ := tmodN c n (h c hc) hn
 rw [e]; omega
theorem compact_len (l : List Int) : (Go.Lib.compact l).length ≤ l.length := by
 unfold Go.Lib.compact Go.Lib.compactUpTo
 rw [List.length_map]
 refine Nat.le_trans (List.length_filter_le _ _) ?_
 simp
theorem ofL_len (n : Nat) (cells : List Int) : (ofL n cells).length ≤ cells.length := by
 unfold ofL
 refine Nat.le_trans (compact_len _) ?_
 rw [List.length_mergeSort, List.length_map]; exact Nat.le_refl _
theorem Of_l (t : List S67) (ht : 1 ≤ t.length) (cells : List Int) (hm : cells.length < 4398046511) (d : Nat) : ∀ (k i : Nat), i ≤ cells.length → cells.length - i = d → d < k →
 stripe_Of.l0 k t ((cells.take i).map fun c => Int.tmod c (t.length : Int)) cells (cells.length : Int) (i : Int) = some (ofL t.length cells) := by
 induction d with
 | zero =>
  intro k i hi hd hk
  obtain ⟨k, rfl⟩ : ∃ m, k = m + 1 := ⟨k - 1, by omega⟩
  rw [List.take_of_length_le (by omega)]
  simp only [stripe_Of.l0]
  rw [if_neg (by omega), sort_f _ (by rw [List.length_map]; omega)]
  simp only [Option.bind_some]
  rw [comp_f _ (by rw [List.length_mergeSort, List.length_map]; omega)]; rfl
 | succ d ih =>
  intro k i hi hd hk
  obtain ⟨k, rfl⟩ : ∃ m, k = m + 1 := ⟨k - 1, by omega⟩
  have next := ih k (i + 1) (by omega) (by omega) (by omega)
  rw [take_snG cells 0 i (by omega), List.map_append] at next
  simp only [stripe_Of.l0]
  rw [if_pos (by omega), if_pos (by omega), if_pos (by omega), if_neg (by omega), if_pos (by rw [List.length_map, List.length_take]; omega), wrN (by omega), show rd cells (i : Int) = cells.getD i 0 from rfl]
  exact next
theorem Of_f (k : Nat) (t : List S67) (cells : List Int) (hm : cells.length < 4398046511) (hk : cells.length + 2 < k) : stripe_Of.f k t cells = some (ofT t cells) := by
 obtain ⟨k, rfl⟩ : ∃ m, k = m + 1 := ⟨k - 1, by omega⟩
 unfold stripe_Of.f ofT
 rw [RightT_f, neg_f]
 simp only [Option.bind_some]
 cases hr : rightT t with
 | true =>
  rw [if_pos rfl]
  simp only [stripe_Of.j0]
  cases hn : negB cells with
  | true => rw [if_pos rfl]; rfl
  | false =>
   rw [if_neg (by decide), if_pos (show (true && !false) = true from rfl)]
   have := Of_l t (rightT_ok hr).1 cells hm cells.length k 0 (by omega) (by omega) (by omega)
   simpa using this
 | false =>
  rw [if_neg (by decide)]
  simp only [stripe_Of.j0]
  rw [if_pos trivial]; rfl
/-- Some records turned. -/
def upd (f : S67 → S67) (p : Nat → Bool) (t : List S67) : List S67 := (List.range t.length).map fun i => if p i = true then f (t.getD i z67) else t.getD i z67
theorem upd_len (f : S67 → S67) (p : Nat → Bool) (t : List S67) : (upd f p t).length = t.length := by simp [upd]
theorem upd_at (f : S67 → S67) (p : Nat → Bool) (t : List S67) (i : Nat) (hi : i < t.length) : (upd f p t).getD i z67 = if p i = true then f (t.getD i z67) else t.getD i z67 := by
 unfold upd
 rw [List.getD_eq_getElem?_getD, List.getElem?_map, List.getElem?_range hi]; rfl
theorem ext_at {a b : List S67} (hl : a.length = b.length) (h : ∀ i, i < a.length → a.getD i z67 = b.getD i z67) : a = b := by
 refine List.ext_getElem hl fun i h1 h2 => ?_
 have := h i h1
 rw [List.getD_eq_getElem?_getD, List.getElem?_eq_getElem h1, List.getD_eq_getElem?_getD, List.getElem?_eq_getElem h2] at this
 exact this
theorem upd_none (f : S67 → S67) (p : Nat → Bool) (t : List S67) (h : ∀ i, i < t.length → p i = false) : upd f p t = t := by
 refine ext_at (upd_len f p t) fun i hi => ?_
 rw [upd_len] at hi
 rw [upd_at f p t i hi, h i hi, if_neg (by decide)]
theorem upd_ext (f : S67 → S67) (p q : Nat → Bool) (t : List S67) (h : ∀ i, i < t.length → p i = q i) : upd f p t = upd f q t := by
 refine ext_at (by rw [upd_len, upd_len]) fun i hi => ?_
 rw [upd_len] at hi
 rw [upd_at f p t i hi, upd_at f q t i hi, h i hi]
theorem set_getD (a : List S67) (j i : Nat) (v : S67) (hi : i < a.length) : (a.set j v).getD i z67 = if j = i then v else a.getD i z67 := by
 rw [List.getD_eq_getElem?_getD, List.getD_eq_getElem?_getD, List.getElem?_set]
 by_cases e : j = i
 · rw [if_pos e, if_pos e, if_pos (by omega)]; rfl
 · rw [if_neg e, if_neg e]
theorem upd_set (f : S67 → S67) (hf : ∀ x, f (f x) = f x) (p : Nat → Bool) (t : List S67) (j : Nat) (hj : j < t.length) : (upd f p t).set j (f ((upd f p t).getD j z67)) = upd f (fun i => p i || i == j) t := by
 refine ext_at (by rw [List.length_set, upd_len, upd_len]) fun i hi => ?_
 rw [List.length_set, upd_len] at hi
 rw [set_getD _ _ _ _ (by rw [upd_len]; exact hi), upd_at f (fun i => p i || i == j) t i hi]
 by_cases e : j = i
 · subst e
   rw [if_pos rfl, upd_at f p t j hi, if_pos (show (p j || j == j) = true by simp)]
   split
   · exact hf _
   · rfl
 · rw [if_neg e, upd_at f p t i hi]
   have : (i == j) = false := by simp; omega
   simp only [this, Bool.or_false]
def inL (is : List Int) (i : Nat) : Bool := is.any fun x => x == (i : Int)
theorem inL_iff (is : List Int) (i : Nat) : inL is i = true ↔ (i : Int) ∈ is := by
 unfold inL
 rw [List.any_eq_true]
 exact ⟨fun ⟨x, hx, e⟩ => by rw [← beq_iff_eq.1 e]; exact hx, fun h => ⟨_, h, by simp⟩⟩
theorem inL_sn (is : List Int) (x : Int) (hx : 0 ≤ x) : inL (is ++ [x]) = fun i => inL is i || i == x.toNat := by
 funext i
 unfold inL
 rw [List.any_append]
 congr 1
 simp only [List.any_cons, List.any_nil, Bool.or_false]
 rw [Bool.eq_iff_iff, beq_iff_eq, beq_iff_eq]; omega
theorem clone_f (t : List S67) (h : t.length < 4398046511) : slices_Clone_61.f t = some t := by
 unfold slices_Clone_61.f
 simp only [Option.bind_some, List.nil_append, List.length_nil]
 rw [if_pos (by omega)]
/-! locks -/
def own (who : Int) (x : S67) : S67 := ⟨x.f0, who⟩
theorem own_own (who : Int) (x : S67) : own who (own who x) = own who x := rfl
def freeT (t : List S67) (who : Int) (x : Int) : Bool := (t.getD x.toNat z67).f1 == 0 || (t.getD x.toNat z67).f1 == who
def lockT (t : List S67) (who : Int) (cells : List Int) : List S67 × Int :=
 if (rightT t && whoT who && !(negB cells)) = true then (if (ofL t.length cells).all (freeT t who) = true then (upd (own who) (inL (ofL t.length cells)) t, 0) else (t, 7)) else (t, 1)
theorem Lock_l (t : List S67) (who : Int) (is : List Int) (hm : is.length < 4398046511) (hr : ∀ x ∈ is, 0 ≤ x ∧ x < t.length) (d : Nat) : ∀ (k i : Nat), i ≤ is.length → is.length - i = d → d < k → (∀ x ∈ is.take i, freeT t who x = true) →
 stripe_Lock.l0 k t who (upd (own who) (inL (is.take i)) t) is (is.length : Int) (i : Int) = some (if is.all (freeT t who) = true then (upd (own who) (inL is) t, 0) else (t, 7)) := by
 induction d with
 | zero =>
  intro k i hi hd hk hf
  obtain ⟨k, rfl⟩ : ∃ m, k = m + 1 := ⟨k - 1, by omega⟩
  rw [List.take_of_length_le (by omega)] at hf ⊢
  simp only [stripe_Lock.l0]
  rw [if_neg (by omega), if_pos (List.all_eq_true.2 hf)]
 | succ d ih =>
  intro k i hi hd hk hf
  obtain ⟨k, rfl⟩ : ∃ m, k = m + 1 := ⟨k - 1, by omega⟩
  have hmem := getD_in is 0 i (by omega)
  have hrg := hr _ hmem
  have next := ih k (i + 1) (by omega) (by omega) (by omega)
  rw [take_snG is 0 i (by omega), inL_sn _ _ hrg.1] at next
  simp only [stripe_Lock.l0]
  rw [if_pos (by omega), if_pos (by omega), if_pos (by omega), show rd is (i : Int) = is.getD i 0 from rfl, if_pos hrg.1, if_pos hrg.2, wrN (by omega)]
  generalize is.getD i 0 = x at *
  have es : (upd (own who) (inL (is.take i)) t).set x.toNat (⟨(rd_T67 (upd (own who) (inL (is.take i)) t) x).f0, who⟩ : S67) = upd (own who) (fun j => inL (is.take i) j || j == x.toNat) t := upd_set (own who) (own_own who) _ t x.toNat (by omega)
  have hfree : (rd_T67 t x) = t.getD x.toNat z67 := rfl
  by_cases h0 : (rd_T67 t x).f1 = 0
  · rw [if_pos h0, if_pos (by rw [upd_len]; exact hrg.2), es]
    refine next fun y hy => ?_
    rcases List.mem_append.1 hy with h | h
    · exact hf y h
    · rw [List.mem_singleton.1 h]; unfold freeT; rw [← hfree, h0]; rfl
  · rw [if_neg h0]
    by_cases h1 : (rd_T67 t x).f1 = who
    · rw [if_pos h1, if_pos (by rw [upd_len]; exact hrg.2), es]
      refine next fun y hy => ?_
      rcases List.mem_append.1 hy with h | h
      · exact hf y h
      · rw [List.mem_singleton.1 h]; unfold freeT; rw [← hfree, h1]; simp
    · rw [if_neg h1, if_neg]
      intro h
      have := List.all_eq_true.1 h x hmem
      unfold freeT at this
      rw [← hfree] at this
      simp only [Bool.or_eq_true, beq_iff_eq] at this
      omega
theorem Lock_f (k : Nat) (t : List S67) (who : Int) (cells : List Int) (hm : cells.length < 4398046511) (hk : cells.length + 5 < k) : stripe_Lock.f k t who cells = some (lockT t who cells) := by
 obtain ⟨k, rfl⟩ : ∃ m, k = m + 1 := ⟨k - 1, by omega⟩
 unfold stripe_Lock.f lockT
 rw [RightT_f, neg_f, someb_f]
 simp only [Option.bind_some]
 cases hr : rightT t with
 | true =>
  rw [if_pos rfl]
  have ht := rightT_ok hr
  cases hw : decide (1 ≤ who ∧ who ≤ 8) with
  | true =>
   rw [if_pos rfl, show whoT who = true from hw]
   simp only [stripe_Lock.j0]
   cases hn : negB cells with
   | true => rw [if_pos rfl]; rfl
   | false =>
    rw [if_neg (by decide), if_pos (show (true && true && !false) = true from rfl), clone_f t (by omega), Of_f k t cells hm (by omega)]
    simp only [Option.bind_some]
    have eo : ofT t cells = ofL t.length cells := by unfold ofT; rw [hr, hn]; rfl
    rw [eo]
    have hl := ofL_len t.length cells
    have := Lock_l t who (ofL t.length cells) (by omega) (ofL_rng (by omega) (negB_no hn)) (ofL t.length cells).length k 0 (by omega) (by omega) (by omega) (by simp)
    rw [List.take_zero, upd_none _ (inL []) _ (fun _ _ => rfl)] at this
    exact this
  | false =>
   rw [if_neg (by decide), show whoT who = false from hw]
   simp only [stripe_Lock.j0]
   rw [if_pos trivial]; rfl
 | false =>
  rw [if_neg (by decide)]
  simp only [stripe_Lock.j0]
  rw [if_pos trivial]; rfl
/-! what somebody holds -/
def heldL (t : List S67) (who : Int) : List Int := ((List.range t.length).filter fun i => (t.getD i z67).f1 == who).map fun i => ((i : Nat) : Int)
def heldT (t : List S67) (who : Int) : List Int := if (rightT t && whoT who) = true then heldL t who else []
theorem Held_l (t : List S67) (who : Int) (hm : t.length < 4398046511) (d : Nat) : ∀ (k i : Nat), i ≤ t.length → t.length - i = d → d < k →
 stripe_Held.l0 k who (((List.range i).filter fun i => (t.getD i z67).f1 == who).map fun i => ((i : Nat) : Int)) t (t.length : Int) (i : Int) = some (heldL t who) := by
 induction d with
 | zero =>
  intro k i hi hd hk
  obtain ⟨k, rfl⟩ : ∃ m, k = m + 1 := ⟨k - 1, by omega⟩
  have : i = t.length := by omega
  subst this
  simp only [stripe_Held.l0]
  rw [if_neg (by omega)]; rfl
 | succ d ih =>
  intro k i hi hd hk
  obtain ⟨k, rfl⟩ : ∃ m, k = m + 1 := ⟨k - 1, by omega⟩
  have next := ih k (i + 1) (by omega) (by omega) (by omega)
  rw [List.range_succ, List.filter_append, List.map_append] at next
  simp only [stripe_Held.l0]
  rw [if_pos (by omega), if_pos (by omega), if_pos (by omega), wrN (by omega), show rd_T67 t (i : Int) = t.getD i z67 from rfl]
  by_cases h : (t.getD i z67).f1 = who
  · rw [if_pos h, if_pos (by
     rw [List.length_map]
     refine Nat.lt_of_le_of_lt (List.length_filter_le _ _) ?_
     rw [List.length_range]; omega)]
    simp only [List.filter_cons, beq_iff_eq.2 h, if_true, List.filter_nil, List.map_cons, List.map_nil] at next
    exact next
  · rw [if_neg h]
    simp only [List.filter_cons, beq_eq_false_iff_ne.2 h, Bool.false_eq_true, if_false, List.filter_nil, List.map_nil, List.append_nil] at next
    exact next
theorem Held_f (k : Nat) (t : List S67) (who : Int) (hm : t.length < 4398046511) (hk : t.length + 2 < k) : stripe_Held.f k t who = some (heldT t who) := by
 obtain ⟨k, rfl⟩ : ∃ m, k = m + 1 := ⟨k - 1, by omega⟩
 unfold stripe_Held.f heldT
 rw [RightT_f, someb_f]
 simp only [Option.bind_some]
 cases hr : rightT t with
 | true =>
  rw [if_pos rfl]
  simp only [stripe_Held.j0]
  cases hw : decide (1 ≤ who ∧ who ≤ 8) with
  | true =>
   rw [if_neg (by decide), show whoT who = true from hw, if_pos (show (true && true) = true from rfl)]
   have := Held_l t who hm t.length k 0 (by omega) (by omega) (by omega)
   simpa using this
  | false => rw [if_pos (by decide), show whoT who = false from hw]; rfl
 | false =>
  rw [if_neg (by decide)]
  simp only [stripe_Held.j0]
  rw [if_pos trivial]; rfl
theorem heldL_mem (t : List S67) (who : Int) (i : Nat) : (i : Int) ∈ heldL t who ↔ i < t.length ∧ (t.getD i z67).f1 = who := by
 unfold heldL
 rw [List.mem_map]
 constructor
 · rintro ⟨j, hj, e⟩
   have := List.mem_filter.1 hj
   have e' : j = i := by omega
   subst e'
   exact ⟨List.mem_range.1 this.1, beq_iff_eq.1 this.2⟩
 · rintro ⟨h1, h2⟩
   exact ⟨i, List.mem_filter.2 ⟨List.mem_range.2 h1, beq_iff_eq.2 h2⟩, rfl⟩
theorem heldL_rng (t : List S67) (who : Int) : ∀ x ∈ heldL t who, 0 ≤ x ∧ x < t.length := by
 intro x hx
 unfold heldL at hx
 obtain ⟨j, hj, rfl⟩ := List.mem_map.1 hx
 have := List.mem_range.1 (List.mem_filter.1 hj).1
 omega
theorem heldL_len (t : List S67) (who : Int) : (heldL t who).length ≤ t.length := by
 unfold heldL
 rw [List.length_map]
 refine Nat.le_trans (List.length_filter_le _ _) ?_
 rw [List.length_range]; exact Nat.le_refl _
theorem inHeld (t : List S67) (who : Int) (i : Nat) (hi : i < t.length) : inL (heldL t who) i = ((t.getD i z67).f1 == who) := by
 rw [Bool.eq_iff_iff, inL_iff, heldL_mem, beq_iff_eq]
 exact ⟨fun h => h.2, fun h => ⟨hi, h⟩⟩
/-! stamps -/
def stampT (t : List S67) (who v : Int) : List S67 × Int :=
 if (rightT t && whoT who) = true then
  (if 0 ≤ v ∧ v ≤ 2147483647 ∧ (heldL t who).all (fun i => decide ((t.getD i.toNat z67).f0 < v)) = true then (upd (fun _ => ⟨v, 0⟩) (fun i => (t.getD i z67).f1 == who) t, 0) else (t, 6))
 else (t, 1)
theorem Stamp_l (t : List S67) (v : Int) (is : List Int) (hm : is.length < 4398046511) (hr : ∀ x ∈ is, 0 ≤ x ∧ x < t.length) (d : Nat) : ∀ (k i : Nat), i ≤ is.length → is.length - i = d → d < k →
 stripe_Stamp.l0 k (upd (fun _ => ⟨v, 0⟩) (inL (is.take i)) t) is (is.length : Int) (i : Int) v = some (upd (fun _ => ⟨v, 0⟩) (inL is) t, 0) := by
 induction d with
 | zero =>
  intro k i hi hd hk
  obtain ⟨k, rfl⟩ : ∃ m, k = m + 1 := ⟨k - 1, by omega⟩
  rw [List.take_of_length_le (by omega)]
  simp only [stripe_Stamp.l0]
  rw [if_neg (by omega)]
 | succ d ih =>
  intro k i hi hd hk
  obtain ⟨k, rfl⟩ : ∃ m, k = m + 1 := ⟨k - 1, by omega⟩
  have hrg := hr _ (getD_in is 0 i (by omega))
  have next := ih k (i + 1) (by omega) (by omega) (by omega)
  rw [take_snG is 0 i (by omega), inL_sn _ _ hrg.1] at next
  simp only [stripe_Stamp.l0]
  rw [if_pos (by omega), if_pos (by omega), if_pos (by omega), show rd is (i : Int) = is.getD i 0 from rfl, if_pos hrg.1, if_pos (by rw [upd_len]; exact hrg.2), wrN (by omega)]
  generalize is.getD i 0 = x at *
  have es := upd_set (fun _ => (⟨v, 0⟩ : S67)) (fun _ => rfl) (inL (is.take i)) t x.toNat (by omega)
  rw [show (upd (fun _ => (⟨v, 0⟩ : S67)) (inL (is.take i)) t).set x.toNat ⟨v, 0⟩ = _ from es]
  exact next
theorem Stamp_f (k : Nat) (t : List S67) (who v : Int) (hm : t.length < 4398046511) (hk : t.length + 5 < k) : stripe_Stamp.f k t who v = some (stampT t who v) := by
 obtain ⟨k, rfl⟩ : ∃ m, k = m + 1 := ⟨k - 1, by omega⟩
 unfold stripe_Stamp.f stampT
 rw [Held_f (k + 1) t who hm (by omega), RightT_f, someb_f]
 simp only [Option.bind_some]
 cases hr : rightT t with
 | true =>
  rw [if_pos rfl]
  simp only [stripe_Stamp.j0]
  cases hw : decide (1 ≤ who ∧ who ≤ 8) with
  | true =>
   rw [if_neg (by decide), show whoT who = true from hw, if_pos (show (true && true) = true from rfl)]
   have eh : heldT t who = heldL t who := by unfold heldT; rw [hr, show whoT who = true from hw]; rfl
   rw [eh]
   by_cases h0 : v < 0
   · rw [if_pos h0, if_neg (by omega)]
   · rw [if_neg h0]
     by_cases h1 : v > 2147483647
     · rw [if_pos h1, if_neg (by omega)]
     · rw [if_neg h1]
       unfold any_at_stripe_Stamp_1.f
       rw [anyF_T (f := fun x => stripe_Stamp_1.f x t v) (p := fun i => !(decide ((t.getD i.toNat z67).f0 < v))) (heldL t who) (fun x hx => by
        obtain ⟨a, b⟩ := heldL_rng t who x hx
        unfold stripe_Stamp_1.f
        rw [if_pos a, if_pos b]
        show some (decide ((t.getD x.toNat z67).f0 ≥ v)) = _
        congr 1
        by_cases e : (t.getD x.toNat z67).f0 < v
        · rw [decide_eq_true e, decide_eq_false (by omega)]; rfl
        · rw [decide_eq_false e, decide_eq_true (by omega)]; rfl)]
       simp only [Option.bind_some]
       have ea : ((heldL t who).any fun i => !(decide ((t.getD i.toNat z67).f0 < v))) = !((heldL t who).all fun i => decide ((t.getD i.toNat z67).f0 < v)) := by
        rw [List.not_all_eq_any_not]
       rw [ea]
       cases hA : (heldL t who).all fun i => decide ((t.getD i.toNat z67).f0 < v) with
       | true =>
        have hl := heldL_len t who
        rw [if_neg (by decide), if_pos ⟨by omega, by omega, rfl⟩, clone_f t (by omega)]
        simp only [Option.bind_some]
        have := Stamp_l t v (heldL t who) (by omega) (heldL_rng t who) (heldL t who).length k 0 (by omega) (by omega) (by have := (rightT_ok hr).2.1; omega)
        rw [List.take_zero, upd_none _ (inL []) _ (fun _ _ => rfl)] at this
        rw [show ((0 : Nat) : Int) = 0 from rfl] at this
        rw [this, upd_ext _ _ _ t (fun i hi => inHeld t who i hi)]
       | false => rw [if_pos (by decide), if_neg (fun e => by simp at e)]
  | false =>
   rw [if_pos (by decide), show whoT who = false from hw]; rfl
 | false =>
  rw [if_neg (by decide)]
  simp only [stripe_Stamp.j0]
  rw [if_pos trivial]; rfl
end Go.Proofs.Ytlfmobnmohnjmaa.Rs
