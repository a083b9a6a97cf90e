/-
  PROVED: Plain lemmas on numbers and lists, of what the printed functions answer. No condition beside those of each lemma.
-/
import Derived.Test.YtlfeohglfjnnhaaHpx2
import Derived.Test.YtlfeohglfjnnhaaHpx3
import Derived.Test.YtlfeohglfjnnhaaHpx5
namespace Go.Proofs.Ytlfeohglfjnnhaa.Hp
open Go.RowKit Go.Proofs.YtlfeohglfjnnhaaW.PrintWords Go.Proofs.YtlfeohglfjnnhaaW.PrintLast Go.Proofs.YtlfeohglfjnnhaaW.PrintMore Go.Proofs.Ytlfeohglfjnnhaa.Ho
set_option linter.unusedVariables false
set_option linter.unusedSimpArgs false
theorem wr {i : Int} (h0 : -9223372036854775808 ≤ i) (h : i ≤ 9223372036854775807) : wrap64 i = i := by unfold wrap64; omega
theorem wrN {i : Nat} (h : i < 4611686018427387904) : wrap64 ((i : Int) + 1) = ((i + 1 : Nat) : Int) := by unfold wrap64; omega
theorem drop_cons {α : Type} (l : List α) (z : α) (i : Nat) (h : i < l.length) : l.drop i = l.getD i z :: l.drop (i + 1) := by
  rw [List.drop_eq_getElem_cons h]
  simp [List.getElem?_eq_getElem h]
/-- The first place at which p holds, from i on, or -1. -/
def idxT {α : Type} (p : α → Bool) : List α → Int → Int
  | [], _ => -1
  | x :: xs, i => if p x then i else idxT p xs (i + 1)
theorem idxT_yes {α : Type} {p : α → Bool} {x : α} {xs : List α} {i : Int} (h : p x = true) : idxT p (x :: xs) i = i := by simp [idxT, h]
theorem idxT_no {α : Type} {p : α → Bool} {x : α} {xs : List α} {i : Int} (h : p x = false) : idxT p (x :: xs) i = idxT p xs (i + 1) := by simp [idxT, h]
theorem idxF_T {α : Type} {f : α → Option Bool} {p : α → Bool} : ∀ (l : List α) (i : Int), (∀ x ∈ l, f x = some (p x)) → idxF f l i = some (idxT p l i)
  | [], _, _ => rfl
  | x :: xs, i, h => by
    simp only [idxF, idxT]
    rw [h x (by simp), idxF_T xs (i + 1) (fun y hy => h y (by simp [hy]))]
    simp only [Option.bind_some]
    cases p x <;> rfl
theorem anyF_T {α : Type} {f : α → Option Bool} {p : α → Bool} : ∀ (l : List α), (∀ x ∈ l, f x = some (p x)) → anyF f l = some (l.any p)
  | [], _ => rfl
  | x :: xs, h => by
    simp only [anyF, List.any_cons]
    rw [h x (by simp), anyF_T xs (fun y hy => h y (by simp [hy]))]
    simp only [Option.bind_some]
    cases p x <;> rfl
theorem idxT_cases {α : Type} (p : α → Bool) (z : α) : ∀ (l : List α) (i : Int), (idxT p l i = -1 ∧ ∀ x ∈ l, p x = false) ∨ ∃ j : Nat, j < l.length ∧ idxT p l i = i + j ∧ p (l.getD j z) = true ∧ ∀ m, m < j → p (l.getD m z) = false
  | [], i => .inl ⟨rfl, fun x hx => by cases hx⟩
  | x :: xs, i => by
    cases hx : p x with
    | true => exact .inr ⟨0, by simp, by simp [idxT, hx], by simpa using hx, fun m hm => by omega⟩
    | false =>
      rcases idxT_cases p z xs (i + 1) with ⟨h1, h2⟩ | ⟨j, h1, h2, h3, h4⟩
      · exact .inl ⟨by simp [idxT, hx, h1], fun y hy => by rcases List.mem_cons.1 hy with rfl | hy; exact hx; exact h2 y hy⟩
      · refine .inr ⟨j + 1, by simpa using h1, by simp [idxT, hx, h2]; omega, by simpa using h3, fun m hm => ?_⟩
        cases m with
        | zero => simpa using hx
        | succ m => simpa using h4 m (by omega)
def inR (v : Int) : Bool := decide (-2147483648 ≤ v ∧ v ≤ 2147483647)
theorem right_f (a : Int) : span_Right.f a = some (inR a) := by
  unfold span_Right.f inR
  by_cases h : a ≥ (-2147483648)
  · rw [if_pos h]; simp [h]
  · rw [if_neg h]; simp [h]
/-! ### heaps -/
def okC (c : S59) : Bool := inR c.f1 && (c.f0 || c.f1 == 0)
def RightB (h : List S59) : Bool := decide (1 ≤ h.length) && decide (h.length ≤ 64) && h.all okC
def there (h : List S59) (c : Int) : Bool := decide (0 ≤ c ∧ c < h.length) && (h.getD c.toNat z59).f0
def getB (h : List S59) (c : Int) : Int × Int := if RightB h = true then if there h c = true then ((h.getD c.toNat z59).f1, 0) else (0, 3) else (0, 1)
theorem wrong_f (a : Bool) (v : Int) : heap_wrong.f a v = some (!(okC ⟨a, v⟩)) := by
  unfold heap_wrong.f
  rw [right_f]
  simp only [Option.bind_some, okC]
  cases inR v <;> cases a <;> first | rfl | (by_cases h : v = 0 <;> simp [h])
theorem all_okC (h : List S59) : (!(h.any fun x => !(okC x))) = h.all okC := by
  induction h with
  | nil => rfl
  | cons x xs ih => simp only [List.any_cons, List.all_cons, ← ih]; cases okC x <;> simp
theorem Right_f (h : List S59) : heap_Right.f h = some (RightB h) := by
  unfold heap_Right.f any_at_heap_wrong.f RightB
  rw [anyF_T (p := fun x => !(okC x)) h (fun x _ => wrong_f x.f0 x.f1)]
  simp only [Option.bind_some, all_okC]
  by_cases h1 : (h.length : Int) ≥ 1
  · rw [if_pos h1]
    by_cases h2 : (h.length : Int) ≤ 64
    · rw [if_pos h2]
      have e1 : decide (1 ≤ h.length) = true := by simp; omega
      have e2 : decide (h.length ≤ 64) = true := by simp; omega
      rw [e1, e2]; simp
    · rw [if_neg h2]
      have e2 : decide (h.length ≤ 64) = false := by simp; omega
      rw [e2]; simp
  · rw [if_neg h1]
    have e1 : decide (1 ≤ h.length) = false := decide_eq_false (by omega)
    rw [e1]; simp
theorem Right_len {h : List S59} (hr : RightB h = true) : 1 ≤ h.length ∧ h.length ≤ 64 ∧ ∀ x ∈ h, okC x = true := by
  simp only [RightB, Bool.and_eq_true, decide_eq_true_eq, List.all_eq_true] at hr
  exact ⟨hr.1.1, hr.1.2, hr.2⟩
theorem there_f (h : List S59) (c : Int) : heap_there.f h c = some (there h c) := by
  unfold heap_there.f there
  by_cases h0 : c ≥ 0
  · rw [if_pos h0]
    by_cases h1 : c < (h.length : Int)
    · rw [if_pos h1, if_pos h0]
      have : decide (0 ≤ c ∧ c < (h.length : Int)) = true := decide_eq_true ⟨h0, h1⟩
      rw [this]; rfl
    · rw [if_neg h1]
      have : decide (0 ≤ c ∧ c < (h.length : Int)) = false := decide_eq_false (fun e => h1 e.2)
      rw [this]; rfl
  · rw [if_neg h0]
    have : decide (0 ≤ c ∧ c < (h.length : Int)) = false := decide_eq_false (fun e => h0 e.1)
    rw [this]; rfl
theorem there_rng {h : List S59} {c : Int} (ht : there h c = true) : 0 ≤ c ∧ c < h.length ∧ (h.getD c.toNat z59).f0 = true := by
  simp only [there, Bool.and_eq_true, decide_eq_true_eq] at ht
  exact ⟨ht.1.1, ht.1.2, ht.2⟩
theorem Get_f (h : List S59) (c : Int) : heap_Get.f h c = some (getB h c) := by
  unfold heap_Get.f getB
  rw [Right_f, there_f]
  simp only [Option.bind_some]
  by_cases hr : RightB h = true
  · rw [if_pos hr, if_pos hr]
    by_cases ht : there h c = true
    · obtain ⟨h0, h1, _⟩ := there_rng ht
      rw [if_pos ht, if_pos ht, if_pos h0, if_pos h1]; rfl
    · rw [if_neg ht, if_neg ht]
  · rw [if_neg hr, if_neg hr]
theorem getB_ok {h : List S59} {c : Int} (he : (getB h c).2 = 0) : RightB h = true ∧ there h c = true := by
  unfold getB at he
  split at he
  · split at he
    · exact ⟨by assumption, by assumption⟩
    · simp at he
  · simp at he
theorem Clone_f (h : List S59) (hl : h.length < 8796093022208) : slices_Clone.f h = some h := by
  unfold slices_Clone.f
  simp only [Option.bind_some, List.length_nil, Nat.zero_add, List.nil_append]
  rw [if_pos hl]
def freeI (h : List S59) : Int := idxT (fun x : S59 => !x.f0) h 0
def allocB (h : List S59) (v : Int) : List S59 × Int × Int := if RightB h = true ∧ inR v = true then (if freeI h < 0 then (h, 0, 4) else (h.set (freeI h).toNat ⟨true, v⟩, freeI h, 0)) else (h, 0, 1)
theorem Alloc_f (k : Nat) (h : List S59) (v : Int) : heap_Alloc.f (k + 1) h v = some (allocB h v) := by
  unfold heap_Alloc.f allocB
  rw [Right_f, right_f]
  simp only [Option.bind_some]
  by_cases hr : RightB h = true
  · rw [if_pos hr]
    simp only [heap_Alloc.j0]
    by_cases hv : inR v = true
    · rw [if_neg (by simp [hv]), if_pos ⟨hr, hv⟩]
      unfold idx_at_heap_Alloc_1.f
      rw [idxF_T (p := fun x : S59 => !x.f0) h 0 (fun x _ => by unfold heap_Alloc_1.f; rfl)]
      simp only [Option.bind_some]
      rw [show idxT (fun x : S59 => !x.f0) h 0 = freeI h from rfl]
      by_cases hi : freeI h < 0
      · rw [if_pos hi, if_pos hi]
      · rw [if_neg hi, if_neg hi, Clone_f h (by have := (Right_len hr).2.1; omega)]
        simp only [Option.bind_some]
        have hlt : freeI h < (h.length : Int) := by
          rcases idxT_cases (fun x : S59 => !x.f0) z59 h 0 with ⟨e, _⟩ | ⟨j, hj, e, _⟩
          · unfold freeI at hi ⊢; omega
          · unfold freeI; omega
        rw [if_pos (by omega), if_pos hlt]
    · rw [if_pos (by simpa using hv), if_neg (fun e => hv e.2)]
  · rw [if_neg hr]
    simp only [heap_Alloc.j0]
    rw [if_pos trivial, if_neg (fun e => hr e.1)]
def freeB (h : List S59) (c : Int) : List S59 × Int := if (getB h c).2 = 0 then (h.set c.toNat ⟨false, 0⟩, 0) else (h, (getB h c).2)
theorem Free_f (h : List S59) (c : Int) : heap_Free.f h c = some (freeB h c) := by
  unfold heap_Free.f freeB
  rw [Get_f]
  simp only [Option.bind_some]
  by_cases he : (getB h c).2 = 0
  · obtain ⟨hr, ht⟩ := getB_ok he
    obtain ⟨h0, h1, _⟩ := there_rng ht
    rw [if_pos he, if_pos he, Clone_f h (by have := (Right_len hr).2.1; omega)]
    simp only [Option.bind_some]
    rw [if_pos h0, if_pos h1]
  · rw [if_neg he, if_neg he]
def putL (h : List S59) : List S59 → List S62 → List S59 × Int
  | out, [] => (out, 0)
  | out, w :: ws => if there h w.f0 = true then putL h (out.set w.f0.toNat ⟨(out.getD w.f0.toNat z59).f0, w.f1⟩) ws else (h, 3)
def putB (h : List S59) (l : List S62) : List S59 × Int := if RightB h = true ∧ l.all (fun w => inR w.f1) = true then putL h h l else (h, 1)
theorem Put_l (h : List S59) (l : List S62) (hm : l.length < 4611686018427387904) (d : Nat) : ∀ (k i : Nat) (out : List S59), i ≤ l.length → l.length - i = d → d < k → out.length = h.length →
    heap_Put.l0 k h out l (l.length : Int) (i : Int) = some (putL h out (l.drop i)) := by
  induction d with
  | zero =>
    intro k i out hi hd hk ho
    obtain ⟨k, rfl⟩ : ∃ m, k = m + 1 := ⟨k - 1, by omega⟩
    simp only [heap_Put.l0]
    rw [if_neg (by omega), List.drop_of_length_le (by omega)]
    rfl
  | succ d ih =>
    intro k i out hi hd hk ho
    obtain ⟨k, rfl⟩ : ∃ m, k = m + 1 := ⟨k - 1, by omega⟩
    simp only [heap_Put.l0]
    rw [if_pos (by omega), if_pos (by omega), if_pos (by omega), there_f, drop_cons l z62 i (by omega)]
    simp only [Option.bind_some, putL]
    rw [show rd_T62 l (i : Int) = l.getD i z62 from rfl]
    by_cases ht : there h (l.getD i z62).f0 = true
    · obtain ⟨h0, h1, _⟩ := there_rng ht
      rw [if_pos ht, if_pos ht, if_pos h0, if_pos (by omega), wrN (by omega)]
      exact ih k (i + 1) _ (by omega) (by omega) (by omega) (by simpa using ho)
    · rw [if_neg ht, if_neg ht]
theorem Put1_any (l : List S62) : any_at_heap_Put_1.f l = some (!(l.all (fun w => inR w.f1))) := by
  unfold any_at_heap_Put_1.f
  rw [anyF_T (p := fun w : S62 => !(inR w.f1)) l (fun w _ => by unfold heap_Put_1.f; rw [right_f]; rfl)]
  congr 1
  induction l with
  | nil => rfl
  | cons x xs ih => simp only [List.any_cons, List.all_cons, ih]; cases inR x.f1 <;> simp
theorem Put_f (k : Nat) (h : List S59) (l : List S62) (hm : l.length < 4611686018427387904) (hk : l.length + 1 < k) : heap_Put.f k h l = some (putB h l) := by
  obtain ⟨k, rfl⟩ : ∃ m, k = m + 1 := ⟨k - 1, by omega⟩
  unfold heap_Put.f putB
  rw [Right_f, Put1_any]
  simp only [Option.bind_some]
  by_cases hr : RightB h = true
  · rw [if_pos hr]
    simp only [heap_Put.j0]
    by_cases hv : l.all (fun w => inR w.f1) = true
    · rw [if_neg (by simp [hv]), if_pos ⟨hr, hv⟩, Clone_f h (by have := (Right_len hr).2.1; omega)]
      simp only [Option.bind_some]
      have := Put_l h l hm l.length k 0 h (by omega) (by omega) (by omega) rfl
      simpa using this
    · rw [if_pos (by simpa using hv), if_neg (fun e => hv e.2)]
  · rw [if_neg hr]
    simp only [heap_Put.j0]
    rw [if_pos trivial, if_neg (fun e => hr e.1)]
theorem awake_ok (k : Nat) (hk : 60 ≤ k) : handshakerlaw02_awake.f k = some true :=
  at_rounds (g := handshakerlaw02_awake.f) handshakerlaw02_awake.mono hk (by decide +kernel)
def liveI : List S59 → Int → List Int
  | [], _ => []
  | x :: xs, i => if x.f0 = true then i :: liveI xs (i + 1) else liveI xs (i + 1)
def liveB (h : List S59) : List Int := if RightB h = true then liveI h 0 else []
theorem liveI_len : ∀ (h : List S59) (i : Int), (liveI h i).length ≤ h.length
  | [], _ => by simp [liveI]
  | x :: xs, i => by
    have := liveI_len xs (i + 1)
    simp only [liveI]; split <;> simp <;> omega
theorem liveB_len (h : List S59) : (liveB h).length ≤ h.length := by
  unfold liveB
  by_cases hr : RightB h = true
  · rw [if_pos hr]; exact liveI_len h 0
  · rw [if_neg hr]; exact Nat.zero_le _
theorem Live_l (h : List S59) (hm : h.length < 4398046511104) (d : Nat) : ∀ (k i : Nat) (out : List Int), i ≤ h.length → h.length - i = d → d < k → out.length ≤ i →
    heap_Live.l0 k h out (h.length : Int) (i : Int) = some (out ++ if RightB h = true then liveI (h.drop i) i else []) := by
  induction d with
  | zero =>
    intro k i out hi hd hk ho
    obtain ⟨k, rfl⟩ : ∃ m, k = m + 1 := ⟨k - 1, by omega⟩
    simp only [heap_Live.l0]
    rw [if_neg (by omega), List.drop_of_length_le (by omega)]
    simp [liveI]
  | succ d ih =>
    intro k i out hi hd hk ho
    obtain ⟨k, rfl⟩ : ∃ m, k = m + 1 := ⟨k - 1, by omega⟩
    simp only [heap_Live.l0]
    rw [if_pos (by omega), Right_f, wrN (by omega)]
    simp only [Option.bind_some]
    by_cases hr : RightB h = true
    · rw [if_pos hr, if_pos (by omega), if_pos (by omega), if_pos hr, drop_cons h z59 i (by omega)]
      rw [show rd_T59 h (i : Int) = h.getD i z59 from rfl]
      simp only [liveI]
      by_cases hl : (h.getD i z59).f0 = true
      · rw [if_pos hl, if_pos hl, if_pos (by omega), ih k (i + 1) _ (by omega) (by omega) (by omega) (by simp; omega), if_pos hr]
        simp
      · rw [if_neg hl, if_neg hl, ih k (i + 1) _ (by omega) (by omega) (by omega) (by omega), if_pos hr]
        simp
    · rw [if_neg hr, ih k (i + 1) _ (by omega) (by omega) (by omega) (by omega), if_neg hr]
      simp [hr]
theorem Live_f (k : Nat) (h : List S59) (hm : h.length < 4398046511104) (hk : h.length < k) : heap_Live.f k h = some (liveB h) := by
  unfold heap_Live.f liveB
  have := Live_l h hm h.length k 0 [] (by omega) (by omega) (by omega) (by simp)
  simpa using this
theorem Same_l (h : List S59) (hm : h.length < 4398046511104) (d : Nat) : ∀ (k i : Nat), i ≤ h.length → h.length - i = d → d < k → handshakerref02_Same.l0 k h h (i : Int) = some true := by
  induction d with
  | zero =>
    intro k i hi hd hk
    obtain ⟨k, rfl⟩ : ∃ m, k = m + 1 := ⟨k - 1, by omega⟩
    simp only [handshakerref02_Same.l0]
    rw [if_neg (by omega)]
  | succ d ih =>
    intro k i hi hd hk
    obtain ⟨k, rfl⟩ : ∃ m, k = m + 1 := ⟨k - 1, by omega⟩
    simp only [handshakerref02_Same.l0]
    rw [if_pos (by omega), if_pos (by omega), if_pos (by omega), if_neg (by simp), wrN (by omega)]
    exact ih k (i + 1) (by omega) (by omega) (by omega)
theorem Same_f (k : Nat) (h : List S59) (hm : h.length < 4398046511104) (hk : h.length < k) : handshakerref02_Same.f k h h = some true := by
  unfold handshakerref02_Same.f
  rw [if_pos rfl]
  have := Same_l h hm h.length k 0 (by omega) (by omega) (by omega)
  simpa using this
theorem New_f (n : Int) : heap_New.f n = some (if n < 1 then ([], 1) else if n > 64 then ([], 1) else (List.replicate n.toNat z59, 0)) := by
  unfold heap_New.f
  by_cases h1 : n < 1
  · rw [if_pos h1, if_pos h1]
  · rw [if_neg h1, if_neg h1]
    by_cases h2 : n > 64
    · rw [if_pos h2, if_pos h2]
    · rw [if_neg h2, if_neg h2, if_pos (by omega), if_pos (by omega)]
/-! what puts leave -/
theorem putB_ok {h : List S59} {l : List S62} (hr : RightB h = true) (hl : l.all (fun w => inR w.f1) = true) : putB h l = putL h h l := by unfold putB; rw [if_pos ⟨hr, hl⟩]
theorem putB_bad {h : List S59} {l : List S62} (hl : ¬ l.all (fun w => inR w.f1) = true) : putB h l = (h, 1) := by unfold putB; rw [if_neg (fun e => hl e.2)]
theorem putL_yes {h out : List S59} {w : S62} {ws : List S62} (ht : there h w.f0 = true) : putL h out (w :: ws) = putL h (out.set w.f0.toNat ⟨(out.getD w.f0.toNat z59).f0, w.f1⟩) ws := by simp only [putL]; rw [if_pos ht]
theorem putL_no {h out : List S59} {w : S62} {ws : List S62} (ht : ¬ there h w.f0 = true) : putL h out (w :: ws) = (h, 3) := by simp only [putL]; rw [if_neg ht]
theorem putL_len {h : List S59} : ∀ (l : List S62) (out : List S59), out.length = h.length → (putL h out l).1.length = h.length
  | [], out, ho => ho
  | w :: ws, out, ho => by
    simp only [putL]; split
    · exact putL_len ws _ (by simpa using ho)
    · rfl
theorem putB_len (h : List S59) (l : List S62) : (putB h l).1.length = h.length := by
  unfold putB; split
  · exact putL_len l h rfl
  · rfl
theorem putL_code {h : List S59} : ∀ (l : List S62) (out : List S59), (putL h out l).2 = 0 ∨ (putL h out l) = (h, 3)
  | [], out => .inl rfl
  | w :: ws, out => by
    simp only [putL]; split
    · exact putL_code ws _
    · exact .inr rfl
theorem getD_set (h : List S59) (i j : Nat) (c : S59) (hi : i < h.length) : (h.set i c).getD j z59 = if i = j then c else h.getD j z59 := by
  simp only [List.getD_eq_getElem?_getD, List.getElem?_set]
  split
  · first | rfl | (rw [if_pos (by assumption)]; simp)
  · rfl
/-- The last value that is written to a cell. -/
def lastV : List S62 → Int → Int → Int
  | [], _, v => v
  | w :: ws, i, v => lastV ws i (if w.f0 = i then w.f1 else v)
theorem putL_get {h : List S59} : ∀ (l : List S62) (out : List S59), out.length = h.length → (∀ j : Nat, (out.getD j z59).f0 = (h.getD j z59).f0) → (putL h out l).2 = 0 →
    ∀ j : Nat, j < h.length → (putL h out l).1.getD j z59 = ⟨(h.getD j z59).f0, lastV l j (out.getD j z59).f1⟩
  | [], out, ho, hf, _, j, hj => by
    simp only [putL, lastV]
    have := hf j
    rw [← this]
  | w :: ws, out, ho, hf, he, j, hj => by
    simp only [putL] at he ⊢
    by_cases ht : there h w.f0 = true
    · rw [if_pos ht] at he ⊢
      obtain ⟨h0, h1, h2⟩ := there_rng ht
      have hlt : w.f0.toNat < out.length := by omega
      have hf2 : ∀ j : Nat, ((out.set w.f0.toNat ⟨(out.getD w.f0.toNat z59).f0, w.f1⟩).getD j z59).f0 = (h.getD j z59).f0 := by
        intro j
        rw [getD_set _ _ _ _ hlt]
        split
        · rename_i e; subst e; exact hf _
        · exact hf j
      rw [putL_get ws _ (by simpa using ho) hf2 he j hj]
      simp only [lastV]
      rw [getD_set _ _ _ _ hlt]
      by_cases e : w.f0.toNat = j
      · rw [if_pos e, if_pos (by omega)]
      · rw [if_neg e, if_neg (by omega)]
    · rw [if_neg ht] at he
      simp at he
theorem lastV_eq : ∀ (l : List S62) (i v : Int), lastV l i v = v ∨ ∃ w ∈ l, lastV l i v = w.f1
  | [], i, v => .inl rfl
  | w :: ws, i, v => by
    simp only [lastV]
    rcases lastV_eq ws i (if w.f0 = i then w.f1 else v) with h | ⟨u, hu, h⟩
    · rw [h]; split
      · exact .inr ⟨w, by simp, rfl⟩
      · exact .inl rfl
    · exact .inr ⟨u, by simp [hu], h⟩
theorem putL_live {h : List S59} : ∀ (l : List S62) (out : List S59), (putL h out l).2 = 0 → ∀ w ∈ l, there h w.f0 = true
  | [], out, _, w, hw => by cases hw
  | u :: us, out, he, w, hw => by
    simp only [putL] at he
    by_cases ht : there h u.f0 = true
    · rw [if_pos ht] at he
      rcases List.mem_cons.1 hw with rfl | hw
      · exact ht
      · exact putL_live us _ he w hw
    · rw [if_neg ht] at he; simp at he
theorem lastV_none : ∀ (l : List S62) (i v : Int), (∀ w ∈ l, w.f0 ≠ i) → lastV l i v = v
  | [], _, _, _ => rfl
  | w :: ws, i, v, h => by
    simp only [lastV]
    rw [if_neg (h w (by simp)), lastV_none ws i v (fun u hu => h u (by simp [hu]))]
theorem RightB_of {h : List S59} (h1 : 1 ≤ h.length) (h2 : h.length ≤ 64) (h3 : ∀ j : Nat, j < h.length → okC (h.getD j z59) = true) : RightB h = true := by
  simp only [RightB, Bool.and_eq_true, decide_eq_true_eq, List.all_eq_true]
  refine ⟨⟨h1, h2⟩, fun x hx => ?_⟩
  obtain ⟨j, hj, rfl⟩ := List.getElem_of_mem hx
  have := h3 j hj
  simpa [List.getElem?_eq_getElem hj] using this
theorem okC_get {h : List S59} (hr : RightB h = true) (j : Nat) (hj : j < h.length) : okC (h.getD j z59) = true := by
  have := (Right_len hr).2.2 (h.getD j z59) (by simp [List.getElem?_eq_getElem hj])
  exact this
/-- A heap that is written is one. -/
theorem putB_right {h : List S59} {l : List S62} (hr : RightB h = true) : RightB (putB h l).1 = true := by
  unfold putB
  split
  · rename_i hc
    obtain ⟨_, hall⟩ := hc
    rcases putL_code l h with he | he
    · obtain ⟨h1, h2, h3⟩ := Right_len hr
      have hlen := putL_len (h := h) l h rfl
      refine RightB_of (by omega) (by omega) fun j hj => ?_
      rw [putL_get l h rfl (fun _ => rfl) he j (by omega)]
      have hok := okC_get hr j (by omega)
      simp only [okC, Bool.and_eq_true] at hok ⊢
      rcases lastV_eq l j (h.getD j z59).f1 with e | ⟨w, hw, e⟩
      · rw [e]; exact hok
      · rw [e]
        refine ⟨List.all_eq_true.1 hall w hw, ?_⟩
        -- the cell is Live, or it keeps what it held
        by_cases hl : (h.getD j z59).f0 = true
        · rw [hl]; rfl
        · have hnone : lastV l j (h.getD j z59).f1 = (h.getD j z59).f1 := by
            refine lastV_none l _ _ fun u hu e2 => hl ?_
            obtain ⟨a, b, c⟩ := there_rng (putL_live l h he u hu)
            rw [show j = u.f0.toNat by omega]
            exact c
          rw [hnone] at e
          rw [← e]; exact hok.2
    · rw [he]; exact hr
  · exact hr
theorem there_put {h : List S59} {l : List S62} (c : Int) : there (putB h l).1 c = there h c := by
  by_cases hc : RightB h = true ∧ l.all (fun w => inR w.f1) = true
  · have e : putB h l = putL h h l := by unfold putB; rw [if_pos hc]
    rw [e]
    rcases putL_code (h := h) l h with he | he
    · have hlen := putL_len (h := h) l h rfl
      unfold there
      rw [hlen]
      by_cases hr : 0 ≤ c ∧ c < (h.length : Int)
      · rw [putL_get l h rfl (fun _ => rfl) he c.toNat (by omega)]
      · simp only [decide_eq_false hr, Bool.false_and]
    · rw [he]
  · have e : putB h l = (h, 1) := by unfold putB; rw [if_neg hc]
    rw [e]
theorem ext_getD {a b : List S59} (hl : a.length = b.length) (h : ∀ j : Nat, j < a.length → a.getD j z59 = b.getD j z59) : a = b := by
  refine List.ext_getElem hl fun j h1 h2 => ?_
  have := h j h1
  simpa [List.getElem?_eq_getElem h1, List.getElem?_eq_getElem h2] using this
end Go.Proofs.Ytlfeohglfjnnhaa.Hp
