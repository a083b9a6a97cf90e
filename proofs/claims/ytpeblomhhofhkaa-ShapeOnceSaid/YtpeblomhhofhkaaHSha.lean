/-
 PROVED: Plain lemmas on numbers and lists, of what the printed functions answer. No condition beside those of each lemma.
-/
import Derived.Test.YtpeblomhhofhkaaHCode
import Derived.Test.YtpeblomhhofhkaaHShI
import Derived.Test.YtpeblomhhofhkaaHx8
import Derived.Test.YtpeblomhhofhkaaHx10
namespace Go.Proofs.Ytpeblomhhofhkaa.H
open Go.RowKit Go.Proofs.YtpeblomhhofhkaaW.PrintWords Go.Proofs.YtpeblomhhofhkaaW.PrintLast Go.Proofs.YtpeblomhhofhkaaW.PrintMore Go.Proofs.Ytpeblomhhofhkaa.Ho
set_option linter.unusedVariables false
set_option linter.unusedSimpArgs false
/-! ### the bytes of codes -/
abbrev Stp := S53
abbrev TOp := S50
theorem mayC_len {s : Stp} (h : mayC s = true) : s.f3.length ≤ 12 := by
 have r : reckB s.f3 = true → s.f3.length ≤ 12 := fun h => by
  unfold reckB at h
  simp only [Bool.and_eq_true, beq_iff_eq] at h
  exact (checkB_ok h.1).2.1
 have z : (s.f3.length == 0) = true → s.f3.length ≤ 12 := fun h => by have := beq_iff_eq.1 h; omega
 unfold mayC at h
 repeat' split at h
 all_goals try simp only [Bool.and_eq_true] at h
 all_goals first | exact z h.1.1 | exact r h.2 | exact absurd h (by decide)
theorem flat_len {α : Type} (f : α → List Int) (m : Nat) : ∀ l : List α, (∀ x ∈ l, (f x).length ≤ m) → (l.flatMap f).length ≤ m * l.length
 | [], _ => by simp
 | x :: l, h => by
  have a := h x (by simp)
  have b := flat_len f m l (fun y hy => h y (by simp [hy]))
  rw [List.flatMap_cons, List.length_append, List.length_cons, Nat.mul_succ]
  omega
theorem b4_len (n : Int) : (b4 n).length = 4 := rfl
theorem opB_len (o : TOp) : (opB o).length = 5 := rfl
theorem flat_op : ∀ l : List TOp, (l.flatMap opB).length = 5 * l.length
 | [] => rfl
 | x :: l => by rw [List.flatMap_cons, List.length_append, flat_op l, opB_len, List.length_cons]; omega
theorem stepB_len (s : Stp) : (stepB s).length = 4 + 5 * s.f3.length := by
 unfold stepB
 rw [List.length_append, flat_op]
 rfl
theorem codeB_len {c : List Stp} (h : checkC c = 0) : (codeB c).length ≤ 2000 := by
 obtain ⟨h1, h2, _⟩ := checkC_ok h
 have := flat_len stepB 64 c (fun s hs => by rw [stepB_len]; have := mayC_len (h2 s hs); omega)
 unfold codeB
 rw [List.length_cons]
 omega
def sizeB (c : List Stp) : Int := if checkC c = 0 then ((codeB c).length : Int) else 0
theorem Size_f (k : Nat) (c : List Stp) (hk : 60 ≤ k) : shape_Size.f k c = some (sizeB c) := by
 unfold shape_Size.f sizeB
 rw [CheckC_f k c hk, Option.bind_some]
 by_cases h : checkC c = 0
 · have := codeB_len h
   rw [if_pos h, if_pos h, if_pos (by omega)]
 · rw [if_neg h, if_neg h]
def okL (l : List (List Stp)) : Bool := l.all fun c => checkC c == 0
theorem okL_iff (l : List (List Stp)) : okL l = true ↔ ∀ c ∈ l, checkC c = 0 := by
 unfold okL
 rw [List.all_eq_true]
 exact ⟨fun h c hc => beq_iff_eq.1 (h c hc), fun h c hc => beq_iff_eq.2 (h c hc)⟩
def bytesL (l : List (List Stp)) : List Int := ((l.length : Int) % 256) :: l.flatMap codeB
def writeB (l : List (List Stp)) : List Int × Int := if l.length ≤ 8 ∧ okL l = true then (bytesL l, 0) else ([], 1)
theorem wr_f (k : Nat) (hk : 60 ≤ k) : ∀ (l : List (List Stp)) (acc : List Int), acc.length + 2000 * l.length ≤ 100000 → shape_wr k acc l = some (if okL l = true then (acc ++ l.flatMap codeB, 0) else ([], 1))
 | [], acc, _ => by simp [shape_wr, okL]
 | c :: l, acc, h => by
  rw [List.length_cons] at h
  simp only [shape_wr]
  rw [CheckC_f k c hk, Option.bind_some]
  by_cases hc : checkC c = 0
  · have hl := codeB_len hc
    rw [if_pos hc, if_pos (by omega), wr_f k hk l (acc ++ codeB c) (by rw [List.length_append]; omega)]
    have : okL (c :: l) = okL l := by unfold okL; rw [List.all_cons, beq_iff_eq.2 hc, Bool.true_and]
    rw [this, List.flatMap_cons, List.append_assoc]
  · rw [if_neg hc, if_neg]
    intro g
    exact hc ((okL_iff _).1 g c (by simp))
theorem Write_f (k : Nat) (l : List (List Stp)) (hk : 60 ≤ k) : shape_Write.f k l = some (writeB l) := by
 unfold shape_Write.f writeB
 by_cases h : (l.length : Int) > 8
 · rw [if_pos h, if_neg (fun g => by omega)]
 · rw [if_neg h, wr_f k hk l _ (by simp; omega)]
   by_cases g : okL l = true
   · rw [if_pos g, if_pos ⟨by omega, g⟩]; rfl
   · rw [if_neg g, if_neg (fun e => g e.2)]
theorem awake9 (k : Nat) (hk : 80 ≤ k) : handshakerlaw09_awake.f k = some true :=
 at_rounds (g := handshakerlaw09_awake.f) handshakerlaw09_awake.mono hk (by decide +kernel)
theorem SmallG_l (c : List S53) (hm : c.length ≤ 9223372036854775807) (d : Nat) : ∀ (k i : Nat), i ≤ c.length → c.length - i = d → d < k → (∀ s ∈ c.take i, s.f3.length ≤ 20) →
 handshakerlaw08_Small.l0 k c c (c.length : Int) (i : Int) = some (-1) ∨ (c.length ≤ 40 ∧ (∀ s ∈ c, s.f3.length ≤ 20) ∧ handshakerlaw08_Small.l0 k c c (c.length : Int) (i : Int) = some (c.length : Int)) := by
 induction d with
 | zero =>
  intro k i hi hd hk hs
  obtain ⟨k, rfl⟩ : ∃ m, k = m + 1 := ⟨k - 1, by omega⟩
  rw [List.take_of_length_le (by omega)] at hs
  simp only [handshakerlaw08_Small.l0]
  rw [if_neg (by omega)]
  by_cases h : c.length > 40
  · rw [if_pos (by omega)]; exact .inl rfl
  · rw [if_neg (by omega)]; exact .inr ⟨by omega, hs, rfl⟩
 | succ d ih =>
  intro k i hi hd hk hs
  obtain ⟨k, rfl⟩ : ∃ m, k = m + 1 := ⟨k - 1, by omega⟩
  simp only [handshakerlaw08_Small.l0]
  rw [if_pos (by omega), if_pos (by omega), if_pos (by omega), show wrap64 ((i : Int) + 1) = ((i + 1 : Nat) : Int) by unfold wrap64; omega, show rd_T53 c (i : Int) = c.getD i z53 from rfl]
  by_cases h : (c.getD i z53).f3.length > 20
  · rw [if_pos (by omega)]; exact .inl rfl
  · rw [if_neg (by omega)]
    refine ih k (i + 1) (by omega) (by omega) (by omega) fun s hs' => ?_
    rw [List.take_add_one, List.getElem?_eq_getElem (by omega)] at hs'
    rcases List.mem_append.1 hs' with h' | h'
    · exact hs s h'
    · have : s = c.getD i z53 := by
       rw [List.getD_eq_getElem?_getD, List.getElem?_eq_getElem (by omega)]
       simpa using h'
      rw [this]; omega
theorem SmallG_f (k : Nat) (c : List S53) (hm : c.length ≤ 9223372036854775807) (hk : c.length < k) :
 handshakerlaw08_Small.f k c = some (-1) ∨ (c.length ≤ 40 ∧ (∀ s ∈ c, s.f3.length ≤ 20) ∧ handshakerlaw08_Small.f k c = some (c.length : Int)) := by
 unfold handshakerlaw08_Small.f
 exact SmallG_l c hm c.length k 0 (by omega) (by omega) (by omega) (by simp)
theorem small_l (l : List (List Stp)) (hm : l.length < 9000000000000000000) (hs : ∀ c ∈ l, c.length ≤ 9223372036854775807) (M : Nat) (hM : ∀ c ∈ l, c.length < M) (d : Nat) : ∀ (k i : Nat), i ≤ l.length → l.length - i = d → d + M < k → (∀ c ∈ l.take i, c.length ≤ 40 ∧ ∀ s ∈ c, s.f3.length ≤ 20) →
 ∃ b, handshakerlaw09_small.l0 k l l (l.length : Int) (i : Int) = some b ∧ (b = true → l.length ≤ 12 ∧ ∀ c ∈ l, c.length ≤ 40 ∧ ∀ s ∈ c, s.f3.length ≤ 20) := by
 induction d with
 | zero =>
  intro k i hi hd hk h
  obtain ⟨k, rfl⟩ : ∃ m, k = m + 1 := ⟨k - 1, by omega⟩
  rw [List.take_of_length_le (by omega)] at h
  simp only [handshakerlaw09_small.l0]
  rw [if_neg (by omega)]
  exact ⟨_, rfl, fun g => ⟨by have := of_decide_eq_true g; omega, h⟩⟩
 | succ d ih =>
  intro k i hi hd hk h
  obtain ⟨k, rfl⟩ : ∃ m, k = m + 1 := ⟨k - 1, by omega⟩
  have hmem : l.getD i [] ∈ l := by rw [List.getD_eq_getElem?_getD, List.getElem?_eq_getElem (by omega)]; exact List.getElem_mem _
  simp only [handshakerlaw09_small.l0]
  rw [if_pos (by omega), if_pos (by omega), if_pos (by omega), show rd_L5 l (i : Int) = l.getD i [] from rfl, show wrap64 ((i : Int) + 1) = ((i + 1 : Nat) : Int) by unfold wrap64; omega]
  rcases SmallG_f k (l.getD i []) (by have := hs _ hmem; omega) (by have := hM _ hmem; omega) with e | ⟨h1, h2, e⟩
  · rw [e, Option.bind_some, if_pos (by decide)]
    exact ⟨false, rfl, fun g => absurd g (by decide)⟩
  · rw [e, Option.bind_some, if_neg (by omega)]
    refine ih k (i + 1) (by omega) (by omega) (by omega) (fun c hc => ?_)
    rw [List.take_add_one, List.getElem?_eq_getElem (by omega)] at hc
    rcases List.mem_append.1 hc with hc | hc
    · exact h c hc
    · have e2 : c = l.getD i [] := by rw [List.getD_eq_getElem?_getD, List.getElem?_eq_getElem (by omega)]; simpa using hc
      rw [e2]; exact ⟨h1, h2⟩
end Go.Proofs.Ytpeblomhhofhkaa.H
