/-
 PROVED: Plain lemmas on numbers and lists, of what the printed functions answer. No condition beside those of each lemma.
-/
import Derived.Test.YtlfmobnmohnjmaaTLem
import Derived.Test.YtlfmobnmohnjmaaTLem3
import Derived.Test.YtlfmobnmohnjmaaTx4
import Derived.Test.YtlfmobnmohnjmaaTx5
import Derived.Test.YtlfmobnmohnjmaaTx6
import Derived.Test.YtlfmobnmohnjmaaTx7
namespace Go.Proofs.Ytlfmobnmohnjmaa.T
open Go.RowKit Go.Proofs.YtlfmobnmohnjmaaW.PrintWords Go.Proofs.YtlfmobnmohnjmaaW.PrintLast Go.Proofs.YtlfmobnmohnjmaaW.PrintMore Go.Proofs.Ytlfmobnmohnjmaa.Ho
set_option linter.unusedVariables false
set_option linter.unusedSimpArgs false
/-! ### the document's stripes -/
theorem rWhoT_f (a : Int) : handshakerref03_Who.f a = some (whoT a) := by
 unfold handshakerref03_Who.f whoT
 by_cases h : a > 0
 · rw [if_pos h]; congr 1; rw [decide_eq_decide]; omega
 · rw [if_neg h]; congr 1; symm; rw [decide_eq_false_iff_not]; omega
theorem rRightT_l (t : List S67) (hm : t.length < 4398046511) (d : Nat) : ∀ (k i : Nat), i ≤ t.length → t.length - i = d → d < k →
 handshakerref03_Right.l0 k t (i : Int) = some (decide (1 ≤ t.length ∧ t.length ≤ 16) && (t.drop i).all okT) := by
 induction d with
 | zero =>
  intro k i hi hd hk
  obtain ⟨k, rfl⟩ : ∃ m, k = m + 1 := ⟨k - 1, by omega⟩
  rw [List.drop_of_length_le (by omega)]
  simp only [handshakerref03_Right.l0]
  rw [if_neg (by omega), List.all_nil, Bool.and_true]
  by_cases h : (t.length : Int) > 0
  · rw [if_pos h]; congr 1; rw [decide_eq_decide]; omega
  · rw [if_neg h]; congr 1; symm; rw [decide_eq_false_iff_not]; omega
 | succ d ih =>
  intro k i hi hd hk
  obtain ⟨k, rfl⟩ : ∃ m, k = m + 1 := ⟨k - 1, by omega⟩
  rw [drop_cons t z67 i (by omega), List.all_cons]
  simp only [handshakerref03_Right.l0]
  rw [if_pos (by omega), if_pos (by omega), wrN (by omega), show rd_T67 t (i : Int) = t.getD i z67 from rfl, ih k (i + 1) (by omega) (by omega) (by omega)]
  generalize t.getD i z67 = x
  unfold okT tickB
  by_cases h0 : x.f0 < 0
  · rw [if_pos h0, decide_eq_false (show ¬ (0 ≤ x.f0 ∧ x.f0 ≤ 2147483647) by omega)]; simp
  · rw [if_neg h0]
    by_cases h1 : x.f0 > 2147483647
    · rw [if_pos h1, decide_eq_false (show ¬ (0 ≤ x.f0 ∧ x.f0 ≤ 2147483647) by omega)]; simp
    · rw [if_neg h1, decide_eq_true (show 0 ≤ x.f0 ∧ x.f0 ≤ 2147483647 by omega)]
      by_cases h2 : x.f1 < 0
      · rw [if_pos h2, decide_eq_false (show ¬ (0 ≤ x.f1 ∧ x.f1 ≤ 8) by omega)]; simp
      · rw [if_neg h2]
        by_cases h3 : x.f1 > 8
        · rw [if_pos h3, decide_eq_false (show ¬ (0 ≤ x.f1 ∧ x.f1 ≤ 8) by omega)]; simp
        · rw [if_neg h3, decide_eq_true (show 0 ≤ x.f1 ∧ x.f1 ≤ 8 by omega)]; simp
theorem rRightT_f (k : Nat) (t : List S67) (hm : t.length < 4398046511) (hk : t.length < k) : handshakerref03_Right.f k t = some (rightT t) := by
 unfold handshakerref03_Right.f rightT
 have := rRightT_l t hm t.length k 0 (by omega) (by omega) (by omega)
 simpa using this
theorem New_f (n : Int) : stripe_New.f n = some (if 1 ≤ n ∧ n ≤ 16 then (List.replicate n.toNat z67, 0) else ([], 1)) := by
 unfold stripe_New.f
 by_cases h1 : n < 1
 · rw [if_pos h1, if_neg (by omega)]
 · rw [if_neg h1]
   by_cases h2 : n > 16
   · rw [if_pos h2, if_neg (by omega)]
   · rw [if_neg h2, if_pos (by omega), if_pos (by omega), if_pos (by omega)]
theorem rCellsT_l (cells : List Int) (hm : cells.length < 4398046511) (d : Nat) : ∀ (k i : Nat), i ≤ cells.length → cells.length - i = d → d < k → (∀ c ∈ cells.take i, 0 ≤ c) →
 handshakerref03_Cells.l0 k cells (i : Int) = some (!(negB cells)) := by
 induction d with
 | zero =>
  intro k i hi hd hk h
  obtain ⟨k, rfl⟩ : ∃ m, k = m + 1 := ⟨k - 1, by omega⟩
  rw [List.take_of_length_le (by omega)] at h
  simp only [handshakerref03_Cells.l0]
  rw [if_neg (by omega), negB_of h]; rfl
 | succ d ih =>
  intro k i hi hd hk h
  obtain ⟨k, rfl⟩ : ∃ m, k = m + 1 := ⟨k - 1, by omega⟩
  simp only [handshakerref03_Cells.l0]
  rw [if_pos (by omega), if_pos (by omega), wrN (by omega), show rd cells (i : Int) = cells.getD i 0 from rfl]
  by_cases e : cells.getD i 0 < 0
  · rw [if_pos e]
    have : negB cells = true := by
     unfold negB
     rw [List.any_eq_true]
     exact ⟨_, getD_in cells 0 i (by omega), decide_eq_true e⟩
    rw [this]; rfl
  · rw [if_neg e]
    refine ih k (i + 1) (by omega) (by omega) (by omega) fun c hc => ?_
    rw [take_snG cells 0 i (by omega)] at hc
    rcases List.mem_append.1 hc with g | g
    · exact h c g
    · rw [List.mem_singleton.1 g]; omega
theorem rCellsT_f (k : Nat) (cells : List Int) (hm : cells.length < 4398046511) (hk : cells.length < k) : handshakerref03_Cells.f k cells = some (!(negB cells)) := by
 unfold handshakerref03_Cells.f
 exact rCellsT_l cells hm cells.length k 0 (by omega) (by omega) (by omega) (by simp)
theorem rin_l (l : List Int) (a : Nat) (hm : l.length < 4398046511) (d : Nat) : ∀ (k i : Nat), i ≤ l.length → l.length - i = d → d < k →
 handshakerref03_in.l0 k l (a : Int) (i : Int) = some (inL (l.drop i) a) := by
 induction d with
 | zero =>
  intro k i hi hd hk
  obtain ⟨k, rfl⟩ : ∃ m, k = m + 1 := ⟨k - 1, by omega⟩
  rw [List.drop_of_length_le (by omega)]
  simp only [handshakerref03_in.l0]
  rw [if_neg (by omega)]; rfl
 | succ d ih =>
  intro k i hi hd hk
  obtain ⟨k, rfl⟩ : ∃ m, k = m + 1 := ⟨k - 1, by omega⟩
  have next := ih k (i + 1) (by omega) (by omega) (by omega)
  rw [drop_cons l 0 i (by omega)]
  unfold inL at next ⊢
  rw [List.any_cons]
  simp only [handshakerref03_in.l0]
  rw [if_pos (by omega), if_pos (by omega), wrN (by omega), show rd l (i : Int) = l.getD i 0 from rfl, next]
  by_cases e : l.getD i 0 = (a : Int)
  · rw [if_pos e, beq_iff_eq.2 e]; rfl
  · rw [if_neg e, beq_eq_false_iff_ne.2 e]; rfl
theorem rin_f (k : Nat) (l : List Int) (a : Nat) (hm : l.length < 4398046511) (hk : l.length < k) : handshakerref03_in.f k l (a : Int) = some (inL l a) := by
 unfold handshakerref03_in.f
 have := rin_l l a hm l.length k 0 (by omega) (by omega) (by omega)
 simpa using this
theorem rOf_l1 (t : List S67) (ms : List Int) (ht : t.length ≤ 30) (hm : ms.length ≤ 100) (d : Nat) : ∀ (k i : Nat), i ≤ t.length → t.length - i = d → d + 200 < k →
 handshakerref03_Of.l1 k t ms (((List.range i).filter fun j : Nat => inL ms j).map fun j : Nat => (j : Int)) (i : Int) = some (((List.range t.length).filter fun j : Nat => inL ms j).map fun j : Nat => (j : Int)) := by
 induction d with
 | zero =>
  intro k i hi hd hk
  obtain ⟨k, rfl⟩ : ∃ m, k = m + 1 := ⟨k - 1, by omega⟩
  have : i = t.length := by omega
  subst this
  simp only [handshakerref03_Of.l1]
  rw [if_neg (by omega)]
 | succ d ih =>
  intro k i hi hd hk
  obtain ⟨k, rfl⟩ : ∃ m, k = m + 1 := ⟨k - 1, by omega⟩
  have next := ih k (i + 1) (by omega) (by omega) (by omega)
  rw [List.range_succ, List.filter_append, List.map_append] at next
  simp only [handshakerref03_Of.l1]
  rw [if_pos (by omega), rin_f k ms i (by omega) (by omega), wrN (by omega)]
  simp only [Option.bind_some]
  by_cases h : inL ms i = true
  · rw [if_pos h, if_pos (by
     rw [List.length_map]
     refine Nat.lt_of_le_of_lt (List.length_filter_le _ _) ?_
     rw [List.length_range]; omega)]
    simp only [List.filter_cons, h, if_true, List.filter_nil, List.map_cons, List.map_nil] at next
    exact next
  · rw [if_neg h]
    simp only [List.filter_cons, h, Bool.false_eq_true, if_false, List.filter_nil, List.map_nil, List.append_nil] at next
    exact next
theorem ofL_range (n : Nat) (hn : 0 < n) (cells : List Int) (hc : ∀ c ∈ cells, 0 ≤ c) : ((List.range n).filter fun j : Nat => inL (cells.map fun c => Int.tmod c (n : Int)) j).map (fun j : Nat => (j : Int)) = ofL n cells := by
 refine rise_ext _ _ ?_ (ofL_up n cells) fun x => ?_
 · rw [List.pairwise_map]
   exact (List.Pairwise.filter _ List.pairwise_lt_range).imp fun h => by omega
 · rw [List.mem_map]
   constructor
   · rintro ⟨j, hj, rfl⟩
     have := (List.mem_filter.1 hj).2
     rw [inL_iff, List.mem_map] at this
     exact (ofL_mem _ _ _).2 this
   · intro hx
     have hr := ofL_rng hn hc x hx
     refine ⟨x.toNat, List.mem_filter.2 ⟨List.mem_range.2 (by omega), ?_⟩, by omega⟩
     rw [inL_iff, show ((x.toNat : Nat) : Int) = x from by omega, List.mem_map]
     exact (ofL_mem _ _ _).1 hx
theorem rOf_l0 (t : List S67) (ht : 1 ≤ t.length ∧ t.length ≤ 30) (cells : List Int) (hm : cells.length ≤ 100) (hc : ∀ c ∈ cells, 0 ≤ c) (d : Nat) : ∀ (k i : Nat), i ≤ cells.length → cells.length - i = d → d + 300 < k →
 handshakerref03_Of.l0 k t cells ((cells.take i).map fun c => Int.tmod c (t.length : Int)) (i : Int) = some (ofL t.length cells) := by
 induction d with
 | zero =>
  intro k i hi hd hk
  obtain ⟨k, rfl⟩ : ∃ m, k = m + 1 := ⟨k - 1, by omega⟩
  rw [List.take_of_length_le (by omega)]
  simp only [handshakerref03_Of.l0]
  rw [if_neg (by omega), ← ofL_range t.length (by omega) cells hc]
  exact rOf_l1 t _ ht.2 (by rw [List.length_map]; exact hm) t.length k 0 (by omega) (by omega) (by omega)
 | succ d ih =>
  intro k i hi hd hk
  obtain ⟨k, rfl⟩ : ∃ m, k = m + 1 := ⟨k - 1, by omega⟩
  have next := ih k (i + 1) (by omega) (by omega) (by omega)
  rw [take_snG cells 0 i (by omega), List.map_append] at next
  simp only [handshakerref03_Of.l0]
  rw [if_pos (by omega), if_pos (by omega), if_neg (by omega), if_pos (by rw [List.length_map, List.length_take]; omega), wrN (by omega), show rd cells (i : Int) = cells.getD i 0 from rfl]
  exact next
theorem rOf_f (k : Nat) (t : List S67) (cells : List Int) (ht : t.length ≤ 30) (hm : cells.length ≤ 100) (hk : 500 < k) : handshakerref03_Of.f k t cells = some (ofT t cells) := by
 obtain ⟨k, rfl⟩ : ∃ m, k = m + 1 := ⟨k - 1, by omega⟩
 unfold handshakerref03_Of.f ofT
 rw [rRightT_f (k + 1) t (by omega) (by omega), rCellsT_f (k + 1) cells (by omega) (by omega)]
 simp only [Option.bind_some]
 cases hr : rightT t with
 | true =>
  rw [if_pos rfl]
  simp only [handshakerref03_Of.j0]
  cases hn : negB cells with
  | true => rw [if_pos (by decide)]; rfl
  | false =>
   rw [if_neg (by decide), if_pos (show (true && !false) = true from rfl)]
   have := rOf_l0 t ⟨(rightT_ok hr).1, ht⟩ cells hm (negB_no hn) cells.length k 0 (by omega) (by omega) (by omega)
   simpa using this
 | false =>
  rw [if_neg (by decide)]
  simp only [handshakerref03_Of.j0]
  rw [if_pos trivial]; rfl
theorem rHeld_l (t : List S67) (who : Int) (hm : t.length < 4398046511) (d : Nat) : ∀ (k i : Nat), i ≤ t.length → t.length - i = d → 2 * d + 2 < k →
 handshakerref03_Held.l0 k t who true true (((List.range i).filter fun i => (t.getD i z67).f1 == who).map fun i => ((i : Nat) : Int)) (i : Int) = some (heldL t who) := by
 induction d with
 | zero =>
  intro k i hi hd hk
  obtain ⟨k, rfl⟩ : ∃ m, k = m + 2 := ⟨k - 2, by omega⟩
  have : i = t.length := by omega
  subst this
  simp only [handshakerref03_Held.l0, handshakerref03_Held.j1]
  rw [if_neg (by omega), if_neg (by decide)]; rfl
 | succ d ih =>
  intro k i hi hd hk
  obtain ⟨k, rfl⟩ : ∃ m, k = m + 2 := ⟨k - 2, by omega⟩
  have next := ih k (i + 1) (by omega) (by omega) (by omega)
  rw [List.range_succ, List.filter_append, List.map_append] at next
  simp only [handshakerref03_Held.l0, handshakerref03_Held.j1, if_true]
  rw [if_pos (by omega), if_pos (by omega), if_pos (by omega), wrN (by omega), show rd_T67 t (i : Int) = t.getD i z67 from rfl]
  by_cases h : (t.getD i z67).f1 = who
  · rw [if_pos h, if_pos (by
     rw [List.length_map]
     refine Nat.lt_of_le_of_lt (List.length_filter_le _ _) ?_
     rw [List.length_range]; omega)]
    simp only [List.filter_cons, beq_iff_eq.2 h, if_true, List.filter_nil, List.map_cons, List.map_nil] at next
    exact next
  · rw [if_neg h]
    simp only [List.filter_cons, beq_eq_false_iff_ne.2 h, Bool.false_eq_true, if_false, List.filter_nil, List.map_nil, List.append_nil] at next
    exact next
theorem rHeld_f (k : Nat) (t : List S67) (who : Int) (ht : t.length ≤ 30) (hk : 500 < k) : handshakerref03_Held.f k t who = some (heldT t who) := by
 unfold handshakerref03_Held.f heldT
 rw [rRightT_f k t (by omega) (by omega), rWhoT_f]
 simp only [Option.bind_some]
 have no : ∀ a b, (a && b) = false → handshakerref03_Held.l0 k t who a b [] 0 = some [] := by
  intro a b h
  obtain ⟨k, rfl⟩ : ∃ m, k = m + 2 := ⟨k - 2, by omega⟩
  simp only [handshakerref03_Held.l0, handshakerref03_Held.j1]
  cases a <;> cases b <;> simp at h ⊢
 by_cases h : (rightT t && whoT who) = true
 · rw [if_pos h]
   rw [Bool.and_eq_true] at h
   rw [h.1, h.2]
   have := rHeld_l t who (by omega) t.length k 0 (by omega) (by omega) (by omega)
   simpa using this
 · rw [if_neg h]
   exact no _ _ (by simpa using h)
theorem upd_take (f : S67 → S67) (p : Nat → Bool) (t : List S67) (i : Nat) (hi : i < t.length) : (upd f p t).take (i + 1) = (upd f p t).take i ++ [if p i = true then f (t.getD i z67) else t.getD i z67] := by
 rw [take_snG _ z67 i (by rw [upd_len]; exact hi), upd_at f p t i hi]
theorem rLock_l (t : List S67) (who : Int) (is : List Int) (ht : t.length ≤ 30) (his : is.length ≤ 100) (hr : ∀ x ∈ is, 0 ≤ x ∧ x < t.length) (ho : ∀ x ∈ t, okT x = true) (d : Nat) : ∀ (k i : Nat), i ≤ t.length → t.length - i = d → d + 200 < k → (∀ j, j < i → inL is j = true → freeT t who (j : Int) = true) →
 handshakerref03_Lock.l0 k t who is ((upd (own who) (inL is) t).take i) (i : Int) = some (if is.all (freeT t who) = true then (upd (own who) (inL is) t, 0) else (t, 7)) := by
 induction d with
 | zero =>
  intro k i hi hd hk hf
  obtain ⟨k, rfl⟩ : ∃ m, k = m + 1 := ⟨k - 1, by omega⟩
  rw [List.take_of_length_le (by rw [upd_len]; omega)]
  simp only [handshakerref03_Lock.l0]
  rw [if_neg (by omega), if_pos]
  rw [List.all_eq_true]
  intro x hx
  have h := hr x hx
  have := hf x.toNat (by omega) (by rw [inL_iff, show ((x.toNat : Nat) : Int) = x from by omega]; exact hx)
  rw [show ((x.toNat : Nat) : Int) = x from by omega] at this
  exact this
 | succ d ih =>
  intro k i hi hd hk hf
  obtain ⟨k, rfl⟩ : ∃ m, k = m + 1 := ⟨k - 1, by omega⟩
  have next := fun h => ih k (i + 1) (by omega) (by omega) (by omega) h
  rw [upd_take _ _ t i (by omega)] at next
  have hok := ho _ (getD_in t z67 i (by omega))
  have hl : ((upd (own who) (inL is) t).take i).length < 8796093022208 := by rw [List.length_take, upd_len]; omega
  have hfree : freeT t who (i : Int) = ((t.getD i z67).f1 == 0 || (t.getD i z67).f1 == who) := by unfold freeT; rw [Int.toNat_natCast]
  have hfi : (inL is i = true → freeT t who (i : Int) = true) → ∀ j, j < i + 1 → inL is j = true → freeT t who (j : Int) = true := by
   intro h j hj hp
   by_cases e : j = i
   · subst e; exact h hp
   · exact hf j (by omega) hp
  simp only [handshakerref03_Lock.l0]
  rw [if_pos (by omega), if_pos (by omega), rin_f k is i (by omega) (by omega), wrN (by omega), show rd_T67 t (i : Int) = t.getD i z67 from rfl]
  simp only [Option.bind_some]
  by_cases hp : inL is i = true
  · rw [if_pos hp] at next ⊢
    unfold okT at hok
    rw [Bool.and_eq_true, decide_eq_true_eq] at hok
    by_cases h0 : (t.getD i z67).f1 > 0
    · rw [if_pos h0]
      by_cases h1 : (t.getD i z67).f1 = who
      · rw [if_pos h1, if_pos hl]
        exact next (hfi fun _ => by rw [hfree, h1]; simp)
      · rw [if_neg h1, if_neg]
        intro h
        have := List.all_eq_true.1 h _ ((inL_iff _ _).1 hp)
        rw [hfree] at this
        simp only [Bool.or_eq_true, beq_iff_eq] at this
        omega
    · rw [if_neg h0, if_pos hl]
      exact next (hfi fun _ => by rw [hfree, beq_iff_eq.2 (show (t.getD i z67).f1 = 0 by omega)]; rfl)
  · rw [if_neg hp] at next ⊢
    rw [if_pos hl]
    exact next (hfi fun h => absurd h hp)
theorem rLock_f (k : Nat) (t : List S67) (who : Int) (cells : List Int) (ht : t.length ≤ 30) (hm : cells.length ≤ 100) (hk : 600 < k) : handshakerref03_Lock.f k t who cells = some (lockT t who cells) := by
 obtain ⟨k, rfl⟩ : ∃ m, k = m + 1 := ⟨k - 1, by omega⟩
 unfold handshakerref03_Lock.f lockT
 rw [rRightT_f (k + 1) t (by omega) (by omega), rWhoT_f, rCellsT_f (k + 1) cells (by omega) (by omega)]
 simp only [Option.bind_some]
 cases hr : rightT t with
 | true =>
  rw [if_pos rfl]
  cases hw : whoT who with
  | true =>
   rw [if_pos rfl]
   simp only [handshakerref03_Lock.j0]
   cases hn : negB cells with
   | true => rw [if_pos (by decide)]; rfl
   | false =>
    rw [if_neg (by decide), if_pos (show (true && true && !false) = true from rfl), rOf_f k t cells ht hm (by omega)]
    simp only [Option.bind_some]
    have eo : ofT t cells = ofL t.length cells := by unfold ofT; rw [hr, hn]; rfl
    have hl := ofL_len t.length cells
    rw [eo]
    have hn1 := (rightT_ok hr).1
    have := rLock_l t who (ofL t.length cells) ht (by omega) (ofL_rng (by omega) (negB_no hn)) (rightT_ok hr).2.2 t.length k 0 (by omega) (by omega) (by omega) (fun j hj => by omega)
    simpa using this
  | false =>
   rw [if_neg (by decide)]
   simp only [handshakerref03_Lock.j0]
   rw [if_pos trivial]; rfl
 | false =>
  rw [if_neg (by decide)]
  simp only [handshakerref03_Lock.j0]
  rw [if_pos trivial]; rfl
theorem rLet_l (t : List S67) (is : List Int) (ht : t.length ≤ 30) (his : is.length ≤ 100) (d : Nat) : ∀ (k i : Nat), i ≤ t.length → t.length - i = d → d + 200 < k →
 handshakerref03_Let.l0 k t is ((upd free (inL is) t).take i) (i : Int) = some (upd free (inL is) t) := by
 induction d with
 | zero =>
  intro k i hi hd hk
  obtain ⟨k, rfl⟩ : ∃ m, k = m + 1 := ⟨k - 1, by omega⟩
  rw [List.take_of_length_le (by rw [upd_len]; omega)]
  simp only [handshakerref03_Let.l0]
  rw [if_neg (by omega)]
 | succ d ih =>
  intro k i hi hd hk
  obtain ⟨k, rfl⟩ : ∃ m, k = m + 1 := ⟨k - 1, by omega⟩
  have next := ih k (i + 1) (by omega) (by omega) (by omega)
  rw [upd_take _ _ t i (by omega)] at next
  have hl : ((upd free (inL is) t).take i).length < 8796093022208 := by rw [List.length_take, upd_len]; omega
  simp only [handshakerref03_Let.l0]
  rw [if_pos (by omega), rin_f k is i (by omega) (by omega), wrN (by omega), show rd_T67 t (i : Int) = t.getD i z67 from rfl]
  simp only [Option.bind_some]
  by_cases hp : inL is i = true
  · rw [if_pos hp] at next ⊢
    rw [if_pos (by omega), if_pos hl]
    exact next
  · rw [if_neg hp] at next ⊢
    rw [if_pos (by omega), if_pos hl]
    exact next
theorem rLet_f (k : Nat) (t : List S67) (who : Int) (ht : t.length ≤ 30) (hk : 600 < k) : handshakerref03_Let.f k t who = some (letT t who) := by
 unfold handshakerref03_Let.f letT
 rw [rHeld_f k t who ht (by omega)]
 simp only [Option.bind_some]
 have hl := heldT_len t who
 have := rLet_l t (heldT t who) ht (by omega) t.length k 0 (by omega) (by omega) (by omega)
 simpa using this
theorem rStamp_l (t : List S67) (who v : Int) (ht : t.length ≤ 30) (d : Nat) : ∀ (k i : Nat), i ≤ t.length → t.length - i = d → d < k → (∀ j, j < i → (t.getD j z67).f1 = who → (t.getD j z67).f0 < v) →
 handshakerref03_Stamp.l0 k t who v ((upd (fun _ => ⟨v, 0⟩) (fun i => (t.getD i z67).f1 == who) t).take i) (i : Int) = some (if (heldL t who).all (fun i => decide ((t.getD i.toNat z67).f0 < v)) = true then (upd (fun _ => ⟨v, 0⟩) (fun i => (t.getD i z67).f1 == who) t, 0) else (t, 6)) := by
 induction d with
 | zero =>
  intro k i hi hd hk hf
  obtain ⟨k, rfl⟩ : ∃ m, k = m + 1 := ⟨k - 1, by omega⟩
  rw [List.take_of_length_le (by rw [upd_len]; omega)]
  simp only [handshakerref03_Stamp.l0]
  rw [if_neg (by omega), if_pos]
  rw [List.all_eq_true]
  intro x hx
  have h := heldL_rng t who x hx
  obtain ⟨j, rfl⟩ : ∃ j : Nat, x = (j : Int) := ⟨x.toNat, by omega⟩
  rw [Int.toNat_natCast]
  exact decide_eq_true (hf j (by omega) ((heldL_mem t who j).1 hx).2)
 | succ d ih =>
  intro k i hi hd hk hf
  obtain ⟨k, rfl⟩ : ∃ m, k = m + 1 := ⟨k - 1, by omega⟩
  have next := fun h => ih k (i + 1) (by omega) (by omega) (by omega) h
  rw [upd_take _ _ t i (by omega)] at next
  have hl : ((upd (fun _ => (⟨v, 0⟩ : S67)) (fun i => (t.getD i z67).f1 == who) t).take i).length < 8796093022208 := by rw [List.length_take, upd_len]; omega
  have hfi : ((t.getD i z67).f1 = who → (t.getD i z67).f0 < v) → ∀ j, j < i + 1 → (t.getD j z67).f1 = who → (t.getD j z67).f0 < v := by
   intro h j hj hp
   by_cases e : j = i
   · subst e; exact h hp
   · exact hf j (by omega) hp
  simp only [handshakerref03_Stamp.l0]
  rw [if_pos (by omega), if_pos (by omega), wrN (by omega), show rd_T67 t (i : Int) = t.getD i z67 from rfl]
  by_cases hp : (t.getD i z67).f1 = who
  · rw [if_pos (beq_iff_eq.2 hp)] at next
    rw [if_pos hp]
    by_cases h0 : (t.getD i z67).f0 ≥ v
    · rw [if_pos h0, if_neg]
      intro h
      have := List.all_eq_true.1 h _ ((heldL_mem t who i).2 ⟨by omega, hp⟩)
      rw [Int.toNat_natCast, decide_eq_true_eq] at this
      omega
    · rw [if_neg h0, if_pos hl]
      exact next (hfi fun _ => by omega)
  · rw [if_neg (fun h => hp (beq_iff_eq.1 h))] at next
    rw [if_neg hp, if_pos hl]
    exact next (hfi fun h => absurd h hp)
theorem rStamp_f (k : Nat) (t : List S67) (who v : Int) (ht : t.length ≤ 30) (hk : 600 < k) : handshakerref03_Stamp.f k t who v = some (stampT t who v) := by
 obtain ⟨k, rfl⟩ : ∃ m, k = m + 2 := ⟨k - 2, by omega⟩
 unfold handshakerref03_Stamp.f stampT
 rw [rRightT_f (k + 2) t (by omega) (by omega), rWhoT_f]
 simp only [Option.bind_some]
 cases hr : rightT t with
 | true =>
  rw [if_pos rfl]
  simp only [handshakerref03_Stamp.j0]
  cases hw : whoT who with
  | true =>
   rw [if_neg (by decide), if_pos (show (true && true) = true from rfl)]
   simp only [handshakerref03_Stamp.j1]
   by_cases h0 : v < 0
   · rw [if_pos h0, if_pos trivial, if_neg (by omega)]
   · rw [if_neg h0]
     by_cases h1 : v > 2147483647
     · rw [if_pos (decide_eq_true h1), if_neg (by omega)]
     · rw [if_neg (by simpa using h1)]
       have := rStamp_l t who v ht t.length k 0 (by omega) (by omega) (by omega) (fun j hj => by omega)
       rw [List.take_zero, show ((0 : Nat) : Int) = 0 from rfl] at this
       rw [this]
       congr 1
       by_cases hA : (heldL t who).all (fun i => decide ((t.getD i.toNat z67).f0 < v)) = true
       · rw [if_pos hA, if_pos ⟨by omega, by omega, hA⟩]
       · rw [if_neg hA, if_neg (fun e => hA e.2.2)]
  | false =>
   rw [if_pos (by decide)]; rfl
 | false =>
  rw [if_neg (by decide)]
  simp only [handshakerref03_Stamp.j0]
  rw [if_pos trivial]; rfl
end Go.Proofs.Ytlfmobnmohnjmaa.T
