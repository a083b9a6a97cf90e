/-
  PROVED: jobs that are done in any order of Whos leave the same heap, for all jobs and heaps. Condition: each argument is of its kind; nothing else.
-/
import Derived.Test.YtihcnbhcemkncaaALem2
import Derived.Test.YtihcnbhcemkncaaALem3
import Derived.Test.YtihcnbhcemkncaaAx17
namespace Go.Proofs.Ytihcnbhcemkncaa.A
open Go.RowKit Go.Proofs.YtihcnbhcemkncaaW.PrintWords Go.Proofs.YtihcnbhcemkncaaW.PrintLast Go.Proofs.YtihcnbhcemkncaaW.PrintMore Go.Proofs.Ytihcnbhcemkncaa.Ho
set_option linter.unusedVariables false
set_option linter.unusedSimpArgs false
/-! ### in any order -/
theorem count_of : ∀ (l : List Jb) (v : Int), (l.map fun j => j.f0).count v = (of l v).length
  | [], _ => rfl
  | j :: l, v => by
    rw [List.map_cons, List.count_cons, count_of l v]
    unfold of
    rw [List.filter_cons]
    by_cases e : j.f0 = v
    · rw [if_pos (by simpa using e), if_pos (by simpa using e)]; rfl
    · rw [if_neg (by simpa using e), if_neg (by simpa using e)]; rfl
theorem allL_ok {l : List Jb} {h : List Cl} (hl : RJ l) (hh : RightB h = true) (ha : ∀ j ∈ l, doable h j = true) : ∀ (os : List Int) (e x : List Jb) (g : List Cl), Ran l h e x g → (∀ v, os.count v = (of x v).length) → ∃ e' g', allL l h os x g = ([], g', 0) ∧ Ran l h e' [] g'
  | [], e, x, g, r, hc => by
    have hx : x = [] := by
      cases x with
      | nil => rfl
      | cons j t =>
        exfalso
        have := hc j.f0
        unfold of at this
        rw [List.filter_cons, if_pos (by simp)] at this
        simp at this
    subst hx
    exact ⟨e, g, rfl, r⟩
  | w :: ws, e, x, g, r, hc => by
    simp only [allL]
    have hw := hc w
    rw [List.count_cons, if_pos (by simp)] at hw
    rcases ran_step hl hh r w with ⟨j, x', h1, h2, h3, h4, h5, h6⟩ | ⟨h1, h2⟩
    · rw [h1, if_pos rfl]
      refine allL_ok hl hh ha ws _ x' _ h6 fun v => ?_
      by_cases hv : v = w
      · rw [hv]; rw [h2, List.length_cons] at hw; omega
      · have := hc v
        rw [List.count_cons, if_neg (by simpa using fun e => hv e.symm), h3 v hv] at this
        exact this
    · exfalso
      rcases h2 with h2 | ⟨j, t, h2, h3⟩
      · rw [h2] at hw; simp at hw
      · have hj : j ∈ of x w := by rw [h2]; simp
        rw [ha j (r.1.subset (List.mem_filter.1 hj).1)] at h3
        cases h3
theorem allL_bad {l : List Jb} {h : List Cl} (hl : RJ l) (hh : RightB h = true) (ha : ¬ ∀ j ∈ l, doable h j = true) : ∀ (os : List Int) (e x : List Jb) (g : List Cl), Ran l h e x g → allL l h os x g = (l, h, 3)
  | [], e, x, g, r => by
    simp only [allL]
    rw [if_pos]
    cases x with
    | cons j t => simp
    | nil =>
      exfalso
      refine ha fun j hj => ?_
      have h1 := r.2.2.2.2 j.f0
      have h2 : j ∈ of l j.f0 := List.mem_filter.2 ⟨hj, by simp⟩
      rw [h1, List.mem_append] at h2
      rcases h2 with h2 | h2
      · exact r.2.2.1 j (List.mem_filter.1 h2).1
      · cases (List.mem_filter.1 h2).1
  | w :: ws, e, x, g, r => by
    simp only [allL]
    rcases ran_step hl hh r w with ⟨j, x', h1, h2, h3, h4, h5, h6⟩ | ⟨h1, h2⟩
    · rw [h1, if_pos rfl]
      exact allL_bad hl hh ha ws _ x' _ h6
    · rw [h1, if_neg (show ¬ (3 : Int) = 0 by decide)]
theorem all_same {l : List Jb} (h : List Cl) (hl : RJ l) {os os' : List Int} (h1 : ∀ v, os.count v = (of l v).length) (h2 : ∀ v, os'.count v = (of l v).length) :
    allB l h os = allB l h os' ∧ (allB l h os).2.1.length = h.length ∧ (((allB l h os).2.2 = 0 ∧ (allB l h os).1 = []) ∨ ((allB l h os).2.2 ≠ 0 ∧ (allB l h os).1 = l)) := by
  unfold allB
  have hr := (rightJ_iff l).2 hl
  by_cases hh : RightB h = true
  · rw [if_pos ⟨hr, hh⟩, if_pos ⟨hr, hh⟩]
    by_cases ha : ∀ j ∈ l, doable h j = true
    · obtain ⟨e, g, q, r⟩ := allL_ok hl hh ha os [] l h (ran_nil l h) h1
      obtain ⟨e', g', q', r'⟩ := allL_ok hl hh ha os' [] l h (ran_nil l h) h2
      rw [q, q', ran_heap hl hh r r' (fun v => by
        have a := r.2.2.2.2 v
        have b := r'.2.2.2.2 v
        rw [a] at b
        simpa [of] using b)]
      exact ⟨rfl, (ran_keep hl hh r').2.1, .inl ⟨rfl, rfl⟩⟩
    · rw [allL_bad hl hh ha os [] l h (ran_nil l h), allL_bad hl hh ha os' [] l h (ran_nil l h)]
      exact ⟨rfl, rfl, .inr ⟨show (3 : Int) ≠ 0 by decide, rfl⟩⟩
  · rw [if_neg (fun e => hh e.2), if_neg (fun e => hh e.2)]
    exact ⟨rfl, rfl, .inr ⟨show (1 : Int) ≠ 0 by decide, rfl⟩⟩
theorem turn_key (n b i : Nat) (hi : i < n) : (n - i + b) % n = if i ≤ b % n then b % n - i else n + b % n - i := by
  have hr := Nat.mod_lt b (show 0 < n by omega)
  rw [Nat.add_mod]
  generalize b % n = r at *
  by_cases h0 : i = 0
  · subst h0
    rw [if_pos (by omega), Nat.sub_zero, Nat.mod_self, Nat.zero_add, Nat.mod_eq_of_lt hr]; rfl
  · rw [Nat.mod_eq_of_lt (a := n - i) (by omega)]
    split
    · rw [show n - i + r = n + (r - i) by omega, Nat.add_mod_left, Nat.mod_eq_of_lt (by omega)]
    · rw [Nat.mod_eq_of_lt (by omega)]; omega
def turnL (l : List Jb) (b n : Nat) : List Int := (List.range n).map fun i => (l.getD ((l.length - i + b) % l.length) z25).f0
theorem turn_eq (l : List Jb) (b : Nat) (hn : 0 < l.length) : turnL l b l.length = ((l.take (b % l.length + 1)).reverse ++ (l.drop (b % l.length + 1)).reverse).map fun j => j.f0 := by
  have hr := Nat.mod_lt b hn
  unfold turnL
  apply List.ext_getElem
  · simp; omega
  · intro i h1 h2
    have hi : i < l.length := by simpa using h1
    rw [List.getElem_map, List.getElem_map, List.getElem_range, turn_key _ _ _ hi]
    generalize b % l.length = r at *
    congr 1
    rw [List.getD_eq_getElem?_getD, List.getElem?_eq_getElem (by split <;> omega), Option.getD_some]
    have ht : (l.take (r + 1)).reverse.length = r + 1 := by rw [List.length_reverse, List.length_take]; omega
    by_cases hir : i ≤ r
    · rw [List.getElem_append_left (by omega), List.getElem_reverse, List.getElem_take]
      congr 1
      rw [if_pos hir, List.length_take]; omega
    · rw [List.getElem_append_right (by omega), List.getElem_reverse, List.getElem_drop]
      congr 1
      rw [if_neg hir, List.length_drop, ht]; omega
theorem turn_count (l : List Jb) (b : Nat) (hn : 0 < l.length) (v : Int) : (turnL l b l.length).count v = (of l v).length := by
  rw [turn_eq l b hn, count_of, of_append, List.length_append]
  unfold of
  rw [List.filter_reverse, List.filter_reverse, List.length_reverse, List.length_reverse, ← List.length_append, ← List.filter_append, List.take_append_drop]
theorem Order_l (l : List Jb) (h : List Cl) (b : Nat) (hb : b ≤ 255) (hl : RJ l) (ha : ∀ j ∈ l, j.f1.length ≤ 20) (hh : h.length ≤ 64) (hn : 0 < l.length) (d : Nat) : ∀ (k i : Nat), i ≤ l.length → l.length - i = d → d + 2000 < k →
    handshakerlaw22_AfterOrder.l0 k l h (b : Int) ((l.take i).map fun j => j.f0) (turnL l b i) (l.length : Int) (i : Int) = some true := by
  have hl6 := hl.1
  induction d with
  | zero =>
    intro k i hi hd hk
    obtain ⟨k, rfl⟩ : ∃ q, k = q + 1 := ⟨k - 1, by omega⟩
    obtain rfl : i = l.length := by omega
    simp only [handshakerlaw22_AfterOrder.l0]
    rw [List.take_length]
    have ht : (turnL l b l.length).length = l.length := by unfold turnL; simp
    rw [if_neg (by omega), All_f k l h _ (by rw [List.length_map]; omega) (by omega) (by rw [List.length_map]; omega), All_f k l h _ (by omega) (by omega) (by omega)]
    obtain ⟨q1, qh, q2⟩ := all_same h hl (count_of l) (turn_count l b hn)
    rw [← q1]
    generalize allB l h (l.map fun j => j.f0) = q at *
    have hq : q.1.length ≤ 30 ∧ ∀ j ∈ q.1, j.f1.length ≤ 20 := by
      rcases q2 with ⟨_, e⟩ | ⟨_, e⟩
      · rw [e]; exact ⟨by simp, by simp⟩
      · rw [e]; exact ⟨by omega, ha⟩
    rw [Option.bind_some, Option.bind_some, if_pos rfl, Refs_f k q.1 (by omega) hq.2 (by omega), Option.bind_some, Option.bind_some, SameRefs_f k q.1 hq.1 hq.2 (by omega), Option.bind_some, if_pos rfl,
      Same_f k q.2.1 (by omega) (by omega), Option.bind_some, if_pos rfl]
    rcases q2 with ⟨e1, e2⟩ | ⟨e1, _⟩
    · rw [if_pos e1, e2, if_pos (show (([] : List Jb).length : Int) = 0 from rfl), awake22 k (by omega)]; rfl
    · rw [if_neg e1, awake22 k (by omega)]; rfl
  | succ d ih =>
    intro k i hi hd hk
    obtain ⟨k, rfl⟩ : ∃ q, k = q + 1 := ⟨k - 1, by omega⟩
    have next := ih k (i + 1) (by omega) (by omega) (by omega)
    have hmod := Nat.mod_lt (l.length - i + b) hn
    have et : Int.tmod (wrap64 ((wrap64 ((l.length : Int) - i)) + (wrap64 (b : Int)))) (l.length : Int) = (((l.length - i + b) % l.length : Nat) : Int) := by
      rw [wr (i := (l.length : Int) - i) (by omega) (by omega), wr (i := (b : Int)) (by omega) (by omega), wr (by omega) (by omega), show (l.length : Int) - i + b = ((l.length - i + b : Nat) : Int) by omega, Int.tmod_eq_emod_of_nonneg (by omega)]
      rfl
    simp only [handshakerlaw22_AfterOrder.l0]
    rw [et]
    generalize hq : (l.length - i + b) % l.length = q at *
    rw [if_pos (by omega), if_pos (by omega), if_pos (by omega), if_pos (by rw [List.length_map, List.length_take]; omega), if_neg (by omega), if_pos (by omega), if_pos (by omega), if_pos (by unfold turnL; rw [List.length_map, List.length_range]; omega), wrN (by omega)]
    rw [take_snG l z25 i (by omega), List.map_append] at next
    have e2 : turnL l b (i + 1) = turnL l b i ++ [(l.getD q z25).f0] := by
      unfold turnL
      rw [List.range_succ, List.map_append, ← hq]; rfl
    rw [e2] at next
    exact next
theorem AfterOrder : handshakerlaw22_AfterOrder.Pure := by
  intro l0 l1 a2 hl1 hl2 _ _ _ _ w2
  have h2 : 0 ≤ a2 ∧ a2 ≤ 255 := by simpa [Lit.wf, IntKind.bits, IntKind.signed, IntKind.min, IntKind.max] using w2
  obtain ⟨b, rfl⟩ := Int.eq_ofNat_of_zero_le h2.1
  refine ⟨l0.length + 4002, ?_⟩
  generalize hK : l0.length + 4002 = K
  unfold handshakerlaw22_AfterOrder.f
  obtain ⟨s, hs, hs'⟩ := small22_f K l0 (by omega) (by omega)
  rw [hs, Option.bind_some]
  obtain ⟨K, rfl⟩ : ∃ m, K = m + 1 := ⟨K - 1, by omega⟩
  have aw : handshakerlaw22_AfterOrder.j0 (K + 1) l0 l1 (b : Int) true = some true := by
    simp only [handshakerlaw22_AfterOrder.j0]
    rw [if_pos trivial, awake22 K (by omega)]; rfl
  cases s with
  | false => rw [if_neg (by decide)]; exact aw
  | true =>
    rw [if_pos rfl]
    by_cases h1 : (l1.length : Int) > 64
    · rw [if_pos h1]; exact aw
    rw [if_neg h1, RightJ_f _ l0 (by omega) (by omega), Option.bind_some]
    cases hr : rightJ l0 with
    | false => rw [if_neg (by decide)]; exact aw
    | true =>
      have hl := (rightJ_iff l0).1 hr
      rw [if_pos rfl]
      by_cases h0 : l0.length = 0
      · rw [show ((l0.length : Int) == 0) = true by simp [h0]]; exact aw
      · rw [show ((l0.length : Int) == 0) = false by simp; exact fun e => h0 (by rw [e]; rfl)]
        simp only [handshakerlaw22_AfterOrder.j0]
        rw [if_neg (by decide)]
        exact Order_l l0 l1 b (by omega) hl (hs' rfl).2 (by omega) (by omega) l0.length K 0 (by omega) (by omega) (by omega)
end Go.Proofs.Ytihcnbhcemkncaa.A
namespace Go.Proofs.Ytihcnbhcemkncaa.Pure
theorem AfterOrder : Go.Proofs.Ytihcnbhcemkncaa.A.handshakerlaw22_AfterOrder.Pure := Go.Proofs.Ytihcnbhcemkncaa.A.AfterOrder
end Go.Proofs.Ytihcnbhcemkncaa.Pure
