/-
 PROVED: what is watched of reads is as many cells as were read, each with its value; of reads in any order it is the same; for all reads and numbers. Condition: each argument is of its kind; nothing else.
-/
import Derived.Test.YtjnkpocfmpbpoaaSdLem6
import Derived.Test.YtjnkpocfmpbpoaaSdx11
namespace Go.Proofs.Ytjnkpocfmpbpoaa.Sd
open Go.RowKit Go.Proofs.YtjnkpocfmpbpoaaW.PrintWords Go.Proofs.YtjnkpocfmpbpoaaW.PrintLast Go.Proofs.YtjnkpocfmpbpoaaW.PrintMore Go.Proofs.Ytjnkpocfmpbpoaa.Ho
set_option linter.unusedVariables false
set_option linter.unusedSimpArgs false
/-! ### as many as were read -/
theorem turn_key (n b i : Nat) (hi : i < n) : (n - i + b) % n = if i ≤ b % n then b % n - i else n + b % n - i := by
 have hr := Nat.mod_lt b (show 0 < n by omega)
 rw [Nat.add_mod]
 generalize b % n = r at *
 by_cases h0 : i = 0
 · subst h0
   rw [if_pos (by omega), Nat.sub_zero, Nat.mod_self, Nat.zero_add, Nat.mod_eq_of_lt hr]; rfl
 · rw [Nat.mod_eq_of_lt (a := n - i) (by omega)]
   split
   · rw [show n - i + r = n + (r - i) by omega, Nat.add_mod_left, Nat.mod_eq_of_lt (by omega)]
   · rw [Nat.mod_eq_of_lt (by omega)]; omega
def turnR (l : List Rd) (b n : Nat) : List Rd := (List.range n).map fun i => l.getD ((l.length - i + b) % l.length) z57
theorem turnR_eq (l : List Rd) (b : Nat) (hn : 0 < l.length) : turnR l b l.length = (l.take (b % l.length + 1)).reverse ++ (l.drop (b % l.length + 1)).reverse := by
 have hr := Nat.mod_lt b hn
 unfold turnR
 apply List.ext_getElem
 · simp; omega
 · intro i h1 h2
   have hi : i < l.length := by simpa using h1
   rw [List.getElem_map, List.getElem_range, turn_key _ _ _ hi]
   generalize b % l.length = r at *
   rw [List.getD_eq_getElem?_getD, List.getElem?_eq_getElem (by split <;> omega), Option.getD_some]
   have ht : (l.take (r + 1)).reverse.length = r + 1 := by rw [List.length_reverse, List.length_take]; omega
   by_cases hir : i ≤ r
   · rw [List.getElem_append_left (by omega), List.getElem_reverse, List.getElem_take]
     congr 1
     rw [if_pos hir, List.length_take]; omega
   · rw [List.getElem_append_right (by omega), List.getElem_reverse, List.getElem_drop]
     congr 1
     rw [if_neg hir, List.length_drop, ht]; omega
theorem turnR_perm (l : List Rd) (b : Nat) (hn : 0 < l.length) : (turnR l b l.length).Perm l := by
 rw [turnR_eq l b hn]
 refine ((List.reverse_perm _).append (List.reverse_perm _)).trans ?_
 rw [List.take_append_drop]
theorem SWatch_l1 (l tl : List Rd) (w : List Wr) (hl : l.length ≤ 24) (hw : w = watchedR l) (hlen : w.length = l.length) (ht : watchedR tl = w) (htl : tl.length = l.length) (hin : ∀ x ∈ l, (⟨x.f0, x.f2⟩ : Wr) ∈ w) (d : Nat) : ∀ (k i : Nat), i ≤ l.length → l.length - i = d → 60 * d + 3000 < k →
 handshakerlaw15_SleepWatch.l1 k l tl w l (l.length : Int) (i : Int) = some true := by
 induction d with
 | zero =>
  intro k i hi hd hk
  obtain ⟨k, rfl⟩ : ∃ m, k = m + 1 := ⟨k - 1, by omega⟩
  simp only [handshakerlaw15_SleepWatch.l1]
  rw [if_neg (by omega), if_pos (by omega), Watched_f k tl (by omega) (by omega), Option.bind_some, ht, ListW_f k w (by omega) (by omega), Option.bind_some, if_pos rfl, awake15 k (by omega)]
  rfl
 | succ d ih =>
  intro k i hi hd hk
  obtain ⟨k, rfl⟩ : ∃ m, k = m + 1 := ⟨k - 1, by omega⟩
  have hmem := hin _ (getD_in l z57 i (by omega))
  obtain ⟨C, hC⟩ : ∃ C, C = 60 * d + 3001 := ⟨_, rfl⟩
  have hkC : w.length + C < k := by omega
  have after : ∀ k, C < k → handshakerlaw15_SleepWatch.l2 k l tl w true l (l.length : Int) (i : Int) w (w.length : Int) (w.length : Int) (l.getD i z57).f0 (l.getD i z57).f1 (l.getD i z57).f2 = some true := by
   intro k hk
   obtain ⟨k, rfl⟩ : ∃ m, k = m + 1 := ⟨k - 1, by omega⟩
   simp only [handshakerlaw15_SleepWatch.l2]
   rw [if_neg (by omega), if_pos trivial, wrN (by omega)]
   exact ih k (i + 1) (by omega) (by omega) (by omega)
  simp only [handshakerlaw15_SleepWatch.l1]
  rw [if_pos (by omega), if_pos (by omega), if_pos (by omega), show rd_T57 l (i : Int) = l.getD i z57 from rfl]
  generalize l.getD i z57 = r at *
  clear hC hk ih
  have inner : ∀ (e k m : Nat), m ≤ w.length → w.length - m = e → e + C < k →
   handshakerlaw15_SleepWatch.l2 k l tl w ((w.take m).any fun x => x.f0 == r.f0 && x.f1 == r.f2) l (l.length : Int) (i : Int) w (w.length : Int) (m : Int) r.f0 r.f1 r.f2 = some true := by
   intro e
   induction e with
   | zero =>
    intro k m hm he hk
    obtain rfl : m = w.length := by omega
    rw [List.take_length, List.any_eq_true.2 ⟨_, hmem, by simp⟩]
    exact after k (by omega)
   | succ e ihe =>
    intro k m hm he hk
    obtain ⟨k, rfl⟩ : ∃ q, k = q + 1 := ⟨k - 1, by omega⟩
    have next := ihe k (m + 1) (by omega) (by omega) (by omega)
    rw [take_snG w z62 m (by omega), List.any_append] at next
    simp only [handshakerlaw15_SleepWatch.l2]
    rw [if_pos (by omega), if_pos (by omega), if_pos (by omega), wrN (by omega), show rd_T62 w (m : Int) = w.getD m z62 from rfl]
    by_cases h : ((w.take m).any fun x => x.f0 == r.f0 && x.f1 == r.f2) = true
    · rw [if_pos h]
      rw [h, Bool.true_or] at next
      exact next
    · rw [if_neg h]
      rw [Bool.eq_false_iff.2 h, Bool.false_or] at next
      simp only [List.any_cons, List.any_nil, Bool.or_false] at next
      exact next
  exact inner w.length k 0 (by omega) (by omega) hkC
theorem SWatch_l0 (l : List Rd) (b : Nat) (hb : b ≤ 255) (hl : l.length ≤ 24) (hn : 0 < l.length) (d : Nat) : ∀ (k i : Nat), i ≤ l.length → l.length - i = d → d + 9000 < k →
 handshakerlaw15_SleepWatch.l0 k l (b : Int) (turnR l b i) (l.length : Int) (i : Int) = some true := by
 induction d with
 | zero =>
  intro k i hi hd hk
  obtain ⟨k, rfl⟩ : ∃ m, k = m + 1 := ⟨k - 1, by omega⟩
  obtain rfl : i = l.length := by omega
  simp only [handshakerlaw15_SleepWatch.l0]
  rw [if_neg (by omega), Watched_f k l (by omega) (by omega), Option.bind_some]
  have hwl : (watchedR l).length = (cellsR l).length := by unfold watchedR; rw [List.length_map]
  by_cases hr : rightR l = true
  · have hlen : (watchedR l).length = l.length := by rw [hwl, cellsR_len hr]
    have hp := turnR_perm l b hn
    rw [if_neg (by omega)]
    exact SWatch_l1 l (turnR l b l.length) (watchedR l) hl rfl hlen (watched_perm hp) hp.length_eq (fun x hx => by
     unfold watchedR
     refine List.mem_map.2 ⟨x.f0, (cellsR_mem hr _).2 ⟨x, hx, rfl⟩, ?_⟩
     rw [find_val hr hx]) l.length k 0 (by omega) (by omega) (by omega)
  · have h0 : (watchedR l).length = 0 := by rw [hwl]; unfold cellsR; rw [if_neg hr]; rfl
    rw [if_pos (by omega), RightR_f k l (by omega) (by omega), Option.bind_some, if_neg hr, awake15 k (by omega)]
    rfl
 | succ d ih =>
  intro k i hi hd hk
  obtain ⟨k, rfl⟩ : ∃ m, k = m + 1 := ⟨k - 1, by omega⟩
  have next := ih k (i + 1) (by omega) (by omega) (by omega)
  have hmod := Nat.mod_lt (l.length - i + b) hn
  have et : Int.tmod (wrap64 ((wrap64 ((l.length : Int) - i)) + (wrap64 (b : Int)))) (l.length : Int) = (((l.length - i + b) % l.length : Nat) : Int) := by
   rw [wr (i := (l.length : Int) - i) (by omega) (by omega), wr (i := (b : Int)) (by omega) (by omega), wr (by omega) (by omega), show (l.length : Int) - i + b = ((l.length - i + b : Nat) : Int) by omega, Int.tmod_eq_emod_of_nonneg (by omega)]
   rfl
  simp only [handshakerlaw15_SleepWatch.l0]
  rw [et]
  generalize hq : (l.length - i + b) % l.length = q at *
  rw [if_pos (by omega), if_neg (by omega), if_pos (by omega), if_pos (by omega), if_pos (by unfold turnR; rw [List.length_map, List.length_range]; omega), wrN (by omega)]
  have e2 : turnR l b (i + 1) = turnR l b i ++ [l.getD q z57] := by
   unfold turnR
   rw [List.range_succ, List.map_append, ← hq]; rfl
  rw [e2] at next
  exact next
theorem SleepWatch : handshakerlaw15_SleepWatch.Pure := by
 intro l0 a1 hl1 hl2 _ w1
 have h1 : 0 ≤ a1 ∧ a1 ≤ 255 := by simpa [Lit.wf, IntKind.bits, IntKind.signed, IntKind.min, IntKind.max] using w1
 obtain ⟨b, rfl⟩ := Int.eq_ofNat_of_zero_le h1.1
 refine ⟨9104, ?_⟩
 generalize hK : (9104 : Nat) = K
 unfold handshakerlaw15_SleepWatch.f
 obtain ⟨K, rfl⟩ : ∃ m, K = m + 1 := ⟨K - 1, by omega⟩
 have aw : handshakerlaw15_SleepWatch.j0 (K + 1) l0 (b : Int) true = some true := by
  simp only [handshakerlaw15_SleepWatch.j0]
  rw [if_pos trivial, awake15 K (by omega)]; rfl
 by_cases g : (l0.length : Int) > 24
 · rw [if_pos g]; exact aw
 rw [if_neg g]
 by_cases h0 : l0.length = 0
 · rw [show ((l0.length : Int) == 0) = true by simp [h0]]; exact aw
 · rw [show ((l0.length : Int) == 0) = false by simp; exact fun e => h0 (by rw [e]; rfl)]
   simp only [handshakerlaw15_SleepWatch.j0]
   rw [if_neg (by decide)]
   exact SWatch_l0 l0 b (by omega) (by omega) (by omega) l0.length K 0 (by omega) (by omega) (by omega)
end Go.Proofs.Ytjnkpocfmpbpoaa.Sd
namespace Go.Proofs.Ytjnkpocfmpbpoaa.Pure
theorem SleepWatch : Go.Proofs.Ytjnkpocfmpbpoaa.Sd.handshakerlaw15_SleepWatch.Pure := Go.Proofs.Ytjnkpocfmpbpoaa.Sd.SleepWatch
end Go.Proofs.Ytjnkpocfmpbpoaa.Pure
