/-
  PROVED: a set whose reads are added one by one, in any order, has the same cells, and fewer reads are valid wherever more are, for every list of reads, table, number, heap and two more numbers. Condition: each argument is of its kind; nothing else.
-/
import Derived.Test.YtlfmobnmohnjmaaRLem
import Derived.Test.YtlfmobnmohnjmaaRRef
import Derived.Test.YtlfmobnmohnjmaaRMore
import Derived.Test.YtlfmobnmohnjmaaRx5
import Derived.Test.YtlfmobnmohnjmaaRx14
namespace Go.Proofs.Ytlfmobnmohnjmaa.R
open Go.RowKit Go.Proofs.YtlfmobnmohnjmaaW.PrintWords Go.Proofs.YtlfmobnmohnjmaaW.PrintLast Go.Proofs.YtlfmobnmohnjmaaW.PrintMore Go.Proofs.Ytlfmobnmohnjmaa.Ho
set_option linter.unusedVariables false
set_option linter.unusedSimpArgs false
theorem getD_appL {α : Type} (a b : List α) (z : α) (j : Nat) (h : j < a.length) : (a ++ b).getD j z = a.getD j z := by
  rw [List.getD_eq_getElem?_getD, List.getD_eq_getElem?_getD, List.getElem?_append_left h]
theorem getD_appR {α : Type} (a : List α) (x z : α) (j : Nat) (h : j = a.length) : (a ++ [x]).getD j z = x := by
  subst h; simp
def sg (n b i : Nat) : Nat := (n - i + b) % n
theorem sg_inj {n b i j : Nat} (hi : i < n) (hij : i < j) (hj : j < n) : sg n b i ≠ sg n b j := by
  intro h
  unfold sg at h
  have := Nat.sub_mod_eq_zero_of_mod_eq h
  rw [Nat.mod_eq_of_lt (by omega)] at this
  omega
theorem sg_sur {n b m : Nat} (hm : m < n) : ∃ i, i < n ∧ sg n b i = m := by
  refine ⟨(n + b - m) % n, Nat.mod_lt _ (by omega), ?_⟩
  unfold sg
  have h1 := Nat.div_add_mod (n + b - m) n
  have h2 := Nat.mod_lt (n + b - m) (show 0 < n by omega)
  generalize (n + b - m) % n = i at *
  generalize (n + b - m) / n = q at *
  rw [show n - i + b = m + n * q from by omega, Nat.add_mul_mod_self_left, Nat.mod_eq_of_lt hm]
def TL (l : List S24) (b n : Nat) : List S24 := (List.range n).map fun i => l.getD (sg l.length b i) z24
theorem TL_len (l : List S24) (b n : Nat) : (TL l b n).length = n := by simp [TL]
theorem TL_sn (l : List S24) (b n : Nat) : TL l b (n + 1) = TL l b n ++ [l.getD (sg l.length b n) z24] := by
  unfold TL
  rw [List.range_succ, List.map_append]; rfl
theorem sg_lt (n b i : Nat) (hn : 0 < n) : sg n b i < n := Nat.mod_lt _ hn
theorem TL_right {l : List S24} (hr : rightR l = true) (b n : Nat) (hn : n ≤ l.length) (hl : 0 < l.length) : rightR (TL l b n) = true := by
  rw [rightR_iff] at hr ⊢
  refine ⟨by rw [TL_len]; have := hr.1; omega, fun x hx => ?_, ?_⟩
  · unfold TL at hx
    obtain ⟨i, hi, rfl⟩ := List.mem_map.1 hx
    exact hr.2.1 _ (getD_in l z24 _ (sg_lt _ b i hl))
  · unfold TL
    rw [List.pairwise_map]
    refine List.Pairwise.imp_of_mem ?_ (List.pairwise_lt_range (n := n))
    intro i j hi hj hij e
    have hj' := List.mem_range.1 hj
    exact sg_inj (by omega) hij (by omega) (pair_same hr.2.2 _ _ (sg_lt _ b i hl) (sg_lt _ b j hl) e)
theorem TL_mem {l : List S24} (b : Nat) (hl : 0 < l.length) (x : S24) : x ∈ TL l b l.length ↔ x ∈ l := by
  unfold TL
  rw [List.mem_map]
  constructor
  · rintro ⟨i, hi, rfl⟩
    exact getD_in l z24 _ (sg_lt _ b i hl)
  · intro hx
    obtain ⟨m, hm, rfl⟩ := List.mem_iff_getElem.1 hx
    obtain ⟨i, hi, e⟩ := sg_sur (b := b) hm
    refine ⟨i, List.mem_range.2 hi, ?_⟩
    rw [e, List.getD_eq_getElem?_getD, List.getElem?_eq_getElem hm]; rfl
theorem all_mem {α : Type} {a b : List α} (p : α → Bool) (h : ∀ x, x ∈ a ↔ x ∈ b) : a.all p = b.all p := by
  rw [Bool.eq_iff_iff, List.all_eq_true, List.all_eq_true]
  exact ⟨fun g x hx => g x ((h x).2 hx), fun g x hx => g x ((h x).1 hx)⟩
theorem cellsR_same {a b : List S24} (ha : rightR a = true) (hb : rightR b = true) (h : ∀ x, x ∈ a ↔ x ∈ b) : cellsR a = cellsR b := by
  refine rise_ext _ _ (cellsR_up ha) (cellsR_up hb) fun c => ?_
  rw [cellsR_mem ha, cellsR_mem hb]
  exact ⟨fun ⟨x, hx, e⟩ => ⟨x, (h x).1 hx, e⟩, fun ⟨x, hx, e⟩ => ⟨x, (h x).2 hx, e⟩⟩
theorem right_take {l : List S24} (hr : rightR l = true) (n : Nat) : rightR (l.take n) = true := by
  rw [rightR_iff] at hr ⊢
  exact ⟨by rw [List.length_take]; have := hr.1; omega, fun x hx => hr.2.1 x (List.mem_of_mem_take hx), hr.2.2.sublist (List.take_sublist _ _)⟩
theorem all_take {α : Type} {l : List α} {p : α → Bool} (h : l.all p = true) (n : Nat) : (l.take n).all p = true := by
  rw [List.all_eq_true] at h ⊢
  exact fun x hx => h x (List.mem_of_mem_take hx)
theorem Parts_j2 (l : List S24) (t : List S67) (who : Int) (h : List S73) (n k : Nat) (hl : l.length ≤ 24) (hr : rightR l = true) (hk : 100 < k) :
    handshakerlaw05_ReadsParts.j2 (k + 1) l t who h (l.take n) false = some true := by
  have hlt : (l.take n).length ≤ 24 := by rw [List.length_take]; omega
  have hrt := right_take hr n
  have aw : (handshakerlaw05_awake.f k).bind (fun t => some t) = some true := by rw [awake5 k (by omega)]; rfl
  simp only [handshakerlaw05_ReadsParts.j2]
  rw [if_neg (by decide), ValidR_f k l t who (by omega) (by omega), ValidR_f k _ t who (by omega) (by omega), SameH_f k l h (by omega) (by omega), SameH_f k _ h (by omega) (by omega)]
  simp only [Option.bind_some]
  have e1 : validR l t who = 0 → validR (l.take n) t who = 0 := by
    unfold validR
    rw [hr, hrt]
    intro e
    split at e
    · rename_i g
      rw [if_pos g]
      split at e
      · rename_i g2
        rw [if_pos (all_take g2 n)]
      · cases e
    · cases e
  have e2 : sameR l h = true → sameR (l.take n) h = true := by
    unfold sameR
    rw [hr, hrt]
    simp only [Bool.true_and, Bool.and_eq_true]
    exact fun g => ⟨g.1, all_take g.2 n⟩
  by_cases g1 : validR l t who = 0
  · rw [if_pos g1, if_pos (e1 g1)]
    by_cases g2 : sameR l h = true
    · rw [if_pos g2, if_pos (e2 g2)]; exact aw
    · rw [if_neg g2]; exact aw
  · rw [if_neg g1]
    by_cases g2 : sameR l h = true
    · rw [if_pos g2, if_pos (e2 g2)]; exact aw
    · rw [if_neg g2]; exact aw
theorem Parts_l0 (l : List S24) (t : List S67) (who : Int) (h : List S73) (cut b : Nat) (hc : cut ≤ 255) (hb : b ≤ 255) (hl : l.length ≤ 24) (h0 : 0 < l.length) (hr : rightR l = true) (d : Nat) : ∀ (k i : Nat), i ≤ l.length → l.length - i = d → d + 200 < k →
    handshakerlaw05_ReadsParts.l0 k l t who h (cut : Int) (b : Int) (TL l b i) (l.length : Int) (i : Int) = some true := by
  induction d with
  | zero =>
    intro k i hi hd hk
    obtain ⟨k, rfl⟩ : ∃ m, k = m + 2 := ⟨k - 2, by omega⟩
    have : i = l.length := by omega
    subst this
    have hrt := TL_right hr b l.length (by omega) h0
    have hmem := TL_mem (l := l) b h0
    have hlt := TL_len l b l.length
    obtain ⟨m, e1, e2, e3⟩ := tmodN (cut : Int) (l.length + 1) (by omega) (by omega)
    simp only [handshakerlaw05_ReadsParts.l0]
    rw [if_neg (by omega), wrN (by omega), if_neg (by omega), wr (i := (cut : Int)) (by omega) (by omega), e1, if_pos (by omega), if_pos (by omega), CellsR_f (k + 1) l (by omega) (by omega), CellsR_f (k + 1) (TL l b l.length) (by omega) (by omega), ← cellsR_same hr hrt (fun x => (hmem x).symm)]
    simp only [Option.bind_some]
    rw [Numbers_f (k + 1) _ (by rw [cellsR_len hr]; omega) (by rw [cellsR_len hr]; omega)]
    simp only [Option.bind_some, if_true]
    rw [ValidR_f (k + 1) l t who (by omega) (by omega), ValidR_f (k + 1) (TL l b l.length) t who (by omega) (by omega), SameH_f (k + 1) l h (by omega) (by omega), SameH_f (k + 1) (TL l b l.length) h (by omega) (by omega)]
    have ev : validR (TL l b l.length) t who = validR l t who := by
      unfold validR
      rw [hr, hrt, all_mem _ hmem]
    have es : sameR (TL l b l.length) h = sameR l h := by
      unfold sameR
      rw [hr, hrt, all_mem _ hmem]
    rw [ev, es]
    simp only [Option.bind_some, if_true]
    rw [Parts_j2 l t who h _ k hl hr (by omega)]
    split <;> rfl
  | succ d ih =>
    intro k i hi hd hk
    obtain ⟨k, rfl⟩ : ∃ m, k = m + 1 := ⟨k - 1, by omega⟩
    have hrt := TL_right hr b i (by omega) h0
    have hlt := TL_len l b i
    have hrn := TL_right hr b (i + 1) (by omega) h0
    obtain ⟨m, e1, e2, e3⟩ := tmodN (((l.length - i + b : Nat) : Int)) l.length (by omega) (by omega)
    have e4 : m = sg l.length b i := by rw [e3]; unfold sg; rw [Int.toNat_natCast]
    simp only [handshakerlaw05_ReadsParts.l0]
    rw [if_pos (by omega), if_neg (by omega), wr (i := (l.length : Int) - (i : Int)) (by omega) (by omega), wr (i := (b : Int)) (by omega) (by omega), wr (i := (l.length : Int) - (i : Int) + (b : Int)) (by omega) (by omega), show (l.length : Int) - (i : Int) + (b : Int) = ((l.length - i + b : Nat) : Int) from by omega, e1, if_pos (by omega), if_pos (by omega), show rd_T24 l (m : Int) = l.getD m z24 from rfl, wrN (by omega), e4]
    rw [AddR_f k (TL l b i) _ (by omega) (by omega)]
    have ho : okR (l.getD (sg l.length b i) z24) = true := ((rightR_iff l).1 hr).2.1 _ (getD_in l z24 _ (sg_lt _ b i h0))
    have hp : plc (TL l b i) (l.getD (sg l.length b i) z24).f0 = -1 := by
      rcases plc_cases (TL l b i) (l.getD (sg l.length b i) z24).f0 with ⟨e, _⟩ | ⟨j, hj, g1, g2, _⟩
      · exact e
      · rw [hlt] at hj
        have hp := ((rightR_iff _).1 hrn).2.2
        have := pair_at hp j i hj (by rw [TL_len]; omega)
        rw [TL_sn, getD_appL _ _ _ j (by omega), getD_appR _ _ _ i hlt.symm] at this
        exact absurd g2 this
    rw [addR_in hrt ho, hp, if_neg (show ¬ (0 : Int) ≤ -1 by omega), if_neg (by omega), ← TL_sn]
    simp only [Option.bind_some, if_true]
    exact ih k (i + 1) (by omega) (by omega) (by omega)
theorem ReadsParts : handshakerlaw05_ReadsParts.Pure := by
  intro l t who h cut b _ _ _ _ _ _ _ _ _ _ wc wb
  have hc : 0 ≤ cut ∧ cut ≤ 255 := by simpa [Lit.wf, IntKind.bits, IntKind.signed, IntKind.min, IntKind.max] using wc
  have hb : 0 ≤ b ∧ b ≤ 255 := by simpa [Lit.wf, IntKind.bits, IntKind.signed, IntKind.min, IntKind.max] using wb
  obtain ⟨K, hK⟩ : ∃ K, l.length + 6000 = K := ⟨_, rfl⟩
  refine ⟨K + 1, ?_⟩
  have aw : (handshakerlaw05_awake.f K).bind (fun t => some t) = some true := by rw [awake5 K (by omega)]; rfl
  have hj : handshakerlaw05_ReadsParts.j0 (K + 1) l t who h cut b true = some true := by
    simp only [handshakerlaw05_ReadsParts.j0, if_true]; exact aw
  unfold handshakerlaw05_ReadsParts.f
  by_cases h1 : (l.length : Int) > 24
  · rw [if_pos h1]; exact hj
  rw [if_neg h1]
  by_cases h2 : (t.length : Int) > 16
  · rw [if_pos h2]; exact hj
  rw [if_neg h2]
  by_cases h3 : (h.length : Int) > 64
  · rw [if_pos h3]; exact hj
  rw [if_neg h3, RightR_f (K + 1) l (by omega) (by omega)]
  simp only [Option.bind_some]
  by_cases hr : ¬ rightR l = true
  · rw [if_neg hr]; exact hj
  replace hr := Decidable.not_not.mp hr
  rw [if_pos hr]
  by_cases e0 : l.length = 0
  · rw [show ((l.length : Int) == 0) = true from by simp [e0]]; exact hj
  rw [show ((l.length : Int) == 0) = false from by simp [e0]]
  simp only [handshakerlaw05_ReadsParts.j0]
  rw [if_neg (by decide)]
  obtain ⟨c, rfl⟩ : ∃ c : Nat, cut = (c : Int) := ⟨cut.toNat, by omega⟩
  obtain ⟨b, rfl⟩ : ∃ c : Nat, b = (c : Int) := ⟨b.toNat, by omega⟩
  exact Parts_l0 l t who h c b (by omega) (by omega) (by omega) (by omega) hr l.length K 0 (by omega) (by omega) (by omega)
end Go.Proofs.Ytlfmobnmohnjmaa.R
namespace Go.Proofs.Ytlfmobnmohnjmaa.Pure
theorem ReadsParts : Go.Proofs.Ytlfmobnmohnjmaa.R.handshakerlaw05_ReadsParts.Pure := Go.Proofs.Ytlfmobnmohnjmaa.R.ReadsParts
end Go.Proofs.Ytlfmobnmohnjmaa.Pure
