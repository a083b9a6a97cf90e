/-
 PROVED: whether any steps are a code, how deep it is and which cells it names are what the document says, for every list of steps. Condition: the argument is of its kind; nothing else.
-/
import Derived.Test.YtbcpnbmegaodbaaCtLem
import Derived.Test.YtbcpnbmegaodbaaCtCode
import Derived.Test.YtbcpnbmegaodbaaCtRef
import Derived.Test.YtbcpnbmegaodbaaCtRef2
import Derived.Test.YtbcpnbmegaodbaaCtx1
import Derived.Test.YtbcpnbmegaodbaaCtx4
import Derived.Test.YtbcpnbmegaodbaaCtx7
import Derived.Test.YtbcpnbmegaodbaaCtx8
import Derived.Test.YtbcpnbmegaodbaaCtx9
namespace Go.Proofs.Ytbcpnbmegaodbaa.Ct
open Go.RowKit Go.Proofs.YtbcpnbmegaodbaaW.PrintWords Go.Proofs.YtbcpnbmegaodbaaW.PrintLast Go.Proofs.YtbcpnbmegaodbaaW.PrintMore Go.Proofs.Ytbcpnbmegaodbaa.Ho
set_option linter.unusedVariables false
set_option linter.unusedSimpArgs false
theorem awake8 (k : Nat) (hk : 60 ≤ k) : handshakerlaw08_awake.f k = some true :=
 at_rounds (g := handshakerlaw08_awake.f) handshakerlaw08_awake.mono hk (by decide +kernel)
theorem rCheckC_l (c : List S37) (hm : c.length ≤ 24) (d : Nat) : ∀ (k i : Nat), i ≤ c.length → c.length - i = d → d + 1500 < k → (∀ s ∈ c.take i, mayC s = true) →
 handshakerref08_Check.l0 k (refC c) (i : Int) = some (checkC c) := by
 induction d with
 | zero =>
  intro k i hi hd hk hma
  obtain ⟨k, rfl⟩ : ∃ m, k = m + 1 := ⟨k - 1, by omega⟩
  rw [List.take_of_length_le (by omega)] at hma
  obtain ⟨v, hv, ev⟩ := well_f c hm hma c.length 0 c.length k (by omega) (by omega) (by omega) (by omega)
  have ep : part c 0 c.length = c := by unfold part; simp
  rw [ep] at ev
  simp only [handshakerref08_Check.l0]
  rw [if_neg (by rw [refC_len]; omega), refC_len, show (0 : Int) = ((0 : Nat) : Int) from rfl, ev]
  simp only [Option.bind_some]
  have ec : checkC c = match deepT c with | some n => if n > 6 then 5 else 0 | none => 2 := by
   unfold checkC
   rw [if_pos ⟨hm, List.all_eq_true.2 hma⟩]
   cases deepT c <;> rfl
  rw [ec]
  cases deepT c with
  | none => rfl
  | some n =>
   simp only [Option.isSome_some, if_true]
   by_cases h6 : n > 6
   · rw [if_pos (by omega), if_pos h6]
   · rw [if_neg (by omega), if_neg h6]; rfl
 | succ d ih =>
  intro k i hi hd hk hma
  obtain ⟨k, rfl⟩ : ∃ m, k = m + 1 := ⟨k - 1, by omega⟩
  simp only [handshakerref08_Check.l0]
  rw [if_pos (by rw [refC_len]; omega), if_pos (by omega), refC_at c i (by omega), wrN (by omega)]
  have hmem : c.getD i z37 ∈ c := by
   rw [List.getD_eq_getElem?_getD, List.getElem?_eq_getElem (by omega)]; exact List.getElem_mem _
  have r1 := rone_f k (c.getD i z37) (by omega)
  have er : handshakerref08_one.f k (cvC (c.getD i z37)).f0 (cvC (c.getD i z37)).f1 (cvC (c.getD i z37)).f2 (cvC (c.getD i z37)).f3 = some (mayC (c.getD i z37)) := r1
  rw [er]
  simp only [Option.bind_some]
  by_cases ho : mayC (c.getD i z37) = true
  · rw [if_pos ho]
    refine ih k (i + 1) (by omega) (by omega) (by omega) fun o h => ?_
    rw [List.take_add_one, List.getElem?_eq_getElem (by omega)] at h
    rcases List.mem_append.1 h with h | h
    · exact hma o h
    · have : o = c.getD i z37 := by
       rw [List.getD_eq_getElem?_getD, List.getElem?_eq_getElem (by omega)]
       simpa using h
      rw [this]; exact ho
  · rw [if_neg ho]
    unfold checkC
    rw [if_neg]
    intro e
    exact ho (List.all_eq_true.1 e.2 _ hmem)
theorem rCheckC_f (k : Nat) (c : List S37) (hk : 1600 ≤ k) : handshakerref08_Check.f k (refC c) = some (checkC c) := by
 unfold handshakerref08_Check.f
 rw [refC_len]
 by_cases h2 : c.length > 24
 · rw [if_pos (by omega)]
   unfold checkC
   rw [if_neg (by omega)]
 · rw [if_neg (by omega)]
   exact rCheckC_l c (by omega) c.length k 0 (by omega) (by omega) (by omega) (by simp)
theorem rDeepC_f (k : Nat) (c : List S37) (hk : 1600 ≤ k) : handshakerref08_Deep.f k (refC c) = some (deepC c) := by
 unfold handshakerref08_Deep.f deepC
 rw [rCheckC_f k c hk]
 simp only [Option.bind_some]
 by_cases h : checkC c = 0
 · obtain ⟨h1, h2, n, hn⟩ := checkC_ok h
   obtain ⟨v, hv, ev⟩ := well_f c h1 h2 c.length 0 c.length k (by omega) (by omega) (by omega) (by omega)
   have ep : part c 0 c.length = c := by unfold part; simp
   rw [ep] at ev
   rw [if_pos h, if_pos h, refC_len, show (0 : Int) = ((0 : Nat) : Int) from rfl, ev, hn]; rfl
 · rw [if_neg h, if_neg h]
def nameB (c : List S37) (n : Int) : Bool := c.any fun s => nameC s == some n
def refCellsC (c : List S37) : List Int := ((List.range 64).filter fun n => nameB c ((n : Nat) : Int)).map fun n => ((n : Nat) : Int)
theorem rCellsC_l1 (c : List S37) (hm : c.length ≤ 24) (n K : Nat) (out : List Int) (r : Option (List Int)) (ho : out.length < 4611686018427) (he : ∀ k, K < k → handshakerref08_Cells.l0 k (refC c) (if nameB c (n : Int) = true then out ++ [(n : Int)] else out) (wrap64 ((n : Int) + 1)) = r) (d : Nat) : ∀ (k i : Nat) (b : Bool), i ≤ c.length → c.length - i = d → d + K + 1 < k → b = nameB (c.take i) (n : Int) →
 handshakerref08_Cells.l1 k (refC c) out (n : Int) b (i : Int) = r := by
 induction d with
 | zero =>
  intro k i b hi hd hk hb
  obtain ⟨k, rfl⟩ : ∃ m, k = m + 1 := ⟨k - 1, by omega⟩
  rw [List.take_of_length_le (by omega)] at hb
  have he' := he k (by omega)
  simp only [handshakerref08_Cells.l1]
  rw [if_neg (by rw [refC_len]; omega)]
  cases b with
  | true =>
   rw [if_pos hb.symm] at he'
   rw [if_pos rfl, if_pos (by omega)]
   exact he'
  | false =>
   rw [if_neg (by rw [← hb]; decide)] at he'
   rw [if_neg (by decide)]
   exact he'
 | succ d ih =>
  intro k i b hi hd hk hb
  obtain ⟨k, rfl⟩ : ∃ m, k = m + 1 := ⟨k - 1, by omega⟩
  have et : c.take (i + 1) = c.take i ++ [c.getD i z37] := by
   rw [List.take_add_one, List.getD_eq_getElem?_getD, List.getElem?_eq_getElem (by omega)]; rfl
  have en : nameB (c.take (i + 1)) (n : Int) = (b || (nameC (c.getD i z37) == some (n : Int))) := by
   rw [et]
   unfold nameB at hb ⊢
   rw [List.any_append, ← hb]; simp
  simp only [handshakerref08_Cells.l1]
  rw [if_pos (by rw [refC_len]; omega), wrN (by omega), refC_at c i (by omega)]
  have next := fun b' e => ih k (i + 1) b' (by omega) (by omega) (by omega) e
  rw [en] at next
  generalize c.getD i z37 = s at *
  cases b with
  | true =>
   rw [if_pos rfl]
   exact next true rfl
  | false =>
   rw [if_neg (by decide), if_pos (by omega)]
   unfold nameC at next
   by_cases h1 : s.f0 = 1
   · have h3 : ¬ s.f0 = 3 := by omega
     rw [if_pos (show (cvC s).f0 = 1 from h1)]
     rw [if_pos h1] at next
     by_cases e2 : s.f2 = (n : Int)
     · rw [if_pos (show (cvC s).f2 = (n : Int) from e2)]
       exact next true (by rw [e2]; simp)
     · rw [if_neg (show ¬ (cvC s).f2 = (n : Int) from e2), if_neg (show ¬ (cvC s).f0 = 3 from h3)]
       exact next false (by simp [e2])
   · rw [if_neg (show ¬ (cvC s).f0 = 1 from h1)]
     rw [if_neg h1] at next
     by_cases h3 : s.f0 = 3
     · rw [if_pos (show (cvC s).f0 = 3 from h3)]
       rw [if_pos h3] at next
       refine next _ ?_
       show (s.f1 == (n : Int)) = _
       by_cases e : s.f1 = (n : Int) <;> simp [e]
     · rw [if_neg (show ¬ (cvC s).f0 = 3 from h3)]
       rw [if_neg h3] at next
       exact next false (by simp)
theorem rCellsC_l0 (c : List S37) (hm : c.length ≤ 24) (d : Nat) : ∀ (k n : Nat), n ≤ 64 → 64 - n = d → 30 * d + 20 < k →
 handshakerref08_Cells.l0 k (refC c) (((List.range n).filter fun n => nameB c ((n : Nat) : Int)).map fun n => ((n : Nat) : Int)) (n : Int) = some (refCellsC c) := by
 induction d with
 | zero =>
  intro k n hc hd hk
  obtain ⟨k, rfl⟩ : ∃ m, k = m + 1 := ⟨k - 1, by omega⟩
  have : n = 64 := by omega
  subst this
  simp only [handshakerref08_Cells.l0]
  rw [if_neg (by omega)]
  rfl
 | succ d ih =>
  intro k n hc hd hk
  obtain ⟨k, rfl⟩ : ∃ m, k = m + 1 := ⟨k - 1, by omega⟩
  simp only [handshakerref08_Cells.l0]
  rw [if_pos (by omega)]
  refine rCellsC_l1 c hm n (30 * d + 20) _ _ ?_ (fun k hk => ?_) c.length k 0 false (by omega) (by omega) (by omega) (by simp [nameB])
  · rw [List.length_map]
    refine Nat.lt_of_le_of_lt (List.length_filter_le _ _) ?_
    rw [List.length_range]; omega
  · rw [wrN (by omega), ← ih k (n + 1) (by omega) (by omega) hk, List.range_succ, List.filter_append, List.map_append]
    by_cases hx : nameB c (n : Int) = true
    · rw [if_pos hx]; simp only [List.filter_cons, hx, if_true, List.filter_nil, List.map_cons, List.map_nil]
    · rw [if_neg hx]; simp only [List.filter_cons, hx, List.filter_nil, List.map_nil, List.append_nil, if_false, Bool.false_eq_true]
theorem rCellsC_f (k : Nat) (c : List S37) (hk : 2000 < k) : handshakerref08_Cells.f k (refC c) = some (if checkC c = 0 then refCellsC c else []) := by
 unfold handshakerref08_Cells.f
 rw [rCheckC_f k c (by omega)]
 simp only [Option.bind_some]
 by_cases h1 : checkC c = 0
 · rw [if_pos h1, if_pos h1]
   exact rCellsC_l0 c (checkC_ok h1).1 64 k 0 (by omega) (by omega) (by omega)
 · rw [if_neg h1, if_neg h1]
theorem name_rng {s : S37} {v : Int} (hm : mayC s = true) (hn : nameC s = some v) : 0 ≤ v ∧ v < 64 := by
 unfold nameC at hn
 unfold mayC at hm
 split at hn
 · rename_i h1
   rw [if_pos h1] at hm
   cases hn
   simp only [Bool.and_eq_true, btw, decide_eq_true_eq] at hm
   omega
 · rename_i h1
   split at hn
   · rename_i h3
     rw [if_neg h1, if_neg (by omega), if_pos h3] at hm
     cases hn
     simp only [Bool.and_eq_true, btw, decide_eq_true_eq] at hm
     omega
   · cases hn
theorem cellsC_same (c : List S37) : cellsC c = if checkC c = 0 then refCellsC c else [] := by
 unfold cellsC
 by_cases h1 : checkC c = 0
 · rw [if_pos h1, if_pos h1]
   obtain ⟨c1, c3, _⟩ := checkC_ok h1
   refine rise_ext _ _ (comp_rise _ ?_) ?_ fun x => ?_
   · have := List.pairwise_mergeSort (le := fun x y : Int => decide (x ≤ y)) (by intro a b c; simp; omega) (by intro a b; simp; omega) (cellsLC c)
     exact this.imp fun h => of_decide_eq_true h
   · unfold refCellsC
     rw [List.pairwise_map]
     exact (List.Pairwise.filter _ List.pairwise_lt_range).imp fun h => by omega
   · rw [mem_comp, List.mem_mergeSort]
     unfold cellsLC refCellsC nameB
     simp only [List.mem_map, List.mem_filter, List.mem_range, List.any_eq_true, List.mem_filterMap, beq_iff_eq]
     constructor
     · rintro ⟨o, h2, h3⟩
       obtain ⟨r1, r2⟩ := name_rng (c3 o h2) h3
       exact ⟨x.toNat, ⟨by omega, o, h2, by rw [h3]; congr 1; omega⟩, by omega⟩
     · rintro ⟨n, ⟨h2, o, h3, h4⟩, rfl⟩
       exact ⟨o, h3, h4⟩
 · rw [if_neg h1, if_neg h1]
theorem refCellsC_len (c : List S37) : (refCellsC c).length ≤ 64 := by
 unfold refCellsC
 rw [List.length_map]
 refine Nat.le_trans (List.length_filter_le _ _) ?_
 rw [List.length_range]; omega
theorem Small_l (c : List S37) (hm : c.length < 4398046511104) (d : Nat) : ∀ (k i : Nat), i ≤ c.length → c.length - i = d → d < k → (∀ s ∈ c.take i, s.f3.length ≤ 20) →
 handshakerlaw08_Small.l0 k c c (c.length : Int) (i : Int) = some (-1) ∨ (c.length ≤ 40 ∧ (∀ s ∈ c, s.f3.length ≤ 20) ∧ handshakerlaw08_Small.l0 k c c (c.length : Int) (i : Int) = some (c.length : Int)) := by
 induction d with
 | zero =>
  intro k i hi hd hk hs
  obtain ⟨k, rfl⟩ : ∃ m, k = m + 1 := ⟨k - 1, by omega⟩
  rw [List.take_of_length_le (by omega)] at hs
  simp only [handshakerlaw08_Small.l0]
  rw [if_neg (by omega)]
  by_cases h : c.length > 40
  · rw [if_pos (by omega)]; exact .inl rfl
  · rw [if_neg (by omega)]; exact .inr ⟨by omega, hs, rfl⟩
 | succ d ih =>
  intro k i hi hd hk hs
  obtain ⟨k, rfl⟩ : ∃ m, k = m + 1 := ⟨k - 1, by omega⟩
  simp only [handshakerlaw08_Small.l0]
  rw [if_pos (by omega), if_pos (by omega), if_pos (by omega), wrN (by omega), show rd_T37 c (i : Int) = c.getD i z37 from rfl]
  by_cases h : (c.getD i z37).f3.length > 20
  · rw [if_pos (by omega)]; exact .inl rfl
  · rw [if_neg (by omega)]
    refine ih k (i + 1) (by omega) (by omega) (by omega) fun s hs' => ?_
    rw [List.take_add_one, List.getElem?_eq_getElem (by omega)] at hs'
    rcases List.mem_append.1 hs' with h' | h'
    · exact hs s h'
    · have : s = c.getD i z37 := by
       rw [List.getD_eq_getElem?_getD, List.getElem?_eq_getElem (by omega)]
       simpa using h'
      rw [this]; omega
theorem CodeTells : handshakerlaw08_CodeTells.Pure := by
 intro c hml hb _
 refine ⟨c.length + 3000, ?_⟩
 generalize hK : c.length + 3000 = K
 unfold handshakerlaw08_CodeTells.f handshakerlaw08_Small.f
 rcases Small_l c (by omega) c.length K 0 (by omega) (by omega) (by omega) (by simp) with h | ⟨h1, h2, h⟩
 · rw [show (0 : Int) = ((0 : Nat) : Int) from rfl, h]
   simp only [Option.bind_some]
   rw [if_pos (by omega), awake8 K (by omega)]; rfl
 · rw [show (0 : Int) = ((0 : Nat) : Int) from rfl, h]
   simp only [Option.bind_some]
   rw [if_neg (by omega)]
   have hl : (cellsC c).length ≤ 64 := by
    rw [cellsC_same]
    have := refCellsC_len c
    split
    · exact this
    · simp
   simp only [RefC_f K c h1 h2 (show 80 < K by omega), CheckC_f K c (show 60 ≤ K by omega), rCheckC_f K c (show 1600 ≤ K by omega), DeepC_f K c (show 60 ≤ K by omega), rDeepC_f K c (show 1600 ≤ K by omega), CellsC_f K c (show 60 ≤ K by omega), rCellsC_f K c (show 2000 < K by omega), ← cellsC_same, Option.bind_some, if_true, awake8 K (show 60 ≤ K by omega)]
   rw [Numbers_f K _ (by omega) (by omega)]
   rfl
end Go.Proofs.Ytbcpnbmegaodbaa.Ct
namespace Go.Proofs.Ytbcpnbmegaodbaa.Pure
theorem CodeTells : Go.Proofs.Ytbcpnbmegaodbaa.Ct.handshakerlaw08_CodeTells.Pure := Go.Proofs.Ytbcpnbmegaodbaa.Ct.CodeTells
end Go.Proofs.Ytbcpnbmegaodbaa.Pure
