/-
 PROVED: Plain lemmas on numbers and lists, of what the printed functions answer. No condition beside those of each lemma.
-/
import Derived.Test.YtbcpnbmegaodbaaCtLem
import Derived.Test.YtbcpnbmegaodbaaCtx4
import Derived.Test.YtbcpnbmegaodbaaCtx5
import Derived.Test.YtbcpnbmegaodbaaCtx6
namespace Go.Proofs.Ytbcpnbmegaodbaa.Ct
open Go.RowKit Go.Proofs.YtbcpnbmegaodbaaW.PrintWords Go.Proofs.YtbcpnbmegaodbaaW.PrintLast Go.Proofs.YtbcpnbmegaodbaaW.PrintMore Go.Proofs.Ytbcpnbmegaodbaa.Ho
set_option linter.unusedVariables false
set_option linter.unusedSimpArgs false
/-! ### the document's term -/
abbrev cv (o : S41) : S82 := ⟨o.f0, o.f1⟩
def refT (t : List S41) : List S82 := t.map cv
theorem Ref_l (t : List S41) (hm : t.length < 4398046511104) (d : Nat) : ∀ (k i : Nat) (out : List S82), i ≤ t.length → t.length - i = d → d < k → out.length ≤ i →
 handshakerlaw07_Ref.l0 k out t (t.length : Int) (i : Int) = some (out ++ refT (t.drop i)) := by
 induction d with
 | zero =>
  intro k i out hi hd hk ho
  obtain ⟨k, rfl⟩ : ∃ m, k = m + 1 := ⟨k - 1, by omega⟩
  rw [List.drop_of_length_le (by omega)]
  simp only [handshakerlaw07_Ref.l0]
  rw [if_neg (by omega)]
  simp [refT]
 | succ d ih =>
  intro k i out hi hd hk ho
  obtain ⟨k, rfl⟩ : ∃ m, k = m + 1 := ⟨k - 1, by omega⟩
  rw [drop_cons t z41 i (by omega)]
  simp only [handshakerlaw07_Ref.l0]
  rw [if_pos (by omega), if_pos (by omega), if_pos (by omega), if_pos (by omega), wrN (by omega), ih k (i + 1) _ (by omega) (by omega) (by omega) (by simp; omega)]
  simp only [refT, List.map_cons, List.append_assoc, List.singleton_append]
  rfl
theorem Ref_f (k : Nat) (t : List S41) (hm : t.length < 4398046511104) (hk : t.length < k) : handshakerlaw07_Ref.f k t = some (refT t) := by
 unfold handshakerlaw07_Ref.f
 exact Ref_l t hm t.length k 0 [] (by omega) (by omega) (by omega) (by simp)
theorem ref_len (t : List S41) : (refT t).length = t.length := by simp [refT]
theorem ref_at (t : List S41) (i : Nat) (hi : i < t.length) : rd_T82 (refT t) (i : Int) = cv (t.getD i z41) := by
 unfold rd_T82 refT
 rw [List.getD_eq_getElem?_getD, List.getD_eq_getElem?_getD, List.getElem?_map]
 simp [List.getElem?_eq_getElem hi]
theorem one_f (a b : Int) : handshakerref07_one.f a b = some (mayB a b) := by
 unfold handshakerref07_one.f mayB
 rw [show handshakerref01_Right.f b = some (inR b) from by
  unfold handshakerref01_Right.f inR
  by_cases h : b ≥ (-2147483648)
  · rw [if_pos h]; simp [h]
  · rw [if_neg h]; simp [h]]
 simp only [Option.bind_some]
 split
 · rfl
 · split
   · by_cases h : b ≥ 0
     · rw [if_pos h]; congr 1; rw [decide_eq_decide]; omega
     · rw [if_neg h]; congr 1; symm; rw [decide_eq_false_iff_not]; omega
   · split
     · by_cases h : b ≥ 0
       · rw [if_pos h]; congr 1; rw [decide_eq_decide]; omega
       · rw [if_neg h]; congr 1; symm; rw [decide_eq_false_iff_not]; omega
     · by_cases h : takes a = 0
       · have : ¬ (a ≥ 4 ∧ a ≤ 11) := by
          unfold takes at h
          split at h
          · omega
          · split at h <;> omega
         rw [h]
         by_cases h4 : a ≥ 4
         · rw [if_pos h4, if_neg (fun e => this ⟨h4, e⟩)]; simp
         · rw [if_neg h4]; simp
       · have : a ≥ 4 ∧ a ≤ 11 := by
          unfold takes at h
          split at h
          · omega
          · split at h <;> omega
         rw [if_pos this.1, if_pos this.2, decide_eq_true (by omega)]; simp
/-- So many terms off the end (the last operation first): what is left. -/
def need : List S41 → Nat → Option (List S41)
 | r, 0 => some r
 | [], _ + 1 => none
 | o :: r, c + 1 => need r (c + takes o.f0)
theorem need_zero (r : List S41) : need r 0 = some r := by cases r <;> rfl
theorem need_add : ∀ (r : List S41) (a b : Nat), need r (a + b) = (need r a).bind fun s => need s b
 | r, 0, b => by rw [need_zero, Nat.zero_add]; rfl
 | [], a + 1, b => by rw [show a + 1 + b = (a + b) + 1 from by omega]; rfl
 | o :: r, a + 1, b => by
  rw [show a + 1 + b = (a + b) + 1 from by omega]
  simp only [need]
  rw [show a + b + takes o.f0 = (a + takes o.f0) + b from by omega]
  exact need_add r _ b
/-- What is left is a head of the row. -/
theorem need_suf : ∀ (r : List S41) (c : Nat) (s : List S41), need r c = some s → ∃ q, r = q ++ s ∧ c ≤ q.length
 | r, 0, s, h => by rw [need_zero] at h; cases h; exact ⟨[], rfl, by simp⟩
 | [], c + 1, s, h => by cases h
 | o :: r, c + 1, s, h => by
  obtain ⟨q, h1, h2⟩ := need_suf r _ s h
  exact ⟨o :: q, by rw [h1]; rfl, by simp; omega⟩
theorem walk_need (t : List S41) : ∀ m, walkN t 0 = some m ↔ need t.reverse m = some [] := by
 suffices ∀ (r t : List S41), t.reverse = r → ∀ m, walkN t 0 = some m ↔ need r m = some [] from this _ t rfl
 intro r
 induction r with
 | nil =>
  intro t ht m
  have : t = [] := by simpa using ht
  subst this
  cases m with
  | zero => simp [walkN, need]
  | succ m => simp [walkN, need]
 | cons o r ih =>
  intro t ht m
  have e : t = r.reverse ++ [o] := by rw [← List.reverse_reverse t, ht]; simp
  subst e
  have hi := ih r.reverse (by simp)
  rw [walkN_app]
  cases hw : walkN r.reverse 0 with
  | none =>
   simp only [Option.bind_none]
   cases m with
   | zero => simp [need]
   | succ m =>
    simp only [need]
    have := hi (m + takes o.f0)
    rw [hw] at this
    simpa using this
  | some n =>
   simp only [Option.bind_some, walkN]
   cases m with
   | zero =>
    have := takes_le o.f0
    simp only [need]
    split
    · simp
    · simp; omega
   | succ m =>
    simp only [need]
    have := hi (m + takes o.f0)
    rw [hw] at this
    rw [← this]
    split
    · simp; omega
    · simp; omega
/-- Where the term begins that ends ahead of i, or -1. -/
def startI (t : List S41) (i : Nat) : Int := match need (t.take i).reverse 1 with | some s => (s.length : Int) | none => -1
theorem take_rev (t : List S41) (i : Nat) (hi : i < t.length) : (t.take (i + 1)).reverse = t.getD i z41 :: (t.take i).reverse := by
 rw [List.take_add_one, List.getD_eq_getElem?_getD, List.getElem?_eq_getElem hi]
 simp
/-- What is left of the first i is the first so many. -/
theorem need_take {t : List S41} {i c : Nat} {s : List S41} (hi : i ≤ t.length) (h : need (t.take i).reverse c = some s) : s = (t.take s.length).reverse ∧ s.length + c ≤ i := by
 obtain ⟨q, h1, h2⟩ := need_suf _ _ _ h
 have h3 : t.take i = s.reverse ++ q.reverse := by rw [← List.reverse_reverse (t.take i), h1]; simp
 have hl : i = s.length + q.length := by
  have := congrArg List.length h3
  simp at this; omega
 refine ⟨?_, by omega⟩
 have : t.take s.length = s.reverse := by
  have e : (t.take i).take s.length = t.take s.length := by rw [List.take_take]; congr 1; omega
  rw [← e, h3]
  exact List.take_left' (by simp)
 rw [this]; simp
theorem start_f (t : List S41) (hm : t.length ≤ 12) (hmay : ∀ o ∈ t, mayB o.f0 o.f1 = true) : ∀ (n i k : Nat), i ≤ n → i ≤ t.length → i < k → handshakerref07_start.f k (refT t) ((i : Int) - 1) = some (startI t i) := by
 intro n
 induction n with
 | zero =>
  intro i k hi hl hk
  obtain ⟨k, rfl⟩ : ∃ m, k = m + 1 := ⟨k - 1, by omega⟩
  have : i = 0 := by omega
  subst this
  simp only [handshakerref07_start.f]
  rw [if_pos (by omega)]
  simp [startI, need]
 | succ n ih =>
  intro i k hi hl hk
  obtain ⟨k, rfl⟩ : ∃ m, k = m + 1 := ⟨k - 1, by omega⟩
  cases i with
  | zero =>
   simp only [handshakerref07_start.f]
   rw [if_pos (by omega)]
   simp [startI, need]
  | succ i =>
   have ei : (((i + 1 : Nat) : Int) - 1) = (i : Int) := by omega
   rw [ei]
   simp only [handshakerref07_start.f]
   rw [if_neg (by omega), if_pos (by omega), if_pos (by rw [ref_len]; omega), ref_at t i (by omega), wr (by omega) (by omega), ih i k (by omega) (by omega) (by omega)]
   simp only [Option.bind_some]
   have hmo : mayB (t.getD i z41).f0 (t.getD i z41).f1 = true := hmay _ (by
    rw [List.getD_eq_getElem?_getD, List.getElem?_eq_getElem (by omega)]; exact List.getElem_mem _)
   have e1 : startI t (i + 1) = match need (t.take i).reverse (takes (t.getD i z41).f0) with | some s => (s.length : Int) | none => -1 := by
    unfold startI
    rw [take_rev t i (by omega)]
    simp only [need, Nat.zero_add]
   rw [e1]
   have htl : ((t.take i).reverse).length = i := by simp; omega
   generalize t.getD i z41 = o at hmo ⊢
   by_cases h3 : o.f0 ≤ 3
   · have ht : takes o.f0 = 0 := by unfold takes; rw [if_neg (by omega), if_neg (by omega)]
     rw [if_pos h3, ht, need_zero]
     simp only [htl]
   · rw [if_neg h3]
     have h11 : o.f0 ≤ 11 := by
      unfold mayB at hmo
      rw [if_neg (by omega), if_neg (by omega), if_neg (by omega)] at hmo
      have ht : takes o.f0 ≠ 0 := by
       intro e; rw [e] at hmo; simp at hmo
      unfold takes at ht
      split at ht
      · omega
      · split at ht
        · omega
        · simp at ht
     by_cases h : o.f0 = 11
     · have ht : takes o.f0 = 1 := by rw [h]; decide
       rw [ht, if_pos h]
       have : startI t i = match need (t.take i).reverse 1 with | some s => (s.length : Int) | none => -1 := rfl
       rw [← this]
       split <;> rfl
     · have ht : takes o.f0 = 2 := by unfold takes; rw [if_pos (by omega)]
       rw [ht, if_neg h, show (2 : Nat) = 1 + 1 from rfl, need_add]
       unfold startI
       cases hn : need (t.take i).reverse 1 with
       | none => simp
       | some s =>
        obtain ⟨e2, e3⟩ := need_take (by omega) hn
        simp only [Option.bind_some]
        rw [if_neg (by omega), wr (by omega) (by omega), ih s.length k (by omega) (by omega) (by omega)]
        simp only [Option.bind_some]
        have e4 : startI t s.length = match need s 1 with | some s => (s.length : Int) | none => -1 := by
         unfold startI
         rw [← e2]
        rw [e4]
theorem rCheck_l (t : List S41) (hm1 : 1 ≤ t.length) (hm : t.length ≤ 12) (d : Nat) : ∀ (k i : Nat), i ≤ t.length → t.length - i = d → d + 14 < k → (∀ o ∈ t.take i, mayB o.f0 o.f1 = true) →
 handshakerref07_Check.l0 k (refT t) (i : Int) = some (checkB t) := by
 induction d with
 | zero =>
  intro k i hi hd hk hma
  obtain ⟨k, rfl⟩ : ∃ m, k = m + 1 := ⟨k - 1, by omega⟩
  rw [List.take_of_length_le (by omega)] at hma
  simp only [handshakerref07_Check.l0]
  rw [if_neg (by rw [ref_len]; omega), ref_len, wr (by omega) (by omega), start_f t hm hma t.length t.length k (by omega) (by omega) (by omega)]
  simp only [Option.bind_some]
  have hall : mayAll t = true := by unfold mayAll; exact List.all_eq_true.2 hma
  have ec : checkB t = if walkN t 0 = some 1 then 0 else 2 := by
   unfold checkB
   rw [if_pos ⟨hm1, hm, hall⟩]
  rw [ec]
  unfold startI
  rw [List.take_of_length_le (by omega)]
  have hwn := walk_need t 1
  by_cases hw : walkN t 0 = some 1
  · rw [if_pos hw, hwn.1 hw]; rfl
  · rw [if_neg hw]
    have h2 : need t.reverse 1 ≠ some [] := fun e => hw (hwn.2 e)
    cases hn : need t.reverse 1 with
    | none => rw [if_neg (by decide)]
    | some s =>
     rw [hn] at h2
     have : s ≠ [] := fun e => h2 (by rw [e])
     have : 0 < s.length := List.length_pos_iff.2 this
     rw [if_neg (by simp only; omega)]
 | succ d ih =>
  intro k i hi hd hk hma
  obtain ⟨k, rfl⟩ : ∃ m, k = m + 1 := ⟨k - 1, by omega⟩
  simp only [handshakerref07_Check.l0]
  rw [if_pos (by rw [ref_len]; omega), if_pos (by omega), ref_at t i (by omega), one_f, wrN (by omega)]
  simp only [Option.bind_some, cv]
  have hmem : t.getD i z41 ∈ t := by
   rw [List.getD_eq_getElem?_getD, List.getElem?_eq_getElem (by omega)]; exact List.getElem_mem _
  by_cases ho : mayB (t.getD i z41).f0 (t.getD i z41).f1 = true
  · rw [if_pos ho]
    refine ih k (i + 1) (by omega) (by omega) (by omega) fun o h => ?_
    rw [List.take_add_one, List.getElem?_eq_getElem (by omega)] at h
    rcases List.mem_append.1 h with h | h
    · exact hma o h
    · have : o = t.getD i z41 := by
       rw [List.getD_eq_getElem?_getD, List.getElem?_eq_getElem (by omega)]
       simpa using h
      rw [this]; exact ho
  · rw [if_neg ho]
    unfold checkB
    rw [if_neg]
    intro e
    exact ho (List.all_eq_true.1 e.2.2 _ hmem)
theorem rCheck_f (k : Nat) (t : List S41) (hk : 40 ≤ k) : handshakerref07_Check.f k (refT t) = some (checkB t) := by
 obtain ⟨k, rfl⟩ : ∃ q, k = q + 1 := ⟨k - 1, by omega⟩
 unfold handshakerref07_Check.f
 simp only [handshakerref07_Check.j0]
 rw [ref_len]
 by_cases h1 : t.length < 1
 · rw [if_pos (by omega), if_pos trivial]
   unfold checkB
   rw [if_neg (by omega)]
 · rw [if_neg (by omega)]
   by_cases h2 : t.length > 12
   · rw [if_pos (by simp; omega)]
     unfold checkB
     rw [if_neg (by omega)]
   · rw [if_neg (by simp; omega)]
     exact rCheck_l t (by omega) (by omega) t.length k 0 (by omega) (by omega) (by omega) (by simp)
/-! ### the cells that the document names -/
def refCells (t : List S41) : List Int := ((List.range 64).filter fun c => t.any fun o => o.f0 == 2 && o.f1 == ((c : Nat) : Int)).map fun c => ((c : Nat) : Int)
theorem rCells_l1 (t : List S41) (hm : t.length ≤ 12) (c K : Nat) (out : List Int) (r : Option (List Int)) (ho : out.length < 4611686018427) (he : ∀ k, K < k → handshakerref07_Cells.l0 k (refT t) (if (t.any fun o => o.f0 == 2 && o.f1 == (c : Int)) = true then out ++ [(c : Int)] else out) (wrap64 ((c : Int) + 1)) = r) (d : Nat) : ∀ (k i : Nat) (b : Bool), i ≤ t.length → t.length - i = d → d + K + 1 < k → b = ((t.take i).any fun o => o.f0 == 2 && o.f1 == (c : Int)) →
 handshakerref07_Cells.l1 k (refT t) out (c : Int) b (i : Int) = r := by
 induction d with
 | zero =>
  intro k i b hi hd hk hb
  obtain ⟨k, rfl⟩ : ∃ m, k = m + 1 := ⟨k - 1, by omega⟩
  rw [List.take_of_length_le (by omega)] at hb
  have he' := he k (by omega)
  simp only [handshakerref07_Cells.l1]
  rw [if_neg (by rw [ref_len]; omega)]
  cases b with
  | true =>
   rw [if_pos hb.symm] at he'
   rw [if_pos rfl, if_pos (by omega)]
   exact he'
  | false =>
   rw [if_neg (by rw [← hb]; decide)] at he'
   rw [if_neg (by decide)]
   exact he'
 | succ d ih =>
  intro k i b hi hd hk hb
  obtain ⟨k, rfl⟩ : ∃ m, k = m + 1 := ⟨k - 1, by omega⟩
  have et := take_sn t i (by omega)
  have en : ((t.take (i + 1)).any fun o => o.f0 == 2 && o.f1 == (c : Int)) = (b || ((t.getD i z41).f0 == 2 && (t.getD i z41).f1 == (c : Int))) := by
   rw [et, List.any_append, ← hb]; simp
  simp only [handshakerref07_Cells.l1]
  rw [if_pos (by rw [ref_len]; omega), wrN (by omega), ref_at t i (by omega)]
  generalize t.getD i z41 = o at *
  cases b with
  | true =>
   rw [if_pos rfl]
   exact ih k (i + 1) true (by omega) (by omega) (by omega) (by rw [en]; rfl)
  | false =>
   rw [if_neg (by decide), if_pos (by omega)]
   by_cases h2 : o.f0 = 2
   · rw [if_pos (show (cv o).f0 = 2 from h2)]
     exact ih k (i + 1) _ (by omega) (by omega) (by omega) (by rw [en, h2]; simp)
   · rw [if_neg (show ¬ (cv o).f0 = 2 from h2)]
     exact ih k (i + 1) _ (by omega) (by omega) (by omega) (by rw [en, show (o.f0 == 2) = false from beq_eq_false_iff_ne.2 h2]; rfl)
theorem rCells_l0 (t : List S41) (hm : t.length ≤ 12) (d : Nat) : ∀ (k c : Nat), c ≤ 64 → 64 - c = d → 20 * d + 20 < k →
 handshakerref07_Cells.l0 k (refT t) (((List.range c).filter fun c => t.any fun o => o.f0 == 2 && o.f1 == ((c : Nat) : Int)).map fun c => ((c : Nat) : Int)) (c : Int) = some (refCells t) := by
 induction d with
 | zero =>
  intro k c hc hd hk
  obtain ⟨k, rfl⟩ : ∃ m, k = m + 1 := ⟨k - 1, by omega⟩
  have : c = 64 := by omega
  subst this
  simp only [handshakerref07_Cells.l0]
  rw [if_neg (by omega)]
  rfl
 | succ d ih =>
  intro k c hc hd hk
  obtain ⟨k, rfl⟩ : ∃ m, k = m + 1 := ⟨k - 1, by omega⟩
  simp only [handshakerref07_Cells.l0]
  rw [if_pos (by omega)]
  refine rCells_l1 t hm c (20 * d + 20) _ _ ?_ (fun k hk => ?_) t.length k 0 false (by omega) (by omega) (by omega) (by simp)
  · rw [List.length_map]
    refine Nat.lt_of_le_of_lt (List.length_filter_le _ _) ?_
    rw [List.length_range]; omega
  · rw [wrN (by omega), ← ih k (c + 1) (by omega) (by omega) hk, List.range_succ, List.filter_append, List.map_append]
    by_cases hx : (t.any fun o => o.f0 == 2 && o.f1 == (c : Int)) = true
    · rw [if_pos hx]; simp only [List.filter_cons, hx, if_true, List.filter_nil, List.map_cons, List.map_nil]
    · rw [if_neg hx]; simp only [List.filter_cons, hx, List.filter_nil, List.map_nil, List.append_nil, if_false, Bool.false_eq_true]
theorem rCells_f (k : Nat) (t : List S41) (hk : 1400 < k) : handshakerref07_Cells.f k (refT t) = some (if checkB t = 0 then refCells t else []) := by
 unfold handshakerref07_Cells.f
 rw [rCheck_f k t (by omega)]
 simp only [Option.bind_some]
 by_cases h1 : checkB t = 0
 · rw [if_pos h1, if_pos h1]
   obtain ⟨c1, c2, c3, c4⟩ := checkB_ok h1
   exact rCells_l0 t c2 64 k 0 (by omega) (by omega) (by omega)
 · rw [if_neg h1, if_neg h1]
/-- Rows that rise and have the same elements are the same. -/
theorem rise_ext : ∀ (a b : List Int), a.Pairwise (· < ·) → b.Pairwise (· < ·) → (∀ x, x ∈ a ↔ x ∈ b) → a = b
 | [], [], _, _, _ => rfl
 | [], y :: b, _, _, h => by have := (h y).2 (by simp); simp at this
 | x :: a, [], _, _, h => by have := (h x).1 (by simp); simp at this
 | x :: a, y :: b, ha, hb, h => by
  obtain ⟨a1, a2⟩ := List.pairwise_cons.1 ha
  obtain ⟨b1, b2⟩ := List.pairwise_cons.1 hb
  have exy : x = y := by
   rcases List.mem_cons.1 ((h x).1 (by simp)) with e | e
   · exact e
   · rcases List.mem_cons.1 ((h y).2 (by simp)) with e2 | e2
     · exact e2.symm
     · have := a1 y e2
       have := b1 x e
       omega
  subst exy
  rw [rise_ext a b a2 b2 fun z => ?_]
  constructor
  · intro hz
    rcases List.mem_cons.1 ((h z).1 (by simp [hz])) with e | e
    · have := a1 z hz; omega
    · exact e
  · intro hz
    rcases List.mem_cons.1 ((h z).2 (by simp [hz])) with e | e
    · have := b1 z hz; omega
    · exact e
theorem mem_comp (l : List Int) (x : Int) : x ∈ Go.Lib.compact l ↔ x ∈ l := by
 constructor
 · intro h
   unfold Go.Lib.compact Go.Lib.compactUpTo at h
   obtain ⟨i, hi, rfl⟩ := List.mem_map.1 h
   have hi' : i < l.length := List.mem_range.1 (List.mem_filter.1 hi).1
   simp [getElem!_pos, hi']
 intro h
 have key : ∀ i : Nat, i < l.length → ∃ j, j ≤ i ∧ Go.Lib.keeps l.toArray j = true ∧ l.toArray[j]! = l.toArray[i]! := by
  intro i
  induction i with
  | zero => intro _; exact ⟨0, by omega, by simp [Go.Lib.keeps], rfl⟩
  | succ i ih =>
   intro hi
   by_cases e : l.toArray[i + 1]! = l.toArray[i]!
   · obtain ⟨j, h1, h2, h3⟩ := ih (by omega)
     exact ⟨j, by omega, h2, h3.trans e.symm⟩
   · exact ⟨i + 1, by omega, by unfold Go.Lib.keeps; exact decide_eq_true (.inr (by simpa using e)), rfl⟩
 obtain ⟨i, hi, rfl⟩ := List.mem_iff_getElem.1 h
 obtain ⟨j, h1, h2, h3⟩ := key i hi
 unfold Go.Lib.compact Go.Lib.compactUpTo
 refine List.mem_map.2 ⟨j, List.mem_filter.2 ⟨List.mem_range.2 (by omega), h2⟩, ?_⟩
 rw [h3]
 simp [getElem!_pos, hi]
theorem comp_rise (l : List Int) (hs : l.Pairwise (· ≤ ·)) : (Go.Lib.compact l).Pairwise (· < ·) := by
 unfold Go.Lib.compact Go.Lib.compactUpTo
 rw [List.pairwise_map]
 have hp : (List.range l.length).Pairwise (· < ·) := List.pairwise_lt_range
 have hp2 := List.Pairwise.filter (Go.Lib.keeps l.toArray) hp
 refine List.Pairwise.imp_of_mem ?_ hp2
 intro i j hi hj hij
 have hi1 : i < l.length := List.mem_range.1 (List.mem_filter.1 hi).1
 have hj1 : j < l.length := List.mem_range.1 (List.mem_filter.1 hj).1
 have hk := (List.mem_filter.1 hj).2
 unfold Go.Lib.keeps at hk
 have hk := of_decide_eq_true hk
 have hne : l.toArray[j]! ≠ l.toArray[j - 1]! := by
  rcases hk with h | h
  · omega
  · exact h
 have hget := List.pairwise_iff_getElem.1 hs
 have e1 : ∀ q, (hq : q < l.length) → l.toArray[q]! = l[q] := fun q hq => by simp [getElem!_pos, hq]
 rw [e1 j hj1, e1 (j - 1) (by omega)] at hne
 rw [e1 i hi1, e1 j hj1]
 have h1 : l[j - 1] ≤ l[j] := hget (j - 1) j (by omega) hj1 (by omega)
 have h2 : l[i] ≤ l[j - 1] := by
  by_cases e : i = j - 1
  · subst e; exact Int.le_refl _
  · exact hget i (j - 1) hi1 (by omega) (by omega)
 omega
theorem cells_same (t : List S41) : cellsB t = if checkB t = 0 then refCells t else [] := by
 unfold cellsB
 by_cases h1 : checkB t = 0
 · rw [if_pos h1, if_pos h1]
   obtain ⟨c1, c2, c3, c4⟩ := checkB_ok h1
   refine rise_ext _ _ (comp_rise _ ?_) ?_ fun x => ?_
   · have := List.pairwise_mergeSort (le := fun x y : Int => decide (x ≤ y)) (by intro a b c; simp; omega) (by intro a b; simp; omega) (cellsL t)
     exact this.imp fun h => of_decide_eq_true h
   · unfold refCells
     rw [List.pairwise_map]
     exact (List.Pairwise.filter _ List.pairwise_lt_range).imp fun h => by omega
   · rw [mem_comp, List.mem_mergeSort]
     unfold cellsL refCells
     simp only [List.mem_map, List.mem_filter, List.mem_range, List.any_eq_true, Bool.and_eq_true, beq_iff_eq]
     constructor
     · rintro ⟨o, ⟨h2, h3⟩, rfl⟩
       have hmo := c3 o h2
       unfold mayB at hmo
       rw [if_neg (by omega), if_pos h3] at hmo
       have hmo := of_decide_eq_true hmo
       exact ⟨o.f1.toNat, ⟨by omega, o, h2, h3, by omega⟩, by omega⟩
     · rintro ⟨c, ⟨h2, o, h3, h4, h5⟩, rfl⟩
       exact ⟨o, ⟨h3, h4⟩, h5⟩
 · rw [if_neg h1, if_neg h1]
theorem Numbers_l (l : List Int) (hm : l.length < 4398046511104) (d : Nat) : ∀ (k i : Nat), i ≤ l.length → l.length - i = d → d < k → handshakerref03_Numbers.l0 k l l (i : Int) = some true := by
 induction d with
 | zero =>
  intro k i hi hd hk
  obtain ⟨k, rfl⟩ : ∃ m, k = m + 1 := ⟨k - 1, by omega⟩
  simp only [handshakerref03_Numbers.l0]
  rw [if_neg (by omega)]
 | succ d ih =>
  intro k i hi hd hk
  obtain ⟨k, rfl⟩ : ∃ m, k = m + 1 := ⟨k - 1, by omega⟩
  simp only [handshakerref03_Numbers.l0]
  rw [if_pos (by omega), if_pos (by omega), if_pos (by omega), if_pos trivial, wrN (by omega)]
  exact ih k (i + 1) (by omega) (by omega) (by omega)
theorem Numbers_f (k : Nat) (l : List Int) (hm : l.length < 4398046511104) (hk : l.length < k) : handshakerref03_Numbers.f k l l = some true := by
 unfold handshakerref03_Numbers.f
 rw [if_pos rfl]
 exact Numbers_l l hm l.length k 0 (by omega) (by omega) (by omega)
end Go.Proofs.Ytbcpnbmegaodbaa.Ct
