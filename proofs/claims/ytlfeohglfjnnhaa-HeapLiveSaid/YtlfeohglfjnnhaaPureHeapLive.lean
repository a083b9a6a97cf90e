/-
  PROVED: the cells that are Live are just those that are got and written, for every list of cells and every int32. Condition: each argument is of its kind; nothing else.
-/
import Derived.Test.YtlfeohglfjnnhaaHpLem
import Derived.Test.YtlfeohglfjnnhaaHpRef
import Derived.Test.YtlfeohglfjnnhaaHpx10
namespace Go.Proofs.Ytlfeohglfjnnhaa.Hp
open Go.RowKit Go.Proofs.YtlfeohglfjnnhaaW.PrintWords Go.Proofs.YtlfeohglfjnnhaaW.PrintLast Go.Proofs.YtlfeohglfjnnhaaW.PrintMore Go.Proofs.Ytlfeohglfjnnhaa.Ho
set_option linter.unusedVariables false
set_option linter.unusedSimpArgs false
/-- One write, of a cell of a heap. -/
theorem put_one (h : List S59) (c v : Int) (hr : RightB h = true) (hv : inR v = true) : (putB h [⟨c, v⟩]).2 = if there h c = true then 0 else 3 := by
  unfold putB
  rw [if_pos ⟨hr, by simp [hv]⟩]
  simp only [putL]
  split <;> rfl
theorem live_get (h : List S59) : ∀ (i : Nat) (x : Int) (rest : List Int), i < h.length → liveI (h.drop i) x = if (h.getD i z59).f0 = true then x :: liveI (h.drop (i + 1)) (x + 1) else liveI (h.drop (i + 1)) (x + 1) := by
  intro i x rest hi
  rw [drop_cons h z59 i hi]
  rfl
theorem live_l (h : List S59) (a1 v : Int) (ha : wrap64 a1 = v) (hv : inR v = true) (hr : RightB h = true) (d : Nat) : ∀ (k i : Nat) (pre : List Int), i ≤ h.length → h.length - i = d → 2 * d + 140 < k → pre.length ≤ i → liveB h = pre ++ liveI (h.drop i) i →
    handshakerlaw02_HeapLive.l0 k h a1 (liveB h) (pre.length : Int) (h.length : Int) (i : Int) = some true := by
  obtain ⟨hr1, hr2, hr3⟩ := Right_len hr
  induction d with
  | zero =>
    intro k i pre hi hd hk hp hL
    obtain ⟨k, rfl⟩ : ∃ m, k = m + 2 := ⟨k - 2, by omega⟩
    rw [List.drop_of_length_le (by omega)] at hL
    simp only [liveI, List.append_nil] at hL
    simp only [handshakerlaw02_HeapLive.l0]
    rw [if_neg (by omega), ha, Alloc_f]
    simp only [Option.bind_some]
    have hal := allocB_len h v
    rw [Live_f _ _ (by omega) (by omega)]
    simp only [Option.bind_some]
    rw [if_pos (by rw [hL]), awake_ok _ (by omega)]
    simp only [Option.bind_some]
    have hn : (liveB (allocB h v).1).length ≤ h.length := by
      unfold liveB; split
      · have := liveI_len (allocB h v).1 0; omega
      · simp
    rw [wr (by omega) (by omega)]
    -- is there room?
    rcases idxT_cases (fun x : S59 => !x.f0) z59 h 0 with ⟨e, he⟩ | ⟨j, hj, e, hjp, hjb⟩
    · have e2 : allocB h v = (h, 0, 4) := by
        unfold allocB freeI
        rw [if_pos ⟨hr, hv⟩, if_pos (by omega)]
      rw [e2]
      rw [if_neg (by simp), if_pos rfl, if_pos (by rw [hL]; omega), if_pos ?_]
      -- all are Live: as many as there are cells
      have hall : ∀ (l : List S59) (x : Int), (∀ y ∈ l, (!y.f0) = false) → (liveI l x).length = l.length := by
        intro l
        induction l with
        | nil => intro x _; rfl
        | cons y ys ihl =>
          intro x hy
          have h1 : y.f0 = true := by simpa using hy y (by simp)
          simp only [liveI, if_pos h1, List.length_cons]
          rw [ihl (x + 1) (fun q hq => hy q (by simp [hq]))]
      have h3 : (liveB h).length = h.length := by
        unfold liveB; rw [if_pos hr]; exact hall h 0 he
      rw [← h3, hL]
    · have ef : freeI h = (j : Int) := by unfold freeI; omega
      have e2 : allocB h v = (h.set j ⟨true, v⟩, (j : Int), 0) := by
        unfold allocB
        rw [if_pos ⟨hr, hv⟩, ef, if_neg (by omega)]; rfl
      have hset : ∀ (l : List S59) (q : Nat) (x : Int), q < l.length → (l.getD q z59).f0 = false → (liveI (l.set q ⟨true, v⟩) x).length = (liveI l x).length + 1 := by
        intro l
        induction l with
        | nil => intro q x hq; simp at hq
        | cons y ys ihl =>
          intro q x hq hf
          cases q with
          | zero =>
            have h1 : ¬ y.f0 = true := by
              have h0 : y.f0 = false := by simpa using hf
              simp [h0]
            simp only [List.set_cons_zero, liveI, if_true, if_neg h1, List.length_cons]
          | succ q =>
            simp only [List.set_cons_succ, liveI]
            have := ihl q (x + 1) (by simpa using hq) (by simpa using hf)
            split <;> simp [this]
      have hr' : RightB (h.set j ⟨true, v⟩) = true := by
        refine RightB_of (by simpa using hr1) (by simpa using hr2) fun q hq => ?_
        rw [getD_set _ _ _ _ hj]
        split
        · simp [okC, hv]
        · exact okC_get hr q (by simpa using hq)
      have h3 : (liveB (h.set j ⟨true, v⟩)).length = (liveB h).length + 1 := by
        unfold liveB
        rw [if_pos hr', if_pos hr]
        exact hset h j 0 hj (by simpa using hjp)
      rw [e2, if_pos rfl, if_pos]
      rw [h3, hL]; omega
  | succ d ih =>
    intro k i pre hi hd hk hp hL
    obtain ⟨k, rfl⟩ : ∃ m, k = m + 2 := ⟨k - 2, by omega⟩
    simp only [handshakerlaw02_HeapLive.l0]
    rw [if_pos (by omega), Get_f, Put_f _ _ _ (by simp) (by simp; omega), ha]
    simp only [Option.bind_some]
    rw [put_one h i v hr hv]
    rw [live_get h i i [] (by omega)] at hL
    by_cases hl : (h.getD i z59).f0 = true
    · have ht : there h (i : Int) = true := by
        unfold there
        rw [decide_eq_true (by omega)]; exact hl
      have hg : getB h (i : Int) = ((h.getD i z59).f1, 0) := by
        unfold getB
        rw [if_pos hr, if_pos ht]; rfl
      rw [hg, if_pos rfl, if_pos ht, if_pos rfl, if_pos (by omega), if_pos (by omega)]
      rw [if_pos hl] at hL
      simp only [handshakerlaw02_HeapLive.j2]
      have hlen : pre.length < (liveB h).length := by rw [hL]; simp
      have hx : rd (liveB h) (pre.length : Int) = (i : Int) := by
        unfold rd
        rw [hL]
        simp
      rw [if_neg (by rw [show rd_T59 h (i : Int) = h.getD i z59 from rfl]; simp), if_pos trivial, if_neg (by omega), if_pos (by omega), if_pos (by omega), if_pos hx, wrN (by omega), wrN (by omega)]
      have := ih k (i + 1) (pre ++ [(i : Int)]) (by omega) (by omega) (by omega) (by simp; omega) (by rw [hL]; simp)
      simpa using this
    · have ht : ¬ there h (i : Int) = true := by
        intro e; exact hl (there_rng e).2.2
      have hg : getB h (i : Int) = (0, 3) := by
        unfold getB
        rw [if_pos hr, if_neg ht]
      rw [hg, if_neg (by decide), if_neg ht, if_neg (by decide)]
      rw [if_neg hl] at hL
      simp only [handshakerlaw02_HeapLive.j2]
      rw [if_neg (by decide), if_neg (by decide), wrN (by omega)]
      exact ih k (i + 1) pre (by omega) (by omega) (by omega) (by omega) hL
theorem HeapLive : handshakerlaw02_HeapLive.Pure := by
  intro h a1 _ _ _ ha
  have ha' : -2147483648 ≤ a1 ∧ a1 ≤ 2147483647 := by simpa [Lit.wf, IntKind.bits, IntKind.signed, IntKind.min, IntKind.max] using ha
  have hw : wrap64 a1 = a1 := wr (by omega) (by omega)
  have hv : inR a1 = true := by simp [inR, ha'.1, ha'.2]
  by_cases h1 : (h.length : Int) > 64
  · refine ⟨62, ?_⟩
    unfold handshakerlaw02_HeapLive.f
    rw [if_pos h1]; simp only [handshakerlaw02_HeapLive.j0]
    rw [if_pos trivial, awake_ok _ (by omega)]; rfl
  by_cases hr : RightB h = true
  · refine ⟨302, ?_⟩
    generalize hK : (302 : Nat) = K
    obtain ⟨K, rfl⟩ : ∃ q, K = q + 1 := ⟨K - 1, by omega⟩
    unfold handshakerlaw02_HeapLive.f
    rw [if_neg h1, Right_f]
    simp only [Option.bind_some, hr, Bool.not_true, handshakerlaw02_HeapLive.j0]
    rw [if_neg (by simp), Live_f _ _ (by omega) (by omega)]
    simp only [Option.bind_some]
    have := live_l h a1 a1 hw hv hr h.length K 0 [] (by omega) (by omega) (by omega) (by simp) (by unfold liveB; rw [if_pos hr]; rfl)
    simpa using this
  · refine ⟨62, ?_⟩
    unfold handshakerlaw02_HeapLive.f
    rw [if_neg h1, Right_f]
    have : RightB h = false := by simpa using hr
    simp only [Option.bind_some, this, handshakerlaw02_HeapLive.j0]
    rw [if_pos (by simp), awake_ok _ (by omega)]; rfl
end Go.Proofs.Ytlfeohglfjnnhaa.Hp
namespace Go.Proofs.Ytlfeohglfjnnhaa.Pure
theorem HeapLive : Go.Proofs.Ytlfeohglfjnnhaa.Hp.handshakerlaw02_HeapLive.Pure := Go.Proofs.Ytlfeohglfjnnhaa.Hp.HeapLive
end Go.Proofs.Ytlfeohglfjnnhaa.Pure
