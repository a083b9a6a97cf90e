/-
 PROVED: what wakes one of Other wakes one of Any that watches the same; of a cell that nobody watches nobody is woken; written just as they watched those of Other sleep on; for all cells, heaps, writes and numbers. Condition: each argument is of its kind; nothing else.
-/
import Derived.Test.YtjnkpocfmpbpoaaFLem6
import Derived.Test.YtjnkpocfmpbpoaaFx14
namespace Go.Proofs.Ytjnkpocfmpbpoaa.F
open Go.RowKit Go.Proofs.YtjnkpocfmpbpoaaW.PrintWords Go.Proofs.YtjnkpocfmpbpoaaW.PrintLast Go.Proofs.YtjnkpocfmpbpoaaW.PrintMore Go.Proofs.Ytjnkpocfmpbpoaa.Ho
set_option linter.unusedVariables false
set_option linter.unusedSimpArgs false
/-! ### one of Other, one of Any -/
theorem watch_asc {w : List Wr} (h : watchB w = true) : ∀ j i, i < j → j < w.length → (w.getD i z62).f0 < (w.getD j z62).f0 := by
 intro j
 induction j with
 | zero => intro i hi; omega
 | succ j ih =>
  intro i hi hj
  have a := ((watchB_iff w).1 h).2 (j + 1) hj
  have b := a.2.2 (by omega)
  rw [Nat.add_sub_cancel] at b
  by_cases e : i = j
  · rw [e]; exact b
  · have := ih i (by omega) (by omega); omega
theorem watch_uniq {w : List Wr} (h : watchB w = true) {a b : Wr} (ha : a ∈ w) (hb : b ∈ w) (e : a.f0 = b.f0) : a = b := by
 have at_ : ∀ x ∈ w, ∃ i, i < w.length ∧ w.getD i z62 = x := fun x hx => by
  obtain ⟨i, hi, rfl⟩ := List.mem_iff_getElem.1 hx
  exact ⟨i, hi, by rw [List.getD_eq_getElem?_getD, List.getElem?_eq_getElem hi]; rfl⟩
 obtain ⟨i, hi, rfl⟩ := at_ a ha
 obtain ⟨j, hj, rfl⟩ := at_ b hb
 rcases Nat.lt_trichotomy i j with q | q | q
 · have := watch_asc h j i q hj; omega
 · rw [q]
 · have := watch_asc h i j q hi; omega
theorem maySp_watch {s : Sp} (h : maySp s = true) : watchB s.f3 = true := by
 unfold maySp at h
 simp only [Bool.and_eq_true] at h
 exact h.2.2.1
theorem other_put {s : Sp} (hs : maySp s = true) (h2 : s.f1 = 2) {h : List Cl} (he : (putB h s.f3).2 = 0) : goB s (putB h s.f3).1 = false := by
 unfold goB
 rw [if_neg (by omega), if_pos h2, Bool.eq_false_iff]
 intro g
 obtain ⟨w, hw, c⟩ := List.any_eq_true.1 g
 unfold chgW at c
 rw [put_get he hw (fun u hu e => by rw [watch_uniq (maySp_watch hs) hu hw e])] at c
 simp at c
def meets (w : List Wr) (x : Wr) : Bool := w.any fun y => x.f0 == y.f0
theorem not_met {s : Sp} {w : List Wr} (h : w.any (meets s.f3) = false) : isOf (w.map fun x => x.f0) s = false := by
 rw [Bool.eq_false_iff] at h ⊢
 intro g
 apply h
 unfold isOf at g
 obtain ⟨y, hy, c⟩ := List.any_eq_true.1 g
 obtain ⟨x, hx, e⟩ := List.mem_map.1 (List.contains_iff_mem.1 c)
 exact List.any_eq_true.2 ⟨x, hx, List.any_eq_true.2 ⟨y, hy, by simpa using e⟩⟩
theorem Modes_l1 (w : List Wr) (h : List Cl) (o : List Sp) (a : List Int) (ws : List Wr) (i : Nat) (c v : Int) (hm : w.length ≤ 24) (B : Nat) (d : Nat) : ∀ (k j : Nat) (m : Bool), j ≤ w.length → w.length - j = d → d + B < k →
 (∀ k', B ≤ k' → handshakerlaw16_FilterModes.l0 k' w h o a (m || (w.drop j).any fun y => c == y.f0) ws (ws.length : Int) (wrap64 ((i : Int) + 1)) = some true) →
 handshakerlaw16_FilterModes.l1 k w h o a m ws (ws.length : Int) (i : Int) w (w.length : Int) (j : Int) c v = some true := by
 induction d with
 | zero =>
  intro k j m hi hd hk hc
  obtain ⟨k, rfl⟩ : ∃ m, k = m + 1 := ⟨k - 1, by omega⟩
  have := hc k (by omega)
  rw [List.drop_of_length_le (by omega), List.any_nil, Bool.or_false] at this
  simp only [handshakerlaw16_FilterModes.l1]
  rw [if_neg (by omega)]
  exact this
 | succ d ih =>
  intro k j m hi hd hk hc
  obtain ⟨k, rfl⟩ : ∃ m, k = m + 1 := ⟨k - 1, by omega⟩
  rw [drop_cons w z62 j (by omega), List.any_cons, ← Bool.or_assoc] at hc
  simp only [handshakerlaw16_FilterModes.l1]
  rw [if_pos (by omega), if_pos (by omega), if_pos (by omega), show wrap64 ((j : Int) + 1) = ((j + 1 : Nat) : Int) from wrN (by omega), show rd_T62 w (j : Int) = w.getD j z62 from rfl]
  cases m with
  | true =>
   rw [if_pos rfl]
   exact ih k (j + 1) true (by omega) (by omega) (by omega) (fun k' hk' => by have := hc k' hk'; rwa [Bool.true_or] at this)
  | false =>
   rw [if_neg (by decide)]
   exact ih k (j + 1) _ (by omega) (by omega) (by omega) (fun k' hk' => by have := hc k' hk'; rwa [Bool.false_or] at this)
theorem Modes_l0 (w : List Wr) (h : List Cl) (o : List Sp) (a : List Int) (ws : List Wr) (hm : w.length ≤ 24) (hm2 : ws.length ≤ 40) (hz : ∀ k, 2200 ≤ k → handshakerlaw16_FilterModes.j4 k w h o false = some true)
 (hn : ws.any (meets w) = false → a = []) (d : Nat) : ∀ (k i : Nat), i ≤ ws.length → ws.length - i = d → 30 * d + 2300 < k →
 handshakerlaw16_FilterModes.l0 k w h o a ((ws.take i).any (meets w)) ws (ws.length : Int) (i : Int) = some true := by
 induction d with
 | zero =>
  intro k i hi hd hk
  obtain ⟨k, rfl⟩ : ∃ m, k = m + 1 := ⟨k - 1, by omega⟩
  rw [List.take_of_length_le (by omega)]
  simp only [handshakerlaw16_FilterModes.l0]
  rw [if_neg (by omega)]
  cases e : ws.any (meets w) with
  | true => rw [if_pos rfl]; exact hz k (by omega)
  | false => rw [if_neg (by decide), hn e]; exact hz k (by omega)
 | succ d ih =>
  intro k i hi hd hk
  obtain ⟨k, rfl⟩ : ∃ m, k = m + 1 := ⟨k - 1, by omega⟩
  simp only [handshakerlaw16_FilterModes.l0]
  rw [if_pos (by omega), if_pos (by omega), if_pos (by omega), show rd_T62 ws (i : Int) = ws.getD i z62 from rfl]
  obtain ⟨B, hB⟩ : ∃ B, B = 30 * d + 2301 := ⟨_, rfl⟩
  refine Modes_l1 w h o a ws i _ _ hm B w.length k 0 _ (by omega) (by omega) (by omega) (fun k' hk' => ?_)
  have next := ih k' (i + 1) (by omega) (by omega) (by omega)
  rw [take_snG ws z62 i (by omega), List.any_append] at next
  rw [wrN (by omega)]
  simp only [List.any_cons, List.any_nil, Bool.or_false] at next
  exact next
theorem FilterModes : handshakerlaw16_FilterModes.Pure := by
 intro w h ws a3 _ _ _ _ _ _ _ _ _ w3
 have h3 : 0 ≤ a3 ∧ a3 ≤ 255 := by simpa [Lit.wf, IntKind.bits, IntKind.signed, IntKind.min, IntKind.max] using w3
 refine ⟨6000, ?_⟩
 generalize hK : (6000 : Nat) = K
 unfold handshakerlaw16_FilterModes.f
 obtain ⟨K, rfl⟩ : ∃ m, K = m + 1 := ⟨K - 1, by omega⟩
 have aw : handshakerlaw16_FilterModes.j0 (K + 1) w h ws a3 true = some true := by
  simp only [handshakerlaw16_FilterModes.j0]
  rw [if_pos trivial, awake16 K (by omega)]; rfl
 by_cases g1 : (w.length : Int) > 24
 · rw [if_pos g1]; exact aw
 rw [if_neg g1]
 by_cases g2 : (h.length : Int) > 64
 · rw [if_pos g2]; exact aw
 rw [if_neg g2]
 by_cases g3 : (ws.length : Int) > 40
 · rw [decide_eq_true g3]; exact aw
 rw [decide_eq_false g3]
 simp only [handshakerlaw16_FilterModes.j0]
 rw [if_neg (by decide)]
 generalize wrap64 (1 + (wrap64 (Int.tmod a3 8))) = n
 obtain ⟨s1, e1⟩ : ∃ s : Sp, s = ⟨n, 1, 0, w, []⟩ := ⟨_, rfl⟩
 obtain ⟨s2, e2⟩ : ∃ s : Sp, s = ⟨n, 2, 0, w, []⟩ := ⟨_, rfl⟩
 have f1 : Few1 s1 := by rw [e1]; exact ⟨by show w.length ≤ 40; omega, by show 0 ≤ 20; omega⟩
 have f2 : Few1 s2 := by rw [e2]; exact ⟨by show w.length ≤ 40; omega, by show 0 ≤ 20; omega⟩
 have F1 : FewS [s1] := ⟨by simp, fun x hx => by rw [List.mem_singleton.1 hx]; exact f1⟩
 have F2 : FewS [s2] := ⟨by simp, fun x hx => by rw [List.mem_singleton.1 hx]; exact f2⟩
 rw [← e1, ← e2]
 have m12 : maySp s1 = maySp s2 := by rw [e1, e2]; rfl
 have o12 : ∀ c, isOf c s1 = isOf c s2 := fun c => by rw [e1, e2]; rfl
 have x1 : s1.f3 = w := by rw [e1]
 have x2 : s2.f3 = w := by rw [e2]
 have y2 : s2.f1 = 2 := by rw [e2]
 have z1 : s1.f1 = 1 := by rw [e1]
 clear e1 e2
 simp only [Option.bind_some]
 rw [Woken_f K [s1] h ws F1 (by omega) (by omega), Woken_f K [s2] h ws F2 (by omega) (by omega)]
 simp only [Option.bind_some]
 have wk : ∀ (s : Sp) (g : List Cl) (u : List Wr), wokenB [s] g u = if wakes u g s = true then [s.f0] else [] := fun s g u => by
  unfold wokenB
  rw [rightS_one, List.filter_cons, List.filter_nil]
  by_cases q : wakes u g s = true
  · have : maySp s = true := by
     unfold wakes mayF at q
     simp only [Bool.and_eq_true] at q
     exact q.2.1
    rw [if_pos this, if_pos q, if_pos q]; rfl
  · rw [if_neg q, if_neg q]
    split <;> rfl
 have w12 : wakes ws h s2 = true → wakes ws h s1 = true := fun q => by
  unfold wakes mayF at q ⊢
  simp only [Bool.and_eq_true] at q ⊢
  refine ⟨by rw [o12]; exact q.1, by rw [m12]; exact q.2.1, q.2.2.1, ?_⟩
  unfold goB
  rw [if_pos z1]
 have hl : ¬ ((wokenB [s2] h ws).length : Int) > ((wokenB [s1] h ws).length : Int) := by
  rw [wk, wk]
  by_cases q : wakes ws h s2 = true
  · rw [if_pos q, if_pos (w12 q)]; simp
  · rw [if_neg q]; simp
 have hl1 : ¬ ((wokenB [s1] h ws).length : Int) > 1 := by
  rw [wk]
  split <;> simp
 rw [if_neg hl, decide_eq_false hl1]
 obtain ⟨K, rfl⟩ : ∃ m, K = m + 1 := ⟨K - 1, by omega⟩
 simp only [handshakerlaw16_FilterModes.j1]
 rw [if_neg (by decide)]
 refine Modes_l0 w h [s2] _ ws (by omega) (by omega) (fun k hk => ?_) (fun e => ?_) ws.length K 0 (by omega) (by omega) (by omega)
 · obtain ⟨k, rfl⟩ : ∃ m, k = m + 1 := ⟨k - 1, by omega⟩
   simp only [handshakerlaw16_FilterModes.j4]
   rw [if_neg (by decide), Put_f k h w (by omega) (by omega), Option.bind_some, awake16 k (by omega)]
   simp only [Option.bind_some]
   by_cases e : (putB h w).2 = 0
   · have no : ¬ wakes w (putB h w).1 s2 = true := fun q => by
      unfold wakes mayF at q
      simp only [Bool.and_eq_true] at q
      have := other_put (s := s2) q.2.1 y2 (h := h) (by rw [x2]; exact e)
      rw [x2] at this
      rw [this] at q
      exact absurd q.2.2.2 (by decide)
     rw [if_pos e, Woken_f k [s2] _ w F2 (by omega) (by omega), Option.bind_some, wk, if_neg no]
     rfl
   · rw [if_neg e]
 · rw [wk, if_neg (fun q => by
    unfold wakes at q
    rw [not_met (s := s1) (by rw [x1]; exact e)] at q
    rw [Bool.false_and] at q; exact absurd q (by decide))]
end Go.Proofs.Ytjnkpocfmpbpoaa.F
namespace Go.Proofs.Ytjnkpocfmpbpoaa.Pure
theorem FilterModes : Go.Proofs.Ytjnkpocfmpbpoaa.F.handshakerlaw16_FilterModes.Pure := Go.Proofs.Ytjnkpocfmpbpoaa.F.FilterModes
end Go.Proofs.Ytjnkpocfmpbpoaa.Pure
