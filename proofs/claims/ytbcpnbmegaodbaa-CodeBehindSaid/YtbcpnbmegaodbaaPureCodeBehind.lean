/-
  PROVED: two codes, one behind the other, are a code, as deep as the deeper one, as long as that is not too many, for every two lists of steps. Condition: each argument is of its kind; nothing else.
-/
import Derived.Test.YtbcpnbmegaodbaaCbLem
import Derived.Test.YtbcpnbmegaodbaaCbCode
import Derived.Test.YtbcpnbmegaodbaaCbx4
import Derived.Test.YtbcpnbmegaodbaaCbx6
namespace Go.Proofs.Ytbcpnbmegaodbaa.Cb
open Go.RowKit Go.Proofs.YtbcpnbmegaodbaaW.PrintWords Go.Proofs.YtbcpnbmegaodbaaW.PrintLast Go.Proofs.YtbcpnbmegaodbaaW.PrintMore Go.Proofs.Ytbcpnbmegaodbaa.Ho
set_option linter.unusedVariables false
set_option linter.unusedSimpArgs false
theorem cellsC_of {c : List S37} (h : checkC c = 0) : cellsC c = refCellsC c := by
  rw [cellsC_same, if_pos h]
theorem nameB_app (a b : List S37) (n : Int) : nameB (a ++ b) n = (nameB a n || nameB b n) := by
  unfold nameB; rw [List.any_append]
theorem mem_refC (c : List S37) (v : Int) (h : v ∈ refCellsC c) : nameB c v = true := by
  unfold refCellsC at h
  obtain ⟨n, h1, rfl⟩ := List.mem_map.1 h
  exact (List.mem_filter.1 h1).2
theorem refC_mem (c d : List S37) (v : Int) (h : v ∈ refCellsC c) (hd : nameB d v = true) : v ∈ refCellsC d := by
  unfold refCellsC at h ⊢
  obtain ⟨n, h1, rfl⟩ := List.mem_map.1 h
  exact List.mem_map.2 ⟨n, List.mem_filter.2 ⟨(List.mem_filter.1 h1).1, hd⟩, rfl⟩
theorem refC_ge (a c : List S37) (h : ∀ n, nameB a n = true → nameB c n = true) : (refCellsC a).length ≤ (refCellsC c).length := by
  unfold refCellsC
  rw [List.length_map, List.length_map, ← List.countP_eq_length_filter, ← List.countP_eq_length_filter]
  exact List.countP_mono_left fun n _ hn => h _ hn
theorem behind_l1 (a b c : List S37) (w : Int) (cs : List Int) (i : Int) (l : List Int) (hl : l.length < 4398046511104) (K : Nat) (r : Option Bool) (hr : ∀ k, K ≤ k → handshakerlaw08_CodeBehind.l0 k a b c cs (cs.length : Int) (wrap64 (i + 1)) = r) (d : Nat) : ∀ (k j : Nat) (q : Bool), j ≤ l.length → l.length - j = d → d + K < k → (q = true ∨ w ∈ l.drop j) →
    handshakerlaw08_CodeBehind.l1 k a b c w q cs (cs.length : Int) i l (l.length : Int) (j : Int) = r := by
  induction d with
  | zero =>
    intro k j q hj hd hk hq
    obtain ⟨k, rfl⟩ : ∃ m, k = m + 1 := ⟨k - 1, by omega⟩
    rw [List.drop_of_length_le (by omega)] at hq
    simp only [handshakerlaw08_CodeBehind.l1]
    rw [if_neg (by omega), if_pos (by simpa using hq)]
    exact hr k (by omega)
  | succ d ih =>
    intro k j q hj hd hk hq
    obtain ⟨k, rfl⟩ : ∃ m, k = m + 1 := ⟨k - 1, by omega⟩
    rw [drop_cons l 0 j (by omega)] at hq
    simp only [handshakerlaw08_CodeBehind.l1]
    rw [if_pos (by omega), if_pos (by omega), if_pos (by omega), wrN (by omega), show rd l (j : Int) = l.getD j 0 from rfl]
    by_cases h1 : q = true
    · rw [if_pos h1]
      exact ih k (j + 1) true (by omega) (by omega) (by omega) (.inl rfl)
    · rw [if_neg h1]
      refine ih k (j + 1) _ (by omega) (by omega) (by omega) ?_
      rcases hq with h | h
      · exact absurd h h1
      · rcases List.mem_cons.1 h with h | h
        · exact .inl (by rw [h]; simp)
        · exact .inr h
theorem behind_l0 (a b c : List S37) (ha : checkC a = 0) (hb : checkC b = 0) (hc : checkC c = 0) (he : c = a ++ b) (r : Option Bool) (cs : List Int) (hcs : cs = cellsC c) (hr : ∀ k, 100 ≤ k → handshakerlaw08_CodeBehind.l0 (k + 1) a b c cs (cs.length : Int) (cs.length : Int) = r) (d : Nat) : ∀ (k i : Nat), i ≤ cs.length → cs.length - i = d → 200 * d + 200 < k →
    handshakerlaw08_CodeBehind.l0 k a b c cs (cs.length : Int) (i : Int) = r := by
  have hl : ∀ c, (refCellsC c).length ≤ 64 := refCellsC_len
  induction d with
  | zero =>
    intro k i hi hd hk
    obtain ⟨k, rfl⟩ : ∃ m, k = m + 1 := ⟨k - 1, by omega⟩
    have : i = cs.length := by omega
    subst this
    exact hr k (by omega)
  | succ d ih =>
    intro k i hi hd hk
    obtain ⟨k, rfl⟩ : ∃ m, k = m + 1 := ⟨k - 1, by omega⟩
    have hlc := hl c
    have hla := hl a
    have hlb := hl b
    have hm : cs.getD i 0 ∈ cs := by
      rw [List.getD_eq_getElem?_getD, List.getElem?_eq_getElem (by omega)]; exact List.getElem_mem _
    have hcl : cs.length ≤ 64 := by rw [hcs, cellsC_of hc]; omega
    simp only [handshakerlaw08_CodeBehind.l0]
    rw [if_pos (by omega), if_pos (by omega), if_pos (by omega), CellsC_f k a (by omega), CellsC_f k b (by omega), cellsC_of ha, cellsC_of hb]
    simp only [Option.bind_some, List.nil_append, List.length_nil]
    rw [if_pos (by omega), if_pos (by omega), show rd cs (i : Int) = cs.getD i 0 from rfl]
    refine behind_l1 a b c _ cs _ _ (by rw [List.length_append]; omega) (200 * d + 201) r (fun k hk => ?_) (refCellsC a ++ refCellsC b).length k 0 false (by omega) (by omega) (by rw [List.length_append]; omega) (.inr ?_)
    · rw [wrN (by omega)]
      exact ih k (i + 1) (by omega) (by omega) (by omega)
    · rw [List.drop_zero]
      rw [hcs, cellsC_of hc] at hm
      have h1 := mem_refC c _ hm
      rw [hcs, cellsC_of hc]
      rw [he, nameB_app, Bool.or_eq_true] at h1
      rcases h1 with h1 | h1
      · exact List.mem_append_left _ (by rw [he] at hm ⊢; exact refC_mem _ _ _ hm h1)
      · exact List.mem_append_right _ (by rw [he] at hm ⊢; exact refC_mem _ _ _ hm h1)
theorem CodeBehind : handshakerlaw08_CodeBehind.Pure := by
  intro a b hml hb _ hml2 hb2 _
  obtain ⟨K, hK⟩ : ∃ K, a.length + b.length + 19999 = K := ⟨_, rfl⟩
  refine ⟨K + 1, ?_⟩
  have aw0 : ∀ k, 60 ≤ k → (handshakerlaw08_awake.f k).bind (fun t => some t) = some true := fun k hk => by rw [awake8 k hk]; rfl
  have j0t : handshakerlaw08_CodeBehind.j0 (K + 1) a b true = some true := by
    simp only [handshakerlaw08_CodeBehind.j0, if_true]
    exact aw0 K (by omega)
  unfold handshakerlaw08_CodeBehind.f
  rcases Small_f (K + 1) a (by omega) (by omega) with h | ⟨h1, h2, h⟩
  · rw [h]
    simp only [Option.bind_some]
    rw [if_pos (by omega)]
    exact j0t
  rw [h]
  simp only [Option.bind_some]
  rw [if_neg (by omega)]
  rcases Small_f (K + 1) b (by omega) (by omega) with h' | ⟨h1', h2', h'⟩
  · rw [h']
    simp only [Option.bind_some]
    rw [if_pos (by omega)]
    exact j0t
  rw [h']
  simp only [Option.bind_some]
  rw [if_neg (by omega), CheckC_f (K + 1) a (by omega), CheckC_f (K + 1) b (by omega)]
  simp only [Option.bind_some]
  by_cases ca : ¬ checkC a = 0
  · rw [if_neg (by simpa using ca)]; exact j0t
  replace ca := Decidable.not_not.mp ca
  rw [if_pos (by simpa using ca)]
  by_cases cb : ¬ checkC b = 0
  · rw [show (checkC b != 0) = true from by simpa using cb]; exact j0t
  replace cb := Decidable.not_not.mp cb
  rw [show (checkC b != 0) = false from by simpa using cb]
  simp only [handshakerlaw08_CodeBehind.j0]
  rw [if_neg (by decide)]
  obtain ⟨a1, a2, _⟩ := checkC_ok ca
  obtain ⟨b1, b2, _⟩ := checkC_ok cb
  obtain ⟨x, dx, x6, ex⟩ := checkC_deep ca
  obtain ⟨y, dy, y6, ey⟩ := checkC_deep cb
  simp only [Option.bind_some, List.nil_append]
  rw [if_pos (by simp; omega), if_pos (by omega)]
  have dc : deepT (a ++ b) = some (max x y) := by rw [deepT_app a.length a b x (Nat.le_refl _) dx, dy]; rfl
  have hmc : ∀ s ∈ a ++ b, mayC s = true := by
    intro s hs
    rcases List.mem_append.1 hs with hs | hs
    · exact a2 s hs
    · exact b2 s hs
  have hcl : (a ++ b).length = a.length + b.length := List.length_append
  generalize hc : a ++ b = c at *
  by_cases hl : c.length > 24
  · rw [if_pos (by omega), CheckC_f K c (by omega)]
    simp only [Option.bind_some]
    rw [checkC_long hl, if_pos rfl]; exact aw0 K (by omega)
  rw [if_neg (by omega), CellsC_f K c (by omega)]
  simp only [Option.bind_some]
  have ck : checkC c = 0 := by
    rw [checkC_of (by omega) hmc dc, if_neg (by omega)]
  have cl : (cellsC c).length ≤ 64 := by rw [cellsC_of ck]; exact refCellsC_len c
  refine behind_l0 a b c ca cb ck hc.symm (some true) (cellsC c) rfl (fun k hk => ?_) (cellsC c).length K 0 (by omega) (by omega) (by omega)
  simp only [handshakerlaw08_CodeBehind.l0]
  rw [if_neg (by omega), CheckC_f k c (by omega), DeepC_f k c (by omega), DeepC_f k a (by omega), DeepC_f k b (by omega), CellsC_f k c (by omega), CellsC_f k a (by omega), ex, ey, deepC_yes ck dc]
  simp only [Option.bind_some, mx_nat]
  have hge := refC_ge a c (fun n hn => by rw [← hc, nameB_app, hn]; rfl)
  rw [if_pos ck, if_pos trivial, cellsC_of ck, cellsC_of ca, if_pos (by omega)]
  exact aw0 k (by omega)
end Go.Proofs.Ytbcpnbmegaodbaa.Cb
namespace Go.Proofs.Ytbcpnbmegaodbaa.Pure
theorem CodeBehind : Go.Proofs.Ytbcpnbmegaodbaa.Cb.handshakerlaw08_CodeBehind.Pure := Go.Proofs.Ytbcpnbmegaodbaa.Cb.CodeBehind
end Go.Proofs.Ytbcpnbmegaodbaa.Pure
