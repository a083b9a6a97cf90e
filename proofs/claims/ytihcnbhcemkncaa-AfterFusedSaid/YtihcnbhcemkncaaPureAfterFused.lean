/-
  PROVED: whoever sees a cell, while jobs are done, sees it as it was, or as it is behind all of one's jobs, or can't, for all jobs, heaps and picks. Condition: each argument is of its kind; nothing else.
-/
import Derived.Test.YtihcnbhcemkncaaALem2
import Derived.Test.YtihcnbhcemkncaaAx16
namespace Go.Proofs.Ytihcnbhcemkncaa.A
open Go.RowKit Go.Proofs.YtihcnbhcemkncaaW.PrintWords Go.Proofs.YtihcnbhcemkncaaW.PrintLast Go.Proofs.YtihcnbhcemkncaaW.PrintMore Go.Proofs.Ytihcnbhcemkncaa.Ho
set_option linter.unusedVariables false
set_option linter.unusedSimpArgs false
/-! ### whoever looks -/
theorem pre_eq {α : Type} {p : α → Bool} : ∀ (a b x y : List α), a ++ x = b ++ y → (∀ z ∈ a, p z = true) → (∀ z ∈ b, p z = true) → (x = [] ∨ ∃ j t, x = j :: t ∧ p j = false) → (y = [] ∨ ∃ j t, y = j :: t ∧ p j = false) → a = b
  | [], [], _, _, _, _, _, _, _ => rfl
  | [], z :: b, x, y, h, _, hb, hx, _ => by
    exfalso
    rw [List.nil_append, List.cons_append] at h
    rcases hx with hx | ⟨j, t, hx, hj⟩
    · rw [hx] at h; cases h
    · rw [hx] at h
      injection h with h _
      rw [h, hb z (by simp)] at hj; cases hj
  | z :: a, [], x, y, h, ha, _, _, hy => by
    exfalso
    rw [List.nil_append, List.cons_append] at h
    rcases hy with hy | ⟨j, t, hy, hj⟩
    · rw [hy] at h; cases h
    · rw [hy] at h
      injection h with h _
      rw [← h, ha z (by simp)] at hj; cases hj
  | z :: a, z' :: b, x, y, h, ha, hb, hx, hy => by
    rw [List.cons_append, List.cons_append] at h
    injection h with h1 h2
    rw [h1, pre_eq a b x y h2 (fun q hq => ha q (by simp [hq])) (fun q hq => hb q (by simp [hq])) hx hy]
def Stuck (h : List Cl) (x : List Jb) (w : Int) : Prop := of x w = [] ∨ ∃ j t, of x w = j :: t ∧ doable h j = false
theorem stuck_eq {l : List Jb} {h : List Cl} {e x e' x' : List Jb} {g g' : List Cl} (r : Ran l h e x g) (r' : Ran l h e' x' g') {w : Int} (s : Stuck h x w) (s' : Stuck h x' w) : of e w = of e' w :=
  pre_eq (p := doable h) _ _ (of x w) (of x' w) ((r.2.2.2.2 w).symm.trans (r'.2.2.2.2 w)) (fun z hz => r.2.2.1 z (List.mem_filter.1 hz).1) (fun z hz => r'.2.2.1 z (List.mem_filter.1 hz).1) s s'
theorem ran_len {l : List Jb} {h : List Cl} {e x : List Jb} {g : List Cl} (r : Ran l h e x g) : x.length ≤ l.length := r.1.length_le
theorem of_zero {l : List Jb} {h : List Cl} {e x : List Jb} {g : List Cl} (hl : RJ l) (r : Ran l h e x g) : of e 0 = [] := by
  unfold of
  rw [List.filter_eq_nil_iff]
  intro j hj
  have := ((mayB_iff j).1 (hl.2.1 j (r.2.1 j hj))).1.1
  simp; omega
theorem of_len (l : List Jb) (w : Int) : (of l w).length ≤ l.length := List.length_filter_le _ _
/-- One more try of w's. -/
theorem try_one {l : List Jb} {h : List Cl} {e x : List Jb} {g : List Cl} (hl : RJ l) (hh : RightB h = true) (r : Ran l h e x g) (w : Int) (n : Nat) (hn : (of x w).length ≤ n + 1 ∨ Stuck h x w) :
    ((doB x w g).2.2 = 0 ∧ ∃ e', Ran l h e' (doB x w g).1 (doB x w g).2.1 ∧ ((of (doB x w g).1 w).length ≤ n ∨ Stuck h (doB x w g).1 w)) ∨ (doB x w g = (x, g, 3) ∧ Stuck h x w) := by
  rcases ran_step hl hh r w with ⟨j, x', h1, h2, h3, h4, h5, h6⟩ | ⟨h1, h2⟩
  · rw [h1]
    refine .inl ⟨rfl, _, h6, ?_⟩
    rcases hn with hn | hn
    · rw [h2, List.length_cons] at hn
      exact .inl (by show (of x' w).length ≤ n; omega)
    · exfalso
      rcases hn with hn | ⟨i, t, hn, hi⟩
      · rw [h2] at hn; cases hn
      · rw [h2] at hn
        injection hn with hn _
        rw [← hn, h4] at hi; cases hi
  · exact .inr ⟨h1, h2⟩
theorem Fused_l2 (l : List Jb) (h : List Cl) (c H m want : Int) (hl : RJ l) (hh : RightB h = true) (ht : there h c = true) (hH : hold1 l c = H) (hm : m ≤ l.length) {e0 x0 : List Jb} {g0 : List Cl} (r0 : Ran l h e0 x0 g0) (s0 : Stuck h x0 H) (hw : getB g0 c = (want, 0)) (d : Nat) :
    ∀ (k i : Nat) (e x : List Jb) (g : List Cl), i ≤ l.length → l.length - i = d → d + 200 < k → Ran l h e x g → ((of x H).length ≤ l.length - i ∨ Stuck h x H) →
    handshakerlaw22_AfterFused.l2 k l c H m want 0 x g (l.length : Int) (i : Int) = some true := by
  have hl6 := hl.1
  induction d with
  | zero =>
    intro k i e x g hi hd hk r hs
    obtain ⟨k, rfl⟩ : ∃ q, k = q + 1 := ⟨k - 1, by omega⟩
    have s : Stuck h x H := hs.elim (fun q => .inl (List.eq_nil_of_length_eq_zero (by omega))) id
    simp only [handshakerlaw22_AfterFused.l2]
    rw [ran_get hl hh r0, if_pos ht] at hw
    rw [if_neg (by omega), Get_f, Option.bind_some, ran_get hl hh r, if_pos ht, if_pos trivial, if_pos rfl, hH, stuck_eq r r0 s s0, if_pos (by rw [hH] at hw; exact (Prod.mk.inj hw).1), if_pos hm, awake22 k (by omega)]
    rfl
  | succ d ih =>
    intro k i e x g hi hd hk r hs
    obtain ⟨k, rfl⟩ : ∃ q, k = q + 1 := ⟨k - 1, by omega⟩
    have hx := ran_len r
    simp only [handshakerlaw22_AfterFused.l2]
    rw [if_pos (by omega), Do_f k x _ g (by omega) (by omega), wrN (by omega), Option.bind_some]
    rcases try_one hl hh r H (l.length - (i + 1)) (hs.imp_left (fun q => by omega)) with ⟨_, e', r', s'⟩ | ⟨q, s'⟩
    · exact ih k (i + 1) e' _ _ (by omega) (by omega) (by omega) r' s'
    · rw [q]
      exact ih k (i + 1) e x g (by omega) (by omega) (by omega) r (.inr s')
theorem Fused_l1 (l : List Jb) (h : List Cl) (w c H m was want : Int) (ps : List Int) (hp : ps.length ≤ 40) (hl : RJ l) (hh : RightB h = true) (ht : there h c = true) (hH : hold1 l c = H) (hwas : was = (h.getD c.toNat z66).f1) (hno : ¬ (H = w ∧ H ≠ 0)) (hm : m ≤ l.length) {e0 x0 : List Jb} {g0 : List Cl} (r0 : Ran l h e0 x0 g0) (s0 : Stuck h x0 H) (hw : getB g0 c = (want, 0)) (d : Nat) :
    ∀ (k i : Nat) (e x : List Jb) (g : List Cl), i ≤ ps.length → ps.length - i = d → d + 400 < k → Ran l h e x g →
    handshakerlaw22_AfterFused.l1 k l w c H was m want 0 x g ps (ps.length : Int) (i : Int) = some true := by
  have hl6 := hl.1
  induction d with
  | zero =>
    intro k i e x g hi hd hk r
    obtain ⟨k, rfl⟩ : ∃ q, k = q + 1 := ⟨k - 1, by omega⟩
    simp only [handshakerlaw22_AfterFused.l1]
    rw [if_neg (by omega)]
    exact Fused_l2 l h c H m want hl hh ht hH hm r0 s0 hw l.length k 0 e x g (by omega) (by omega) (by omega) r (.inl (Nat.le_trans (of_len x H) (ran_len r)))
  | succ d ih =>
    intro k i e x g hi hd hk r
    obtain ⟨k, rfl⟩ : ∃ q, k = q + 1 := ⟨k - 1, by omega⟩
    have hx := ran_len r
    have hxl := doB_len x (ps.getD i 0) g
    obtain ⟨e', r'⟩ : ∃ e', Ran l h e' (doB x (ps.getD i 0) g).1 (doB x (ps.getD i 0) g).2.1 := by
      rcases ran_step hl hh r (ps.getD i 0) with ⟨j, x', h1, _, _, _, _, h6⟩ | ⟨h1, _⟩
      · rw [h1]; exact ⟨_, h6⟩
      · rw [h1]; exact ⟨e, r⟩
    have next := ih k (i + 1) e' _ _ (by omega) (by omega) (by omega) r'
    simp only [handshakerlaw22_AfterFused.l1]
    rw [if_pos (by omega), if_pos (by omega), if_pos (by omega), show rd ps (i : Int) = ps.getD i 0 from rfl, Do_f k x _ g (by omega) (by omega), wrN (by omega), Option.bind_some]
    generalize doB x (ps.getD i 0) g = q at *
    rw [See_f k _ w _ c (by omega) (by omega), Holder_f k _ c (by omega) (by omega), Option.bind_some, Option.bind_some]
    have hr := (rightJ_iff _).2 (RJ_sub hl r'.1)
    have e1 : seeB q.1 w q.2.1 c = if hold1 q.1 c = 0 ∨ hold1 q.1 c = w then getB q.2.1 c else (0, 7) := by
      unfold seeB
      rw [if_pos ⟨hr, (ran_keep hl hh r').1⟩]
    have e2 : holderB q.1 c = hold1 q.1 c := by unfold holderB; rw [if_pos hr]
    rw [e1, e2]
    have hsub := hold_sub hl r'.1 c
    rw [hH] at hsub
    by_cases h1 : hold1 q.1 c = 0 ∨ hold1 q.1 c = w
    · rw [if_pos h1, ran_get hl hh r', if_pos ht, if_neg (show ¬ (0 : Int) = 7 by decide)]
      by_cases h0 : H = 0
      · have e0 : of e' (hold1 l c) = [] := by rw [hH, h0]; exact of_zero hl r'
        rw [if_pos h0, if_pos rfl, e0, if_pos (show (cellJ c.toNat (h.getD c.toNat z66).f1 [], (0 : Int)).fst = was from hwas.symm)]
        exact next
      · rw [if_neg h0, if_pos rfl, if_pos]
        · exact next
        · rcases hsub with e | e
          · exact e
          · rcases h1 with h1 | h1
            · exact h1
            · exact absurd ⟨e.symm.trans h1, h0⟩ hno
    · rw [if_neg h1, if_pos rfl, if_neg (fun e => h1 (.inl e))]
      exact next
theorem Fused_l0 (l : List Jb) (h : List Cl) (w c H was : Int) (ps : List Int) (hp : ps.length ≤ 40) (hl : RJ l) (hh : RightB h = true) (ht : there h c = true) (hH : hold1 l c = H) (hwas : was = (h.getD c.toNat z66).f1) (hno : ¬ (H = w ∧ H ≠ 0)) (d : Nat) :
    ∀ (k i m : Nat) (e x : List Jb) (g : List Cl), i ≤ l.length → l.length - i = d → d + 600 < k → m ≤ i → Ran l h e x g → ((of x H).length ≤ l.length - i ∨ Stuck h x H) →
    handshakerlaw22_AfterFused.l0 k l w c h ps H was g x (m : Int) (l.length : Int) (i : Int) = some true := by
  have hl6 := hl.1
  induction d with
  | zero =>
    intro k i m e x g hi hd hk hm r hs
    obtain ⟨k, rfl⟩ : ∃ q, k = q + 1 := ⟨k - 1, by omega⟩
    have s : Stuck h x H := hs.elim (fun q => .inl (List.eq_nil_of_length_eq_zero (by omega))) id
    have hg := ran_get hl hh r c
    rw [if_pos ht] at hg
    simp only [handshakerlaw22_AfterFused.l0]
    rw [if_neg (by omega), Get_f, Option.bind_some, hg]
    exact Fused_l1 l h w c H m was _ ps hp hl hh ht hH hwas hno (by omega) r s hg ps.length k 0 [] l h (by omega) (by omega) (by omega) (ran_nil l h)
  | succ d ih =>
    intro k i m e x g hi hd hk hm r hs
    obtain ⟨k, rfl⟩ : ∃ q, k = q + 1 := ⟨k - 1, by omega⟩
    have hx := ran_len r
    simp only [handshakerlaw22_AfterFused.l0]
    rw [if_pos (by omega), Do_f k x _ g (by omega) (by omega), wrN (by omega), wrN (by omega), Option.bind_some]
    rcases try_one hl hh r H (l.length - (i + 1)) (hs.imp_left (fun q => by omega)) with ⟨q, e', r', s'⟩ | ⟨q, s'⟩
    · rw [if_pos q]
      exact ih k (i + 1) (m + 1) e' _ _ (by omega) (by omega) (by omega) (by omega) r' s'
    · rw [q, if_neg (show ¬ (3 : Int) = 0 by decide)]
      exact ih k (i + 1) m e x g (by omega) (by omega) (by omega) (by omega) r (.inr s')
theorem AfterFused : handshakerlaw22_AfterFused.Pure := by
  intro l0 a1 a2 l3 l4 hl1 hl2 _ _ _ _ _ _ _ _ _
  refine ⟨l0.length + 2002, ?_⟩
  generalize hK : l0.length + 2002 = K
  unfold handshakerlaw22_AfterFused.f
  obtain ⟨b, hb, hb'⟩ := small22_f K l0 (by omega) (by omega)
  rw [hb, Option.bind_some]
  obtain ⟨K, rfl⟩ : ∃ m, K = m + 2 := ⟨K - 2, by omega⟩
  have aw : handshakerlaw22_AfterFused.j0 (K + 2) l0 a1 a2 l3 l4 true = some true := by
    simp only [handshakerlaw22_AfterFused.j0]
    rw [if_pos trivial, awake22 (K + 1) (by omega)]; rfl
  cases b with
  | false => rw [if_neg (by decide)]; exact aw
  | true =>
    rw [if_pos rfl]
    by_cases h1 : (l3.length : Int) > 64
    · rw [if_pos h1]; exact aw
    rw [if_neg h1]
    by_cases h2 : (l4.length : Int) > 40
    · rw [if_pos h2]; exact aw
    rw [if_neg h2, RightJ_f _ l0 (by omega) (by omega), Option.bind_some]
    cases hr : rightJ l0 with
    | false => exact aw
    | true =>
      have hl := (rightJ_iff l0).1 hr
      have hl6 := hl.1
      simp only [handshakerlaw22_AfterFused.j0]
      rw [if_neg (by decide), Holder_f _ l0 _ (by omega) (by omega), Option.bind_some, Get_f, Option.bind_some]
      unfold holderB
      rw [if_pos hr]
      have aw1 : ∀ x y, handshakerlaw22_AfterFused.j1 (K + 1) l0 a1 a2 l3 l4 x y true = some true := fun x y => by
        simp only [handshakerlaw22_AfterFused.j1]
        rw [if_pos trivial, awake22 K (by omega)]; rfl
      by_cases he : (getB l3 a2).2 = 0
      · rw [if_pos he]
        obtain ⟨g1, g2⟩ := getB_ok he
        have gv : (getB l3 a2).1 = (l3.getD a2.toNat z66).f1 := by unfold getB; rw [if_pos g1, if_pos g2]
        have main : ¬ (hold1 l0 a2 = a1 ∧ hold1 l0 a2 ≠ 0) → handshakerlaw22_AfterFused.j1 (K + 1) l0 a1 a2 l3 l4 (hold1 l0 a2) (getB l3 a2).1 false = some true := fun hno => by
          simp only [handshakerlaw22_AfterFused.j1]
          rw [if_neg (by decide)]
          exact Fused_l0 l0 l3 a1 a2 (hold1 l0 a2) _ l4 (by omega) hl g1 g2 rfl gv hno l0.length K 0 0 [] l0 l3 (by omega) (by omega) (by omega) (Nat.le_refl _) (ran_nil _ _) (.inl (of_len _ _))
        by_cases hw : hold1 l0 a2 = a1
        · rw [if_pos hw]
          by_cases h0 : hold1 l0 a2 = 0
          · rw [show (hold1 l0 a2 != 0) = false by simp [h0]]
            exact main (fun e => e.2 h0)
          · rw [show (hold1 l0 a2 != 0) = true by simp [h0]]
            exact aw1 _ _
        · rw [if_neg hw]
          exact main (fun e => hw e.1)
      · rw [if_neg he]; exact aw1 _ _
end Go.Proofs.Ytihcnbhcemkncaa.A
namespace Go.Proofs.Ytihcnbhcemkncaa.Pure
theorem AfterFused : Go.Proofs.Ytihcnbhcemkncaa.A.handshakerlaw22_AfterFused.Pure := Go.Proofs.Ytihcnbhcemkncaa.A.AfterFused
end Go.Proofs.Ytihcnbhcemkncaa.Pure
