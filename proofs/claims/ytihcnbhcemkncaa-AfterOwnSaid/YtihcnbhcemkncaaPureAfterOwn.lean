/-
  PROVED: somebody sees what they hold as it is, all along, whatever others' jobs are done between, for all jobs, heaps and picks. Condition: each argument is of its kind; nothing else.
-/
import Derived.Test.YtihcnbhcemkncaaALem2
import Derived.Test.YtihcnbhcemkncaaAx19
namespace Go.Proofs.Ytihcnbhcemkncaa.A
open Go.RowKit Go.Proofs.YtihcnbhcemkncaaW.PrintWords Go.Proofs.YtihcnbhcemkncaaW.PrintLast Go.Proofs.YtihcnbhcemkncaaW.PrintMore Go.Proofs.Ytihcnbhcemkncaa.Ho
set_option linter.unusedVariables false
set_option linter.unusedSimpArgs false
/-! ### one's own -/
theorem of_eq {l : List Jb} {h : List Cl} {e x e' x' : List Jb} {g g' : List Cl} (r : Ran l h e x g) (r' : Ran l h e' x' g') {v : Int} (he : of e v = of e' v) : of x v = of x' v := by
  have h1 := r.2.2.2.2 v
  have h2 := r'.2.2.2.2 v
  rw [h1, he] at h2
  exact List.append_cancel_left h2
theorem see_own {l : List Jb} {h : List Cl} {e x : List Jb} {g : List Cl} (hl : RJ l) (hh : RightB h = true) (r : Ran l h e x g) {w c : Int} (hw : hold1 l c = w) : seeB x w g c = getB g c := by
  unfold seeB
  rw [if_pos ⟨(rightJ_iff x).2 (RJ_sub hl r.1), (ran_keep hl hh r).1⟩, if_pos]
  rw [← hw]
  exact hold_sub hl r.1 c
/-- What stands at the head of a round: two runs that agree on one's own, or a heap that is none. -/
def Own (l : List Jb) (h : List Cl) (w : Int) (y : List Jb) (k : List Cl) (x : List Jb) (g : List Cl) : Prop :=
  (RightB h = false ∧ y = l ∧ k = h ∧ x = l ∧ g = h) ∨ (RightB h = true ∧ ∃ e e', Ran l h e y k ∧ Ran l h e' x g ∧ of e w = of e' w)
theorem own_see {l : List Jb} {h : List Cl} {w : Int} {y : List Jb} {k : List Cl} {x : List Jb} {g : List Cl} (hl : RJ l) (o : Own l h w y k x g) (c : Int) (hw : hold1 l c = w) : seeB x w g c = getB k c := by
  rcases o with ⟨hh, rfl, rfl, rfl, rfl⟩ | ⟨hh, e, e', r, r', he⟩
  · unfold seeB getB
    rw [if_neg (fun g => by rw [hh] at g; cases g.2), if_neg (fun g => by rw [hh] at g; cases g)]
  · rw [see_own hl hh r' hw, ran_get hl hh r', ran_get hl hh r, hw, he]
theorem doB_bad {l : List Jb} {h : List Cl} (hh : RightB h = false) (w : Int) : doB l w h = (l, h, 1) := by
  unfold doB
  rw [if_neg (fun g => by rw [hh] at g; cases g.2)]
theorem own_other {l : List Jb} {h : List Cl} {w : Int} {y : List Jb} {k : List Cl} {x : List Jb} {g : List Cl} (hl : RJ l) (o : Own l h w y k x g) (p : Int) (hp : p ≠ w) : Own l h w y k (doB x p g).1 (doB x p g).2.1 := by
  rcases o with ⟨hh, rfl, rfl, rfl, rfl⟩ | ⟨hh, e, e', r, r', he⟩
  · rw [doB_bad hh]; exact .inl ⟨hh, rfl, rfl, rfl, rfl⟩
  · rcases ran_step hl hh r' p with ⟨j, x', h1, h2, h3, h4, h5, h6⟩ | ⟨h1, _⟩
    · rw [h1]
      refine .inr ⟨hh, e, e' ++ [j], r, h6, ?_⟩
      rw [of_append, he]
      unfold of
      rw [List.filter_cons, if_neg (by rw [h5]; simpa using hp)]
      simp
    · rw [h1]; exact .inr ⟨hh, e, e', r, r', he⟩
theorem own_mine {l : List Jb} {h : List Cl} {w : Int} {y : List Jb} {k : List Cl} {x : List Jb} {g : List Cl} (hl : RJ l) (o : Own l h w y k x g) : (doB x w g).2.2 = (doB y w k).2.2 ∧ Own l h w (doB y w k).1 (doB y w k).2.1 (doB x w g).1 (doB x w g).2.1 := by
  rcases o with ⟨hh, rfl, rfl, rfl, rfl⟩ | ⟨hh, e, e', r, r', he⟩
  · rw [doB_bad hh]; exact ⟨rfl, .inl ⟨hh, rfl, rfl, rfl, rfl⟩⟩
  · have hx := of_eq r r' he
    rcases ran_step hl hh r' w with ⟨j, x', h1, h2, h3, h4, h5, h6⟩ | ⟨h1, h2⟩
    · rcases ran_step hl hh r w with ⟨i, y', g1, g2, g3, g4, g5, g6⟩ | ⟨g1, g2⟩
      · rw [h1, g1]
        refine ⟨rfl, .inr ⟨hh, _, _, g6, h6, ?_⟩⟩
        rw [hx, h2] at g2
        injection g2 with g2 _
        rw [of_append, of_append, he, g2]
      · exfalso
        rw [hx, h2] at g2
        rcases g2 with g2 | ⟨i, t, g2, g3⟩
        · cases g2
        · injection g2 with g2 _
          rw [← g2, h4] at g3; cases g3
    · rcases ran_step hl hh r w with ⟨i, y', g1, g2, g3, g4, g5, g6⟩ | ⟨g1, g2⟩
      · exfalso
        rw [← hx, g2] at h2
        rcases h2 with h2 | ⟨j, t, h2, h3⟩
        · cases h2
        · injection h2 with h2 _
          rw [← h2, g4] at h3; cases h3
      · rw [h1, g1]
        exact ⟨rfl, .inr ⟨hh, e, e', r, r', he⟩⟩
theorem Own_l (l : List Jb) (w : Int) (h : List Cl) (ps : List Int) (hl : RJ l) (hh : h.length ≤ 64) (hp : ps.length ≤ 40) (d : Nat) : ∀ (k i : Nat) (y : List Jb) (a : List Cl) (x : List Jb) (b : List Cl), i ≤ ps.length → ps.length - i = d → 200 * d + 200 < k → y.length ≤ l.length → x.length ≤ l.length → Own l h w y a x b →
    handshakerlaw22_AfterOwn.l0 k l w h y a x b ps (ps.length : Int) (i : Int) = some true := by
  have hl6 := hl.1
  induction d with
  | zero =>
    intro k i y a x b hi hd hk hy hx o
    obtain ⟨k, rfl⟩ : ∃ m, k = m + 1 := ⟨k - 1, by omega⟩
    simp only [handshakerlaw22_AfterOwn.l0]
    rw [if_neg (by omega), awake22 k (by omega)]; rfl
  | succ d ih =>
    intro k i y a x b hi hd hk hy hx o
    obtain ⟨k, rfl⟩ : ∃ m, k = m + 2 := ⟨k - 2, by omega⟩
    have round : ∀ (y : List Jb) (a : List Cl) (x : List Jb) (b : List Cl), y.length ≤ l.length → x.length ≤ l.length → Own l h w y a x b → handshakerlaw22_AfterOwn.j2 (k + 1) l w h y a x b ps (ps.length : Int) (i : Int) = some true := by
      intro y a x b hy hx o
      have inner : ∀ (e k c : Nat), c ≤ h.length → h.length - c = e → 2 * e + 200 * d + 250 < k → handshakerlaw22_AfterOwn.l1 k l w h y a x b ps (ps.length : Int) (i : Int) (h.length : Int) (c : Int) = some true := by
        intro e
        induction e with
        | zero =>
          intro k c hc he hk
          obtain ⟨k, rfl⟩ : ∃ m, k = m + 1 := ⟨k - 1, by omega⟩
          simp only [handshakerlaw22_AfterOwn.l1]
          rw [if_neg (by omega), wrN (by omega)]
          exact ih k (i + 1) y a x b (by omega) (by omega) (by omega) hy hx o
        | succ e ihe =>
          intro k c hc he hk
          obtain ⟨k, rfl⟩ : ∃ m, k = m + 2 := ⟨k - 2, by omega⟩
          have next := ihe k (c + 1) (by omega) (by omega) (by omega)
          simp only [handshakerlaw22_AfterOwn.l1]
          rw [if_pos (by omega), Holder_f _ l _ (by omega) (by omega)]
          unfold holderB
          rw [if_pos ((rightJ_iff l).2 hl)]
          simp only [Option.bind_some]
          have skip : handshakerlaw22_AfterOwn.j4 (k + 1) l w h y a x b (c : Int) ps (ps.length : Int) (i : Int) (h.length : Int) (c : Int) true = some true := by
            simp only [handshakerlaw22_AfterOwn.j4]
            rw [if_pos trivial, wrN (by omega)]; exact next
          by_cases hw : hold1 l (c : Int) = w
          · rw [if_pos hw]
            by_cases h0 : w = 0
            · rw [show (w == 0) = true by simp [h0]]; exact skip
            · rw [show (w == 0) = false by simp [h0]]
              simp only [handshakerlaw22_AfterOwn.j4]
              rw [if_neg (by decide), See_f k x w b _ (by omega) (by omega), Get_f, own_see hl o _ hw]
              simp only [Option.bind_some]
              rw [if_pos trivial, if_pos trivial, wrN (by omega)]
              exact next
          · rw [if_neg hw]; exact skip
      simp only [handshakerlaw22_AfterOwn.j2]
      exact inner h.length k 0 (by omega) (by omega) (by omega)
    simp only [handshakerlaw22_AfterOwn.l0]
    rw [if_pos (by omega), if_pos (by omega), if_pos (by omega), show rd ps (i : Int) = ps.getD i 0 from rfl, Do_f _ x _ b (by omega) (by omega)]
    simp only [Option.bind_some]
    have lx := doB_len x (ps.getD i 0) b
    by_cases hw : ps.getD i 0 = w
    · rw [if_pos hw, Do_f _ y _ a (by omega) (by omega)]
      simp only [Option.bind_some]
      rw [hw] at lx ⊢
      have ly := doB_len y w a
      obtain ⟨o1, o2⟩ := own_mine hl o
      rw [if_pos o1]
      exact round _ _ _ _ (by omega) (by omega) o2
    · rw [if_neg hw]
      exact round _ _ _ _ hy (by omega) (own_other hl o _ hw)
theorem AfterOwn : handshakerlaw22_AfterOwn.Pure := by
  intro l0 a1 l2 l3 hl1 hl2 _ _ _ _ _ _ _ _
  refine ⟨l0.length + 20002, ?_⟩
  generalize hK : l0.length + 20002 = K
  unfold handshakerlaw22_AfterOwn.f
  obtain ⟨b, hb, hb'⟩ := small22_f K l0 (by omega) (by omega)
  rw [hb]
  simp only [Option.bind_some]
  obtain ⟨K, rfl⟩ : ∃ m, K = m + 1 := ⟨K - 1, by omega⟩
  have aw : handshakerlaw22_AfterOwn.j0 (K + 1) l0 a1 l2 l3 true = some true := by
    simp only [handshakerlaw22_AfterOwn.j0]
    rw [if_pos trivial, awake22 K (by omega)]; rfl
  cases b with
  | false => rw [if_neg (by decide)]; exact aw
  | true =>
    rw [if_pos rfl]
    by_cases h1 : (l2.length : Int) > 64
    · rw [if_pos h1]; exact aw
    rw [if_neg h1]
    by_cases h2 : (l3.length : Int) > 40
    · rw [if_pos h2]; exact aw
    rw [if_neg h2, RightJ_f _ l0 (by omega) (by omega)]
    simp only [Option.bind_some]
    cases hr : rightJ l0 with
    | false => exact aw
    | true =>
      have hl := (rightJ_iff l0).1 hr
      simp only [handshakerlaw22_AfterOwn.j0]
      rw [if_neg (by decide)]
      refine Own_l l0 a1 l2 l3 hl (by omega) (by omega) l3.length K 0 l0 l2 l0 l2 (by omega) (by omega) (by omega) (Nat.le_refl _) (Nat.le_refl _) ?_
      cases hh : RightB l2 with
      | false => exact .inl ⟨hh, rfl, rfl, rfl, rfl⟩
      | true => exact .inr ⟨hh, [], [], ran_nil _ _, ran_nil _ _, rfl⟩
end Go.Proofs.Ytihcnbhcemkncaa.A
namespace Go.Proofs.Ytihcnbhcemkncaa.Pure
theorem AfterOwn : Go.Proofs.Ytihcnbhcemkncaa.A.handshakerlaw22_AfterOwn.Pure := Go.Proofs.Ytihcnbhcemkncaa.A.AfterOwn
end Go.Proofs.Ytihcnbhcemkncaa.Pure
