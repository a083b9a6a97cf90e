/-
  PROVED: Plain lemmas on numbers and lists, of what the printed functions answer. No condition beside those of each lemma.
-/
import Derived.Test.YtbcpnbmegaodbaaTcLem
namespace Go.Proofs.Ytbcpnbmegaodbaa.Tc
open Go.RowKit Go.Proofs.YtbcpnbmegaodbaaW.PrintWords Go.Proofs.YtbcpnbmegaodbaaW.PrintLast Go.Proofs.YtbcpnbmegaodbaaW.PrintMore Go.Proofs.Ytbcpnbmegaodbaa.Ho
set_option linter.unusedVariables false
set_option linter.unusedSimpArgs false
theorem runT_congr {h h' : List S58} {regs regs' : List Int} : ∀ (t : List S41) (p : List Int), (∀ o ∈ t, takes o.f0 = 0 → leafB o h regs = leafB o h' regs') → runT h regs t p = runT h' regs' t p
  | [], p, _ => rfl
  | o :: os, p, he => by
    have e : stepB h regs o p = stepB h' regs' o p := by
      unfold stepB
      split
      · rename_i h0; rw [he o (by simp) h0]
      · rfl
      · rfl
      · rfl
    simp only [runT, e]
    split
    · exact runT_congr os _ (fun x hx => he x (by simp [hx]))
    · rfl
theorem runT_app (h : List S58) (regs : List Int) : ∀ (a b : List S41) (p : List Int), runT h regs (a ++ b) p = match runT h regs a p with | .ok q => runT h regs b q | .error e => .error e
  | [], b, p => rfl
  | o :: os, b, p => by
    simp only [List.cons_append, runT]
    cases stepB h regs o p with
    | ok q => exact runT_app h regs os b q
    | error e => rfl
theorem step_frame {h : List S58} {regs : List Int} {o : S41} {p q : List Int} (e : stepB h regs o p = .ok q) (r : List Int) : stepB h regs o (p ++ r) = .ok (q ++ r) := by
  unfold stepB at e ⊢
  match hk : takes o.f0, p with
  | 0, p =>
    rw [hk] at e
    simp only at e ⊢
    split at e
    · rw [if_pos (by assumption)]; cases e; rfl
    · cases e
  | 1, x :: p => rw [hk] at e; simp only at e; cases e; rfl
  | 1, [] => rw [hk] at e; simp only at e; cases e
  | 2, y :: x :: p => rw [hk] at e; simp only at e; cases e; rfl
  | 2, [_] => rw [hk] at e; simp only at e; cases e
  | 2, [] => rw [hk] at e; simp only at e; cases e
  | n + 3, _ => have := takes_le o.f0; omega
theorem runT_frame {h : List S58} {regs : List Int} : ∀ (t : List S41) (p q r : List Int), runT h regs t p = .ok q → runT h regs t (p ++ r) = .ok (q ++ r)
  | [], p, q, r, e => by simp only [runT] at e ⊢; cases e; rfl
  | o :: os, p, q, r, e => by
    simp only [runT] at e ⊢
    cases hs : stepB h regs o p with
    | ok m =>
      rw [hs] at e
      rw [step_frame hs r]
      exact runT_frame os m q r e
    | error c => rw [hs] at e; simp at e
theorem walkN_app : ∀ (a b : List S41) (n : Nat), walkN (a ++ b) n = (walkN a n).bind (walkN b)
  | [], b, n => rfl
  | o :: os, b, n => by
    simp only [List.cons_append, walkN]
    split
    · rfl
    · exact walkN_app os b _
theorem walkN_frame : ∀ (a : List S41) (n m j : Nat), walkN a n = some m → walkN a (n + j) = some (m + j)
  | [], n, m, j, e => by simp only [walkN, Option.some.injEq] at e ⊢; omega
  | o :: os, n, m, j, e => by
    simp only [walkN] at e ⊢
    split at e
    · simp at e
    · have := takes_le o.f0
      rw [if_neg (by omega)]
      have := walkN_frame os _ m j e
      rw [show n + j + 1 - takes o.f0 = n + 1 - takes o.f0 + j from by omega]
      exact this
theorem step_len {h : List S58} {regs : List Int} {o : S41} {p q : List Int} (e : stepB h regs o p = .ok q) : takes o.f0 ≤ p.length ∧ q.length = p.length + 1 - takes o.f0 := by
  unfold stepB at e
  match hk : takes o.f0, p with
  | 0, p =>
    rw [hk] at e
    simp only at e
    split at e
    · cases e; simp
    · cases e
  | 1, x :: p => rw [hk] at e; simp only at e; cases e; simp
  | 1, [] => rw [hk] at e; simp only at e; cases e
  | 2, y :: x :: p => rw [hk] at e; simp only at e; cases e; simp
  | 2, [_] => rw [hk] at e; simp only at e; cases e
  | 2, [] => rw [hk] at e; simp only at e; cases e
  | n + 3, _ => have := takes_le o.f0; omega
theorem runT_len {h : List S58} {regs : List Int} : ∀ (t : List S41) (p q : List Int), runT h regs t p = .ok q → walkN t p.length = some q.length
  | [], p, q, e => by simp only [runT] at e; cases e; rfl
  | o :: os, p, q, e => by
    simp only [runT] at e
    cases hs : stepB h regs o p with
    | ok m =>
      rw [hs] at e
      obtain ⟨h1, h2⟩ := step_len hs
      simp only [walkN]
      rw [if_neg (by omega), ← h2]
      exact runT_len os m q e
    | error c => rw [hs] at e; simp at e
theorem step_err {h : List S58} {regs : List Int} {o : S41} {p : List Int} {c : Int} (e : stepB h regs o p = .error c) : c ≠ 0 := by
  unfold stepB at e
  split at e
  · split at e
    · cases e
    · cases e; assumption
  · cases e
  · cases e
  · cases e; decide
theorem runT_err {h : List S58} {regs : List Int} : ∀ (t : List S41) (p : List Int) (c : Int), runT h regs t p = .error c → c ≠ 0
  | [], p, c, e => by simp only [runT] at e; cases e
  | o :: os, p, c, e => by
    simp only [runT] at e
    cases hs : stepB h regs o p with
    | ok m => rw [hs] at e; exact runT_err os m c e
    | error d => rw [hs] at e; simp only [Except.error.injEq] at e; subst e; exact step_err hs
theorem inR_w32 (x : Int) : inR (wrap32 x) = true := by
  have := w32_lo x
  have := w32_hi x
  simp [inR]; omega
theorem inR_tru (b : Bool) : inR (tru b) = true := by cases b <;> rfl
theorem inR_two (a x y : Int) : inR (twoB a x y) = true := by
  unfold twoB
  repeat' split
  all_goals first | exact inR_w32 _ | exact inR_tru _
theorem inR_leaf {h : List S58} {regs : List Int} {o : S41} (hm : mayB o.f0 o.f1 = true) (he : (leafB o h regs).2 = 0) : inR (leafB o h regs).1 = true := by
  unfold leafB at he ⊢
  by_cases h1 : o.f0 = 1
  · unfold mayB at hm
    rw [if_pos h1] at hm ⊢; exact hm
  · rw [if_neg h1] at he ⊢
    by_cases h2 : o.f0 = 2
    · rw [if_pos h2] at he ⊢
      obtain ⟨a, b⟩ := getB_ok he
      obtain ⟨_, _, c⟩ := Right_len a
      obtain ⟨d, e, _⟩ := there_rng b
      unfold getB
      rw [if_pos a, if_pos b]
      have := c (h.getD o.f1.toNat z58) (by
        rw [List.getD_eq_getElem?_getD, List.getElem?_eq_getElem (by omega)]; exact List.getElem_mem _)
      simp only [okC, Bool.and_eq_true] at this
      exact this.1
    · rw [if_neg h2] at he ⊢
      split
      · exact inR_w32 _
      · rfl
theorem step_inR {h : List S58} {regs : List Int} {o : S41} {p q : List Int} (hm : mayB o.f0 o.f1 = true) (hp : ∀ x ∈ p, inR x = true) (e : stepB h regs o p = .ok q) : ∀ x ∈ q, inR x = true := by
  unfold stepB at e
  split at e
  · split at e
    · cases e
      intro x hx
      rcases List.mem_cons.1 hx with rfl | hx
      · exact inR_leaf hm (by assumption)
      · exact hp x hx
    · cases e
  · cases e
    intro x hx
    rcases List.mem_cons.1 hx with rfl | hx
    · exact inR_tru _
    · exact hp x (by simp [hx])
  · cases e
    intro x hx
    rcases List.mem_cons.1 hx with rfl | hx
    · exact inR_two _ _ _
    · exact hp x (by simp [hx])
  · cases e
theorem runT_inR {h : List S58} {regs : List Int} : ∀ (t : List S41) (p q : List Int), (∀ o ∈ t, mayB o.f0 o.f1 = true) → (∀ x ∈ p, inR x = true) → runT h regs t p = .ok q → ∀ x ∈ q, inR x = true
  | [], p, q, _, hp, e => by simp only [runT] at e; cases e; exact hp
  | o :: os, p, q, hm, hp, e => by
    simp only [runT] at e
    cases hs : stepB h regs o p with
    | ok m => rw [hs] at e; exact runT_inR os m q (fun x hx => hm x (by simp [hx])) (step_inR (hm o (by simp)) hp hs) e
    | error d => rw [hs] at e; simp at e
theorem evalB_ok {t : List S41} {h : List S58} {regs : List Int} (e : (evalB t h regs).2 = 0) : checkB t = 0 ∧ RightB h = true ∧ runT h regs t [] = .ok [(evalB t h regs).1] ∧ inR (evalB t h regs).1 = true := by
  unfold evalB at e ⊢
  by_cases h1 : checkB t = 0
  · rw [if_pos h1] at e ⊢
    by_cases h2 : RightB h = true
    · rw [if_pos h2] at e ⊢
      obtain ⟨_, _, hm, hw⟩ := checkB_ok h1
      cases hr : runT h regs t [] with
      | ok q =>
        have := runT_len _ _ _ hr
        rw [show ([] : List Int).length = 0 from rfl, hw] at this
        simp only [Option.some.injEq] at this
        match q, this, hr with
        | [x], _, hr => exact ⟨h1, h2, rfl, runT_inR t [] _ hm (by simp) hr x (by simp)⟩
      | error c =>
        rw [hr] at e
        exact absurd e (runT_err _ _ _ hr)
    · rw [if_neg h2] at e; simp at e
  · rw [if_neg h1] at e; exact absurd e h1
theorem evalB_of {t : List S41} {h : List S58} {regs : List Int} {x : Int} (h1 : checkB t = 0) (h2 : RightB h = true) (h3 : runT h regs t [] = .ok [x]) : evalB t h regs = (x, 0) := by
  unfold evalB
  rw [if_pos h1, if_pos h2, h3]; rfl
theorem evalB_congr {t : List S41} {h h' : List S58} {regs regs' : List Int} (hr : RightB h = RightB h') (hl : checkB t = 0 → RightB h = true → ∀ o ∈ t, takes o.f0 = 0 → leafB o h regs = leafB o h' regs') : evalB t h regs = evalB t h' regs' := by
  unfold evalB
  by_cases h1 : checkB t = 0
  · rw [if_pos h1, if_pos h1, ← hr]
    by_cases h2 : RightB h = true
    · rw [if_pos h2, if_pos h2, runT_congr t [] (hl h1 h2)]
    · rw [if_neg h2, if_neg h2]
  · rw [if_neg h1, if_neg h1]
/-- What stands where nothing is taken is a number, a cell or a register. -/
theorem may_leaf {o : S41} (hm : mayB o.f0 o.f1 = true) (ht : takes o.f0 = 0) : o.f0 = 1 ∨ (o.f0 = 2 ∧ 0 ≤ o.f1 ∧ o.f1 < 64) ∨ (o.f0 = 3 ∧ 0 ≤ o.f1 ∧ o.f1 < 8) := by
  unfold mayB at hm
  split at hm
  · exact .inl (by assumption)
  · split at hm
    · exact .inr (.inl ⟨by assumption, by simpa using hm⟩)
    · split at hm
      · exact .inr (.inr ⟨by assumption, by simpa using hm⟩)
      · rw [ht] at hm; simp at hm
theorem tmod_rng {a n : Int} (ha : 0 ≤ a) (hn : 0 < n) : 0 ≤ Int.tmod a n ∧ Int.tmod a n < n := by
  rw [Int.tmod_eq_emod_of_nonneg ha]
  exact ⟨Int.emod_nonneg _ (by omega), Int.emod_lt_of_pos _ hn⟩
/-! two terms, one behind the other -/
theorem both_run {a b : List S41} {h : List S58} {regs : List Int} {x y : Int} (ha : runT h regs a [] = .ok [x]) (hb : runT h regs b [] = .ok [y]) : runT h regs (a ++ b) [] = .ok [y, x] := by
  rw [runT_app, ha]
  exact runT_frame b [] [y] [x] hb
theorem op_two {a b : List S41} {h : List S58} {regs : List Int} (ha5 : a.length ≤ 5) (hb5 : b.length ≤ 5) (ea : (evalB a h regs).2 = 0) (eb : (evalB b h regs).2 = 0) (kd : Int) (h4 : 4 ≤ kd) (h10 : kd ≤ 10) :
    evalB (a ++ b ++ [⟨kd, 0⟩]) h regs = (twoB kd (evalB a h regs).1 (evalB b h regs).1, 0) := by
  obtain ⟨ca, hr, ra, _⟩ := evalB_ok ea
  obtain ⟨cb, _, rb, _⟩ := evalB_ok eb
  obtain ⟨a1, a2, a3, a4⟩ := checkB_ok ca
  obtain ⟨b1, b2, b3, b4⟩ := checkB_ok cb
  have htk : takes kd = 2 := by unfold takes; rw [if_pos ⟨h4, h10⟩]
  refine evalB_of (checkB_of (by simp <;> omega) (by simp <;> omega) ?_ ?_) hr ?_
  · intro o ho
    simp only [List.mem_append, List.mem_singleton] at ho
    rcases ho with (ho | ho) | rfl
    · exact a3 o ho
    · exact b3 o ho
    · unfold mayB
      simp only [htk]
      rw [if_neg (by omega), if_neg (by omega), if_neg (by omega)]; rfl
  · rw [walkN_app, walkN_app, a4]
    simp only [Option.bind_some]
    rw [walkN_frame b 0 1 1 b4]
    simp only [Option.bind_some, walkN, htk]
    rfl
  · rw [runT_app, both_run ra rb]
    simp only [runT, stepB, htk]
theorem both_form {a b : List S41} (ha5 : a.length ≤ 5) (hb5 : b.length ≤ 5) (ca : checkB a = 0) (cb : checkB b = 0) : checkB (a ++ b) = 2 := by
  obtain ⟨a1, a2, a3, a4⟩ := checkB_ok ca
  obtain ⟨b1, b2, b3, b4⟩ := checkB_ok cb
  unfold checkB
  have hm : mayAll (a ++ b) = true := by
    unfold mayAll
    rw [List.all_append, List.all_eq_true.2 a3, List.all_eq_true.2 b3]; rfl
  have hw : walkN (a ++ b) 0 = some 2 := by
    rw [walkN_app, a4]
    exact walkN_frame b 0 1 1 b4
  rw [if_pos ⟨by simp <;> omega, by simp <;> omega, hm⟩, if_neg (by rw [hw]; simp)]
end Go.Proofs.Ytbcpnbmegaodbaa.Tc
