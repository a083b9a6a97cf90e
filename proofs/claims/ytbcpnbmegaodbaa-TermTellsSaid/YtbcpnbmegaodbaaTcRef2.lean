/-
  PROVED: Plain lemmas on numbers and lists, of what the printed functions answer. No condition beside those of each lemma.
-/
import Derived.Test.YtbcpnbmegaodbaaTcLem
import Derived.Test.YtbcpnbmegaodbaaTcLem2
import Derived.Test.YtbcpnbmegaodbaaTcLem3
import Derived.Test.YtbcpnbmegaodbaaTcRef
import Derived.Test.YtbcpnbmegaodbaaTcx3
import Derived.Test.YtbcpnbmegaodbaaTcx4
import Derived.Test.YtbcpnbmegaodbaaTcx5
namespace Go.Proofs.Ytbcpnbmegaodbaa.Tc
open Go.RowKit Go.Proofs.YtbcpnbmegaodbaaW.PrintWords Go.Proofs.YtbcpnbmegaodbaaW.PrintLast Go.Proofs.YtbcpnbmegaodbaaW.PrintMore Go.Proofs.Ytbcpnbmegaodbaa.Ho
set_option linter.unusedVariables false
set_option linter.unusedSimpArgs false
/-! ### what the document's term tells -/
theorem rtruth_f (b : Bool) : handshakerref07_truth.f b = some (tru b) := by
  unfold handshakerref07_truth.f tru
  split <;> rfl
theorem inR_rng {x : Int} (h : inR x = true) : -2147483648 ≤ x ∧ x ≤ 2147483647 := by simpa [inR] using h
theorem both_f (a x y : Int) (hx : inR x = true) (hy : inR y = true) : handshakerref07_both.f a x y = some (twoB a x y) := by
  have hx := inR_rng hx
  have hy := inR_rng hy
  unfold handshakerref07_both.f twoB
  rw [wr (i := x + y) (by omega) (by omega), wr (i := x - y) (by omega) (by omega), rwrap_f (by omega) (by omega), rwrap_f (by omega) (by omega), rmul_f (by omega) (by omega) (by omega) (by omega)]
  simp only [rtruth_f, Option.bind_some]
  repeat' split
  all_goals first | rfl | (simp_all [tru])
theorem rRight1 (a : Int) : handshakerref01_Right.f a = some (inR a) := by
  unfold handshakerref01_Right.f inR
  by_cases h : a ≥ (-2147483648)
  · rw [if_pos h]; simp [h]
  · rw [if_neg h]; simp [h]
theorem take_sn (t : List S41) (i : Nat) (hi : i < t.length) : t.take (i + 1) = t.take i ++ [t.getD i z41] := by
  rw [List.take_add_one, List.getD_eq_getElem?_getD, List.getElem?_eq_getElem hi]; rfl
/-- The term that ends ahead of i: its operations, what it is told, and whether. -/
structure SegOk (t : List S41) (h : List S58) (regs : List Int) (i : Nat) (s : List S41) (v : Int) (ok : Bool) (dp : Nat) where
  seg : List S41
  eq : t.take i = t.take s.length ++ seg
  wk : walkN seg 0 = some 1
  run : runT h regs seg [] = if ok = true then .ok [v] else .error 3
  rng : inR v = true
  pos : 1 ≤ dp
  le : dp ≤ seg.length
  most : ∀ n m, mostN seg n m = if m < n + dp then n + dp else m
theorem mostN_app : ∀ (a b : List S41) (n m q : Nat), walkN a n = some q → mostN (a ++ b) n m = mostN b q (mostN a n m)
  | [], b, n, m, q, h => by simp only [walkN, Option.some.injEq] at h; subst h; rfl
  | o :: os, b, n, m, q, h => by
    simp only [walkN] at h
    split at h
    · cases h
    · rename_i hn
      simp only [List.cons_append, mostN, if_neg hn]
      exact mostN_app os b _ _ q h
theorem leaf_code {o : S41} {h : List S58} {regs : List Int} (hr : RightB h = true) : (leafB o h regs).2 = 0 ∨ (leafB o h regs).2 = 3 := by
  unfold leafB
  split
  · exact .inl rfl
  · split
    · unfold getB
      rw [if_pos hr]
      split
      · exact .inl rfl
      · exact .inr rfl
    · split
      · exact .inl rfl
      · exact .inr rfl
theorem seg_leaf {t : List S41} {h : List S58} {regs : List Int} (hr : RightB h = true) (i : Nat) (hi : i < t.length) (hm : mayB (t.getD i z41).f0 (t.getD i z41).f1 = true) (ht : takes (t.getD i z41).f0 = 0) (v : Int) (ok : Bool) (hv : ok = true → leafB (t.getD i z41) h regs = (v, 0)) (hv2 : ok = false → (leafB (t.getD i z41) h regs).2 = 3) (hvr : inR v = true) (s : List S41) (hs : need (t.take (i + 1)).reverse 1 = some s) : Nonempty (SegOk t h regs (i + 1) s v ok 1) := by
  rw [take_rev t i hi] at hs
  simp only [need, Nat.zero_add, ht, need_zero, Option.some.injEq] at hs
  subst hs
  have et := take_sn t i hi
  generalize t.getD i z41 = o at *
  refine ⟨⟨[o], ?_, ?_, ?_, hvr, by omega, by simp, ?_⟩⟩
  · rw [et]
    simp
  · simp [walkN, ht]
  · simp only [runT, stepB, ht]
    cases ok with
    | true => rw [hv rfl]; rfl
    | false => rw [hv2 rfl]; rfl
  · intro n m
    simp only [mostN, ht, Nat.not_lt_zero, if_false]
    split <;> split <;> omega
theorem seg_not {t : List S41} {h : List S58} {regs : List Int} (i : Nat) (hi : i < t.length) (ht : takes (t.getD i z41).f0 = 1) {v : Int} {ok : Bool} {dp : Nat} {s : List S41} (hp : SegOk t h regs i s v ok dp) : Nonempty (SegOk t h regs (i + 1) s (tru (v == 0)) ok dp) := by
  have et := take_sn t i hi
  generalize t.getD i z41 = o at *
  refine ⟨⟨hp.seg ++ [o], ?_, ?_, ?_, inR_tru _, hp.pos, by have := hp.le; simp; omega, ?_⟩⟩
  · rw [et, hp.eq]; simp
  · rw [walkN_app, hp.wk]; simp [walkN, ht]
  · rw [runT_app, hp.run]
    cases ok with
    | true => simp only [if_true, runT, stepB, ht]
    | false => rfl
  · intro n m
    have hw := walkN_frame _ 0 1 n hp.wk
    rw [Nat.zero_add] at hw
    rw [mostN_app _ _ n m _ hw, hp.most]
    have := hp.pos
    simp only [mostN, ht]
    rw [if_neg (by omega)]
    repeat' split
    all_goals omega
theorem step_err_frame {h : List S58} {regs : List Int} {o : S41} {p : List Int} {c : Int} (e : stepB h regs o p = .error c) (hp : takes o.f0 ≤ p.length) (r : List Int) : stepB h regs o (p ++ r) = .error c := by
  unfold stepB at e ⊢
  match hk : takes o.f0, p with
  | 0, p =>
    rw [hk] at e
    simp only at e ⊢
    split at e
    · cases e
    · rw [if_neg (by assumption)]; exact e
  | 1, x :: p => rw [hk] at e; simp only at e; cases e
  | 1, [] => rw [hk] at hp; simp at hp
  | 2, y :: x :: p => rw [hk] at e; simp only at e; cases e
  | 2, [_] => rw [hk] at hp; simp at hp
  | 2, [] => rw [hk] at hp; simp at hp
  | n + 3, _ => have := takes_le o.f0; omega
theorem runT_err_frame {h : List S58} {regs : List Int} : ∀ (t : List S41) (p r : List Int) (c : Int), runT h regs t p = .error c → walkN t p.length ≠ none → runT h regs t (p ++ r) = .error c
  | [], p, r, c, e, _ => by simp only [runT] at e; cases e
  | o :: os, p, r, c, e, hw => by
    simp only [runT] at e ⊢
    simp only [walkN] at hw
    have hn : ¬ p.length < takes o.f0 := fun hn => hw (by rw [if_pos hn])
    rw [if_neg hn] at hw
    cases hs : stepB h regs o p with
    | ok m =>
      rw [hs] at e
      rw [step_frame hs r]
      obtain ⟨h1, h2⟩ := step_len hs
      exact runT_err_frame os m r c e (by rw [h2]; exact hw)
    | error d =>
      rw [hs] at e
      rw [step_err_frame hs (by omega) r]
      exact e
theorem seg_two {t : List S41} {h : List S58} {regs : List Int} (i : Nat) (hi : i < t.length) (ht : takes (t.getD i z41).f0 = 2) {x y : Int} {ok1 ok2 : Bool} {d1 d2 : Nat} {s s1 : List S41} (hb : SegOk t h regs i s1 y ok2 d2) (ha : SegOk t h regs s1.length s x ok1 d1) : Nonempty (SegOk t h regs (i + 1) s (twoB (t.getD i z41).f0 x y) (ok2 && ok1) (if d1 < d2 + 1 then d2 + 1 else d1)) := by
  have a1 := ha.pos
  have a2 := ha.le
  have b1 := hb.pos
  have b2 := hb.le
  have et := take_sn t i hi
  generalize t.getD i z41 = o at *
  refine ⟨⟨ha.seg ++ hb.seg ++ [o], ?_, ?_, ?_, inR_two _ _ _, by split <;> omega, by simp; split <;> omega, ?_⟩⟩
  · rw [et, hb.eq, ha.eq]; simp
  · rw [walkN_app, walkN_app, ha.wk]
    simp only [Option.bind_some]
    rw [walkN_frame _ 0 1 1 hb.wk]; simp [walkN, ht]
  · rw [runT_app, runT_app, ha.run]
    cases ok1 with
    | false =>
      simp
    | true =>
      simp only [if_true, Bool.and_true]
      have := hb.run
      cases ok2 with
      | true =>
        rw [if_pos rfl] at this
        have := runT_frame hb.seg [] [y] [x] this
        simp only [List.nil_append] at this
        rw [this]
        simp [runT, stepB, ht]
      | false =>
        rw [if_neg (by decide)] at this
        have e : runT h regs hb.seg ([] ++ [x]) = .error 3 := runT_err_frame _ _ _ _ this (by rw [show ([] : List Int).length = 0 from rfl, hb.wk]; simp)
        simp only [List.nil_append] at e
        rw [e]; rfl
  · intro n m
    have hw := walkN_frame _ 0 1 n ha.wk
    rw [Nat.zero_add] at hw
    have hw2 := walkN_frame _ 0 1 (1 + n) hb.wk
    rw [Nat.zero_add] at hw2
    have hw3 : walkN (ha.seg ++ hb.seg) n = some (1 + (1 + n)) := by rw [walkN_app, hw]; exact hw2
    rw [mostN_app _ _ n m _ hw3, mostN_app _ _ n m _ hw, ha.most, hb.most]
    simp only [mostN, ht]
    rw [if_neg (by omega)]
    repeat' split
    all_goals omega
end Go.Proofs.Ytbcpnbmegaodbaa.Tc
