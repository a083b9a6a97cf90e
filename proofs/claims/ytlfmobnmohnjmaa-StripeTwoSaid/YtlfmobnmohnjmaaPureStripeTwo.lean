/-
 PROVED: of two who lock cells of one record the second one is refused, and gets it when the first one has let it, or stamped it, for every four numbers. Condition: each argument is of its kind; nothing else.
-/
import Derived.Test.YtlfmobnmohnjmaaTLem
import Derived.Test.YtlfmobnmohnjmaaTLem3
import Derived.Test.YtlfmobnmohnjmaaTx4
import Derived.Test.YtlfmobnmohnjmaaTx10
namespace Go.Proofs.Ytlfmobnmohnjmaa.T
open Go.RowKit Go.Proofs.YtlfmobnmohnjmaaW.PrintWords Go.Proofs.YtlfmobnmohnjmaaW.PrintLast Go.Proofs.YtlfmobnmohnjmaaW.PrintMore Go.Proofs.Ytlfmobnmohnjmaa.Ho
set_option linter.unusedVariables false
set_option linter.unusedSimpArgs false
theorem New_f (n : Int) : stripe_New.f n = some (if 1 ≤ n ∧ n ≤ 16 then (List.replicate n.toNat z67, 0) else ([], 1)) := by
 unfold stripe_New.f
 by_cases h1 : n < 1
 · rw [if_pos h1, if_neg (by omega)]
 · rw [if_neg h1]
   by_cases h2 : n > 16
   · rw [if_pos h2, if_neg (by omega)]
   · rw [if_neg h2, if_pos (by omega), if_pos (by omega), if_pos (by omega)]
theorem rep_at (n i : Nat) : (List.replicate n z67).getD i z67 = z67 := by
 rw [List.getD_eq_getElem?_getD, List.getElem?_replicate]
 split <;> rfl
theorem rep_right (n : Nat) (h : 1 ≤ n ∧ n ≤ 16) : rightT (List.replicate n z67) = true := by
 unfold rightT
 rw [List.length_replicate, decide_eq_true h, Bool.true_and, List.all_eq_true]
 intro x hx
 rw [(List.mem_replicate.1 hx).2]; rfl
theorem lock_free {a : List S67} (ha : rightT a = true) {who : Int} (hw : whoT who = true) {cells : List Int} (hc : ∀ c ∈ cells, 0 ≤ c) (h : ∀ i : Nat, i < a.length → (i : Int) ∈ ofL a.length cells → (a.getD i z67).f1 = 0 ∨ (a.getD i z67).f1 = who) : lockT a who cells = (upd (own who) (inL (ofL a.length cells)) a, 0) := by
 have hn := (rightT_ok ha).1
 refine lockT_yes ha hw (negB_of hc) fun x hx => ?_
 have hr := ofL_rng (n := a.length) (by omega) hc x hx
 unfold freeT
 have := h x.toNat (by omega) (by rw [show ((x.toNat : Nat) : Int) = x from by omega]; exact hx)
 simpa using this
theorem Two_j0 (n : Nat) (hn : 1 ≤ n ∧ n ≤ 16) (x y v3 : Int) (hx : 0 ≤ x ∧ x ≤ 65535) (hy : 0 ≤ y ∧ y ≤ 65535) (hv : 0 ≤ v3 ∧ v3 ≤ 4294967295) (one two : List S67) (m : Nat) (hm : Int.tmod x (n : Int) = (m : Int)) (hmn : m < n) (r1 : rightT one = true) (l1 : one.length = n) (o1 : ∀ i, i < n → one.getD i z67 = if i = m then ⟨0, 1⟩ else ⟨0, 0⟩) (r2 : rightT two = true) (l2 : two.length = n) (o2 : (two.getD m z67).f1 = 1) (k : Nat) (hk : 300 < k) :
 handshakerlaw03_StripeTwo.j0 (k + 1) v3 (n : Int) x y one two false = some true := by
 have hq : ∃ q : Nat, Int.tmod v3 2147483647 = (q : Int) ∧ q < 2147483647 := by
  obtain ⟨q, e, e2, _⟩ := tmodN v3 2147483647 (by omega) (by omega)
  exact ⟨q, e, e2⟩
 obtain ⟨q, eq, hq⟩ := hq
 have ev : wrap64 (1 + wrap64 (Int.tmod v3 2147483647)) = ((q + 1 : Nat) : Int) := by
  rw [eq, wr (i := (q : Int)) (by omega) (by omega), wr (by omega) (by omega)]; omega
 have hx1 : ∀ c ∈ [x], 0 ≤ c := fun c h => by rw [List.mem_singleton.1 h]; omega
 have hxy : ∀ c ∈ [x, y], 0 ≤ c := fun c h => by
  simp only [List.mem_cons, List.not_mem_nil, or_false] at h
  rcases h with rfl | rfl <;> omega
 -- the stamp
 have hs : stampT one 1 ((q + 1 : Nat) : Int) = (upd (fun _ => ⟨((q + 1 : Nat) : Int), 0⟩) (fun i => (one.getD i z67).f1 == 1) one, 0) := by
  have hall : (heldL one 1).all (fun i => decide ((one.getD i.toNat z67).f0 < ((q + 1 : Nat) : Int))) = true := by
   rw [List.all_eq_true]
   intro y hy
   have hr := heldL_rng one 1 y hy
   rw [l1] at hr
   rw [decide_eq_true_eq, o1 y.toNat (by omega)]
   split <;> (simp only; omega)
  unfold stampT
  rw [r1, if_pos (show (true && whoT 1) = true from rfl), if_pos ⟨by omega, by omega, hall⟩]
 have s_at : ∀ i, i < n → (stampT one 1 ((q + 1 : Nat) : Int)).1.getD i z67 = if i = m then ⟨((q + 1 : Nat) : Int), 0⟩ else ⟨0, 0⟩ := fun i hi => by
  rw [hs]
  rw [upd_at _ _ one i (by omega), o1 i hi]
  by_cases e : i = m
  · rw [if_pos e, if_pos e]; rfl
  · rw [if_neg e, if_neg e]; rfl
 have s_len : (stampT one 1 ((q + 1 : Nat) : Int)).1.length = n := by rw [hs]; simp only [upd_len]; exact l1
 have s_right : rightT (stampT one 1 ((q + 1 : Nat) : Int)).1 = true := by
  rw [hs]
  refine upd_right r1 (fun _ => (⟨((q + 1 : Nat) : Int), 0⟩ : S67)) (fun _ _ => ?_) _
  show (decide (0 ≤ ((q + 1 : Nat) : Int) ∧ ((q + 1 : Nat) : Int) ≤ 2147483647) && decide ((0 : Int) ≤ 0 ∧ (0 : Int) ≤ 8)) = true
  rw [decide_eq_true (show 0 ≤ ((q + 1 : Nat) : Int) ∧ ((q + 1 : Nat) : Int) ≤ 2147483647 by omega)]; rfl
 have s_ok : (stampT one 1 ((q + 1 : Nat) : Int)).2 = 0 := by rw [hs]
 have le_at : ∀ i, i < n → ((letT one 1).getD i z67).f1 = 0 := fun i hi => by
  rw [letT_at r1 (by rfl) i (by omega), o1 i hi]
  by_cases e : i = m
  · rw [if_pos e]; rfl
  · rw [if_neg e]; rfl
 have le_len : (letT one 1).length = n := (letT_len one 1).trans l1
 have q1 : (lockT (stampT one 1 ((q + 1 : Nat) : Int)).1 2 [x, y]).2 = 0 := by
  rw [lock_free s_right (by rfl) hxy (fun i hi _ => by
   rw [s_len] at hi
   rw [s_at i hi]
   split <;> exact .inl rfl)]
 have q2 : (lockT (letT one 1) 2 [x, y]).2 = 0 := by
  rw [lock_free (letT_right r1 1) (by rfl) hxy (fun i hi _ => by
   rw [le_len] at hi
   exact .inl (le_at i hi))]
 have q3 : (lockT two 1 [x]).2 = 0 := by
  rw [lock_free r2 (by rfl) hx1 (fun i hi h => by
   rw [l2, ofL_one, hm, List.mem_singleton] at h
   have : i = m := by omega
   rw [this]; exact .inr o2)]
 simp only [handshakerlaw03_StripeTwo.j0]
 rw [if_neg (by decide), ev, Stamp_f k one 1 _ (by omega) (by omega), Let_f k one 1 (by omega) (by omega)]
 simp only [Option.bind_some]
 rw [Lock_f k _ 2 [x, y] (by simp) (by simp; omega), Lock_f k (letT one 1) 2 [x, y] (by simp) (by simp; omega), Lock_f k two 1 [x] (by simp) (by simp; omega)]
 simp only [Option.bind_some]
 rw [if_pos s_ok, if_pos q1, if_pos q2, if_pos q3, if_pos (by rw [s_len]), if_neg (by omega), hm, if_pos (by omega), if_pos (by rw [s_len]; omega)]
 rw [if_pos (by
  show ((stampT one 1 ((q + 1 : Nat) : Int)).1.getD m z67).f0 = _
  rw [s_at m hmn, if_pos rfl]), awake3 k (by omega)]; rfl
theorem StripeTwo : handshakerlaw03_StripeTwo.Pure := by
 intro a0 x y v w0 w1 w2 w3
 have h0 : 0 ≤ a0 ∧ a0 ≤ 255 := by simpa [Lit.wf, IntKind.bits, IntKind.signed, IntKind.min, IntKind.max] using w0
 have hx : 0 ≤ x ∧ x ≤ 65535 := by simpa [Lit.wf, IntKind.bits, IntKind.signed, IntKind.min, IntKind.max] using w1
 have hy : 0 ≤ y ∧ y ≤ 65535 := by simpa [Lit.wf, IntKind.bits, IntKind.signed, IntKind.min, IntKind.max] using w2
 have hv : 0 ≤ v ∧ v ≤ 4294967295 := by simpa [Lit.wf, IntKind.bits, IntKind.signed, IntKind.min, IntKind.max] using w3
 refine ⟨400, ?_⟩
 generalize hK : (400 : Nat) = K
 obtain ⟨k, rfl⟩ : ∃ m, K = m + 1 := ⟨K - 1, by omega⟩
 obtain ⟨n, en, hn⟩ : ∃ n : Nat, wrap64 (1 + wrap64 (Int.tmod a0 16)) = (n : Int) ∧ 1 ≤ n ∧ n ≤ 16 := by
  obtain ⟨q, e, e2, _⟩ := tmodN a0 16 (by omega) (by omega)
  refine ⟨q + 1, ?_, by omega, by omega⟩
  rw [show Int.tmod a0 16 = (q : Int) from e, wr (i := (q : Int)) (by omega) (by omega), wr (by omega) (by omega)]; omega
 unfold handshakerlaw03_StripeTwo.f
 rw [en, New_f, if_pos (by omega), wr (i := x) (by omega) (by omega), wr (i := y) (by omega) (by omega)]
 simp only [Option.bind_some]
 rw [show ((n : Int)).toNat = n from by omega]
 have rt := rep_right n hn
 have lt : (List.replicate n z67).length = n := List.length_replicate
 have ta : ∀ i, (List.replicate n z67).getD i z67 = z67 := rep_at n
 generalize List.replicate n z67 = t at *
 obtain ⟨m, hm, hmn, _⟩ := tmodN x n hx.1 (by omega)
 obtain ⟨m2, hm2, hmn2, _⟩ := tmodN y n hy.1 (by omega)
 have hx1 : ∀ c ∈ [x], 0 ≤ c := fun c h => by rw [List.mem_singleton.1 h]; omega
 have hy1 : ∀ c ∈ [y], 0 ≤ c := fun c h => by rw [List.mem_singleton.1 h]; omega
 rw [Lock_f (k + 1) t 1 [x] (by simp) (by simp; omega), lock_free rt (by rfl) hx1 (fun i _ _ => by rw [ta i]; exact .inl rfl)]
 simp only [Option.bind_some]
 have o1 : ∀ i, i < n → (upd (own 1) (inL (ofL t.length [x])) t).getD i z67 = if i = m then ⟨0, 1⟩ else ⟨0, 0⟩ := fun i hi => by
  rw [upd_at _ _ t i (by omega), ta i, lt, ofL_one, hm]
  by_cases e : i = m
  · rw [if_pos e, if_pos (by rw [inL_iff, List.mem_singleton]; omega)]; rfl
  · rw [if_neg e, if_neg (by rw [inL_iff, List.mem_singleton]; omega)]; rfl
 have l1 : (upd (own 1) (inL (ofL t.length [x])) t).length = n := (upd_len _ _ _).trans lt
 have r1 : rightT (upd (own 1) (inL (ofL t.length [x])) t) = true := upd_right rt _ (own_ok (by omega)) _
 generalize upd (own 1) (inL (ofL t.length [x])) t = one at *
 rw [Lock_f (k + 1) one 2 [y] (by simp) (by simp; omega)]
 simp only [Option.bind_some, if_true]
 rw [if_neg (by omega), hm, hm2]
 have hl2 := lockT_len one 2 [y]
 have hr2 := lockT_right r1 2 [y]
 by_cases e : m = m2
 · subst e
   have e2 : lockT one 2 [y] = (one, 7) := by
    unfold lockT
    rw [r1, negB_of hy1, if_pos (show (true && whoT 2 && !false) = true from rfl), l1, ofL_one, hm2, if_neg]
    rw [List.all_cons, List.all_nil, Bool.and_true]
    unfold freeT
    rw [Int.toNat_natCast, o1 m hmn, if_pos rfl]; decide
   rw [e2]
   simp only
   rw [if_pos trivial, if_pos trivial, if_neg (by decide)]
   exact Two_j0 n hn x y v hx hy hv one one m hm hmn r1 l1 o1 r1 l1 (by rw [o1 m hmn, if_pos rfl]) k (by omega)
 · have e2 := lock_free r1 (who := 2) (by rfl) hy1 (fun i hi h => by
    rw [l1, ofL_one, hm2, List.mem_singleton] at h
    rw [l1] at hi
    rw [o1 i hi, if_neg (by omega)]; exact .inl rfl)
   rw [e2]
   simp only
   rw [if_neg (by decide), if_neg (by omega), if_pos trivial]
   refine Two_j0 n hn x y v hx hy hv one _ m hm hmn r1 l1 o1 ?_ ((upd_len _ _ _).trans l1) ?_ k (by omega)
   · exact upd_right r1 _ (own_ok (by omega)) _
   · rw [upd_at _ _ one m (by omega), l1, ofL_one, hm2, if_neg (by rw [inL_iff, List.mem_singleton]; omega), o1 m hmn, if_pos rfl]
end Go.Proofs.Ytlfmobnmohnjmaa.T
namespace Go.Proofs.Ytlfmobnmohnjmaa.Pure
theorem StripeTwo : Go.Proofs.Ytlfmobnmohnjmaa.T.handshakerlaw03_StripeTwo.Pure := Go.Proofs.Ytlfmobnmohnjmaa.T.StripeTwo
end Go.Proofs.Ytlfmobnmohnjmaa.Pure
