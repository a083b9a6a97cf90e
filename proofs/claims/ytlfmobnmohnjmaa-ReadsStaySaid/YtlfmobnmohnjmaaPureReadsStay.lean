/-
 PROVED: what is valid to somebody is so when they have locked more, and when somebody else has locked what has none of its records, and not when somebody else stamps one of them, for every list of reads, table, cells and three numbers. Condition: each argument is of its kind; nothing else.
-/
import Derived.Test.YtlfmobnmohnjmaaRsLem
import Derived.Test.YtlfmobnmohnjmaaRsx5
import Derived.Test.YtlfmobnmohnjmaaRsx8
namespace Go.Proofs.Ytlfmobnmohnjmaa.Rs
open Go.RowKit Go.Proofs.YtlfmobnmohnjmaaW.PrintWords Go.Proofs.YtlfmobnmohnjmaaW.PrintLast Go.Proofs.YtlfmobnmohnjmaaW.PrintMore Go.Proofs.Ytlfmobnmohnjmaa.Ho
set_option linter.unusedVariables false
set_option linter.unusedSimpArgs false
def hit (l : List S24) (n : Nat) (y : Int) : Bool := l.any fun x => Int.tmod x.f0 (n : Int) == y
theorem Stay_l1 (l : List S24) (t : List S67) (who other v : Int) (th : List S67) (y : Int) (is : List Int) (i : Int) (hm : l.length < 4398046511) (ht : t.length ≠ 0) (K : Nat) (r : Option Bool) (b0 : Bool) (hr : ∀ k, K < k → handshakerlaw05_ReadsStay.l0 k l t who other v th (b0 || hit l t.length y) is (is.length : Int) (wrap64 (i + 1)) = r) (d : Nat) : ∀ (k j : Nat) (b : Bool), j ≤ l.length → l.length - j = d → d + K + 1 < k → b = (b0 || (l.take j).any fun x => Int.tmod x.f0 (t.length : Int) == y) →
 handshakerlaw05_ReadsStay.l1 k l t who other v th b y is (is.length : Int) i l (l.length : Int) (j : Int) = r := by
 induction d with
 | zero =>
  intro k j b hj hd hk hb
  obtain ⟨k, rfl⟩ : ∃ m, k = m + 1 := ⟨k - 1, by omega⟩
  rw [List.take_of_length_le (by omega)] at hb
  simp only [handshakerlaw05_ReadsStay.l1]
  rw [if_neg (by omega), hb]
  exact hr k (by omega)
 | succ d ih =>
  intro k j b hj hd hk hb
  obtain ⟨k, rfl⟩ : ∃ m, k = m + 1 := ⟨k - 1, by omega⟩
  have next := fun b' hb' => ih k (j + 1) b' (by omega) (by omega) (by omega) hb'
  rw [take_snG l z24 j (by omega), List.any_append, ← Bool.or_assoc, ← hb] at next
  simp only [List.any_cons, List.any_nil, Bool.or_false] at next
  simp only [handshakerlaw05_ReadsStay.l1]
  rw [if_pos (by omega), if_pos (by omega), if_pos (by omega), wrN (by omega), show rd_T24 l (j : Int) = l.getD j z24 from rfl]
  cases b with
  | true => rw [if_pos rfl]; exact next true (by simp)
  | false => rw [if_neg (by decide), if_neg (by omega)]; exact next _ (by simp)
theorem Stay_l0 (l : List S24) (t : List S67) (who other v : Int) (th : List S67) (is : List Int) (hm : l.length ≤ 40) (ht : t.length ≠ 0) (hi : is.length ≤ 60) (r : Option Bool) (hr : ∀ k, 200 ≤ k → handshakerlaw05_ReadsStay.l0 (k + 1) l t who other v th (is.any (hit l t.length)) is (is.length : Int) (is.length : Int) = r) (d : Nat) : ∀ (k i : Nat) (b : Bool), i ≤ is.length → is.length - i = d → 60 * d + 300 < k → b = (is.take i).any (hit l t.length) →
 handshakerlaw05_ReadsStay.l0 k l t who other v th b is (is.length : Int) (i : Int) = r := by
 induction d with
 | zero =>
  intro k i b hi' hd hk hb
  obtain ⟨k, rfl⟩ : ∃ m, k = m + 1 := ⟨k - 1, by omega⟩
  have : i = is.length := by omega
  subst this
  rw [List.take_of_length_le (by omega)] at hb
  rw [hb]
  exact hr k (by omega)
 | succ d ih =>
  intro k i b hi' hd hk hb
  obtain ⟨k, rfl⟩ : ∃ m, k = m + 1 := ⟨k - 1, by omega⟩
  simp only [handshakerlaw05_ReadsStay.l0]
  rw [if_pos (by omega), if_pos (by omega), if_pos (by omega), show rd is (i : Int) = is.getD i 0 from rfl]
  obtain ⟨M, hM⟩ : ∃ M, 60 * d + 310 = M := ⟨_, rfl⟩
  have hk2 : l.length + M + 1 < k := by omega
  refine Stay_l1 l t who other v th _ is _ (by omega) ht M r b (fun k hk => ?_) l.length k 0 b (Nat.zero_le _) (Nat.sub_zero _) hk2 (by rw [List.take_zero, List.any_nil, Bool.or_false])
  have hk3 : 60 * d + 300 < k := by omega
  rw [wrN (by omega)]
  refine ih k (i + 1) _ (by omega) (by omega) hk3 ?_
  rw [take_snG is 0 i (by omega), List.any_append, ← hb]; simp
theorem validR_zero {l : List S24} {t : List S67} {who : Int} (h : rightR l = true) (h1 : rightT t = true) (h2 : whoB who = true) : validR l t who = 0 ↔ ∀ x ∈ l, okV t who x = true := by
 unfold validR
 rw [h, h1, h2, if_pos (show (true && true && true) = true from rfl), ← List.all_eq_true]
 split
 · rename_i g; exact ⟨fun _ => g, fun _ => rfl⟩
 · rename_i g; exact ⟨fun e => (by cases e), fun e => absurd e g⟩
theorem upd_right {t : List S67} (ht : rightT t = true) (f : S67 → S67) (hf : ∀ x, okT x = true → okT (f x) = true) (p : Nat → Bool) : rightT (upd f p t) = true := by
 obtain ⟨h1, h2, h3⟩ := rightT_ok ht
 unfold rightT
 rw [upd_len, Bool.and_eq_true, decide_eq_true_eq, List.all_eq_true]
 refine ⟨⟨h1, h2⟩, fun x hx => ?_⟩
 unfold upd at hx
 obtain ⟨i, hi, rfl⟩ := List.mem_map.1 hx
 have hg := h3 _ (getD_in t z67 i (List.mem_range.1 hi))
 split
 · exact hf _ hg
 · exact hg
theorem own_ok {who : Int} (hw : 0 ≤ who ∧ who ≤ 8) (x : S67) (h : okT x = true) : okT (own who x) = true := by
 unfold okT at h ⊢
 rw [Bool.and_eq_true] at h ⊢
 exact ⟨h.1, decide_eq_true hw⟩
theorem ReadsStay : handshakerlaw05_ReadsStay.Pure := by
 intro l t who other v cells _ _ _ _ _ _ _ _ _ _ _ _
 obtain ⟨K, hK⟩ : ∃ K, l.length + t.length + cells.length + 9000 = K := ⟨_, rfl⟩
 refine ⟨K + 2, ?_⟩
 have aw : ∀ k, 60 ≤ k → (handshakerlaw05_awake.f k).bind (fun t => some t) = some true := fun k hk => by rw [awake5 k hk]; rfl
 have hj : handshakerlaw05_ReadsStay.j0 (K + 2) l t who other v cells true = some true := by
  simp only [handshakerlaw05_ReadsStay.j0, if_true]; exact aw _ (by omega)
 unfold handshakerlaw05_ReadsStay.f
 by_cases h1 : (l.length : Int) > 24
 · rw [if_pos h1]; exact hj
 rw [if_neg h1]
 by_cases h2 : (t.length : Int) > 16
 · rw [if_pos h2]; exact hj
 rw [if_neg h2]
 by_cases h3 : (cells.length : Int) > 30
 · rw [if_pos h3]; exact hj
 rw [if_neg h3]
 by_cases h4 : who = other
 · rw [if_pos h4]; exact hj
 rw [if_neg h4, ValidR_f (K + 2) l t who (by omega) (by omega)]
 simp only [Option.bind_some]
 by_cases h5 : ¬ validR l t who = 0
 · rw [show (validR l t who != 0) = true from by simpa using h5]; exact hj
 replace h5 := Decidable.not_not.mp h5
 rw [show (validR l t who != 0) = false from by simpa using h5]
 have hall : rightR l = true ∧ rightT t = true ∧ whoB who = true := by
  unfold validR at h5
  split at h5
  · rename_i g
    simp only [Bool.and_eq_true] at g
    exact ⟨g.1.1, g.1.2, g.2⟩
  · cases h5
 obtain ⟨hr, ht, hw⟩ := hall
 have hok := (validR_zero hr ht hw).1 h5
 obtain ⟨t1, t2, t3⟩ := rightT_ok ht
 have hpos : ∀ x ∈ l, 0 ≤ x.f0 := fun x hx => ((okR_eq x).1 (((rightR_iff l).1 hr).2.1 x hx)).1
 have hwr : 1 ≤ who ∧ who ≤ 8 := by unfold whoB at hw; exact of_decide_eq_true hw
 have hlt : ∀ c : Int, c.toNat % t.length < t.length := fun c => Nat.mod_lt _ (by omega)
 simp only [handshakerlaw05_ReadsStay.j0]
 rw [if_neg (by decide), Lock_f (K + 1) t who cells (by omega) (by omega)]
 simp only [Option.bind_some]
 have hj1 : handshakerlaw05_ReadsStay.j1 (K + 1) l t who other v cells false = some true := by
  simp only [handshakerlaw05_ReadsStay.j1]
  rw [if_neg (by decide), Lock_f K t other cells (by omega) (by omega)]
  simp only [Option.bind_some]
  by_cases e : (lockT t other cells).2 = 0
  · rw [if_pos e, Of_f K t cells (by omega) (by omega)]
    simp only [Option.bind_some]
    have hc : whoT other = true ∧ negB cells = false ∧ (lockT t other cells).1 = upd (own other) (inL (ofL t.length cells)) t := by
     unfold lockT at e ⊢
     split at e
     · rename_i g
       rw [if_pos g]
       simp only [Bool.and_eq_true, Bool.not_eq_true'] at g
       split at e
       · rename_i g2
         rw [if_pos g2]; exact ⟨g.1.2, g.2, rfl⟩
       · cases e
     · cases e
    obtain ⟨ho, hn, hl⟩ := hc
    have hor : 1 ≤ other ∧ other ≤ 8 := by unfold whoT at ho; exact of_decide_eq_true ho
    have eo : ofT t cells = ofL t.length cells := by unfold ofT; rw [ht, hn]; rfl
    have hil := ofL_len t.length cells
    have hrng := ofL_rng (n := t.length) (by omega) (negB_no hn)
    rw [eo, hl]
    generalize ofL t.length cells = is at *
    have meet_iff : is.any (hit l t.length) = true ↔ ∃ x ∈ l, inL is (x.f0.toNat % t.length) = true := by
     rw [List.any_eq_true]
     unfold hit
     constructor
     · rintro ⟨y, hy, h⟩
       obtain ⟨x, hx, h⟩ := List.any_eq_true.1 h
       obtain ⟨m, e1, _, e3⟩ := tmodN x.f0 t.length (hpos x hx) (by omega)
       refine ⟨x, hx, ?_⟩
       rw [inL_iff, ← e3, ← e1, beq_iff_eq.1 h]; exact hy
     · rintro ⟨x, hx, h⟩
       rw [inL_iff] at h
       obtain ⟨m, e1, _, e3⟩ := tmodN x.f0 t.length (hpos x hx) (by omega)
       exact ⟨_, h, List.any_eq_true.2 ⟨x, hx, by rw [e1, e3]; simp⟩⟩
    have hth : rightT (upd (own other) (inL is) t) = true := upd_right ht _ (own_ok (by omega)) _
    have hth_at : ∀ x ∈ l, (upd (own other) (inL is) t).getD (x.f0.toNat % t.length) z67 = if inL is (x.f0.toNat % t.length) = true then own other (t.getD (x.f0.toNat % t.length) z67) else t.getD (x.f0.toNat % t.length) z67 := fun x hx => upd_at _ _ t _ (hlt _)
    have hv : validR l (upd (own other) (inL is) t) who = 0 ↔ is.any (hit l t.length) = false := by
     rw [validR_zero hr hth hw, ← Bool.not_eq_true, meet_iff]
     constructor
     · rintro h ⟨x, hx, hp⟩
       have := h x hx
       unfold okV at this
       rw [upd_len, hth_at x hx, if_pos hp] at this
       simp only [own, Bool.and_eq_true, Bool.or_eq_true, beq_iff_eq] at this
       omega
     · intro h x hx
       have h0 := hok x hx
       unfold okV at h0 ⊢
       rw [upd_len, hth_at x hx, if_neg (fun hp => h ⟨x, hx, hp⟩)]
       exact h0
    have hs : (stampT (upd (own other) (inL is) t) other v).2 = 0 → (validR l (stampT (upd (own other) (inL is) t) other v).1 who = 0 ↔ is.any (hit l t.length) = false) := by
     intro hs
     have hc : 0 ≤ v ∧ v ≤ 2147483647 ∧ (∀ i ∈ heldL (upd (own other) (inL is) t) other, ((upd (own other) (inL is) t).getD i.toNat z67).f0 < v) ∧ (stampT (upd (own other) (inL is) t) other v).1 = upd (fun _ => ⟨v, 0⟩) (fun i => ((upd (own other) (inL is) t).getD i z67).f1 == other) (upd (own other) (inL is) t) := by
      unfold stampT at hs ⊢
      split at hs
      · rename_i g
        rw [if_pos g]
        split at hs
        · rename_i g2
          rw [if_pos g2]
          refine ⟨g2.1, g2.2.1, fun i hi => ?_, rfl⟩
          have := List.all_eq_true.1 g2.2.2 i hi
          exact of_decide_eq_true this
        · cases hs
      · cases hs
     obtain ⟨v0, v1, hlow, hst⟩ := hc
     have hrs : rightT (upd (fun _ => (⟨v, 0⟩ : S67)) (fun i => ((upd (own other) (inL is) t).getD i z67).f1 == other) (upd (own other) (inL is) t)) = true := upd_right hth _ (fun _ _ => by unfold okT tickB; simp; omega) _
     rw [hst, validR_zero hr hrs hw, ← Bool.not_eq_true, meet_iff]
     constructor
     · rintro h ⟨x, hx, hp⟩
       have h0 := hok x hx
       have := h x hx
       unfold okV at this h0
       have hlt' := hlt x.f0
       rw [upd_len, upd_len, upd_at _ _ _ _ (by rw [upd_len]; exact hlt'), hth_at x hx, if_pos hp] at this
       have hm : ((x.f0.toNat % t.length : Nat) : Int) ∈ heldL (upd (own other) (inL is) t) other := by
        rw [heldL_mem, upd_len, hth_at x hx, if_pos hp]
        exact ⟨hlt', rfl⟩
       have hl2 := hlow _ hm
       rw [Int.toNat_natCast, hth_at x hx, if_pos hp] at hl2
       simp only [own, BEq.rfl, if_true, Bool.and_eq_true, beq_iff_eq] at this hl2 h0
       omega
     · intro h x hx
       have h0 := hok x hx
       have hlt' := hlt x.f0
       unfold okV at h0 ⊢
       have hne : ¬ ((t.getD (x.f0.toNat % t.length) z67).f1 == other) = true := by
        intro e'
        simp only [Bool.and_eq_true, Bool.or_eq_true, beq_iff_eq] at h0 e'
        omega
       rw [upd_len, upd_len, upd_at _ _ _ _ (by rw [upd_len]; exact hlt'), hth_at x hx, if_neg (fun hp => h ⟨x, hx, hp⟩), if_neg hne]
       exact h0
    have hthl := upd_len (own other) (inL is) t
    generalize upd (own other) (inL is) t = th at *
    have hsl : (stampT th other v).1.length = th.length := by
     unfold stampT
     split
     · split
       · simp only [upd_len]
       · rfl
     · rfl
    refine Stay_l0 l t who other v th is (by omega) (by omega) (by omega) (some true) (fun k hk => ?_) is.length K 0 false (by omega) (by omega) (by omega) (by simp)
    simp only [handshakerlaw05_ReadsStay.l0]
    rw [if_neg (by omega), ValidR_f k l th who (by omega) (by omega), Stamp_f k th other v (by omega) (by omega)]
    simp only [Option.bind_some]
    rw [ValidR_f k l (stampT th other v).1 who (by omega) (by omega)]
    simp only [Option.bind_some]
    cases hb : is.any (hit l t.length) with
    | true =>
     rw [hb] at hv hs
     rw [if_neg (fun e => by have := hv.1 e; cases this), if_pos rfl]
     by_cases g : (stampT th other v).2 = 0
     · rw [if_pos g, if_neg (fun e => by have := (hs g).1 e; cases this)]; exact aw k (by omega)
     · rw [if_neg g]; exact aw k (by omega)
    | false =>
     rw [hb] at hv hs
     rw [if_pos (hv.2 rfl), if_neg (by decide)]
     by_cases g : (stampT th other v).2 = 0
     · rw [if_pos g, if_pos ((hs g).2 rfl)]; exact aw k (by omega)
     · rw [if_neg g]; exact aw k (by omega)
  · rw [if_neg e]; exact aw K (by omega)
 by_cases e : (lockT t who cells).2 = 0
 · rw [if_pos e]
   have hv : validR l (lockT t who cells).1 who = 0 := by
    have hc : (lockT t who cells).1 = upd (own who) (inL (ofL t.length cells)) t := by
     unfold lockT at e ⊢
     split at e
     · rename_i g
       rw [if_pos g]
       split at e
       · rename_i g2
         rw [if_pos g2]
       · cases e
     · cases e
    rw [hc, validR_zero hr (upd_right ht _ (own_ok (by omega)) _) hw]
    intro x hx
    have h0 := hok x hx
    unfold okV at h0 ⊢
    rw [upd_len, upd_at _ _ t _ (hlt _)]
    split
    · simp only [own, Bool.and_eq_true, Bool.or_eq_true, beq_iff_eq] at h0 ⊢
      exact ⟨h0.1, by simp⟩
    · exact h0
   rw [ValidR_f (K + 1) l _ who (by omega) (by omega), hv]
   exact hj1
 · rw [if_neg e]; exact hj1
end Go.Proofs.Ytlfmobnmohnjmaa.Rs
namespace Go.Proofs.Ytlfmobnmohnjmaa.Pure
theorem ReadsStay : Go.Proofs.Ytlfmobnmohnjmaa.Rs.handshakerlaw05_ReadsStay.Pure := Go.Proofs.Ytlfmobnmohnjmaa.Rs.ReadsStay
end Go.Proofs.Ytlfmobnmohnjmaa.Pure
