/-
  PROVED: whoever defers a job holds its cells till it is done, and nobody else can defer one of them, for all jobs. Condition: each argument is of its kind; nothing else.
-/
import Derived.Test.YtihcnbhcemkncaaALem3
import Derived.Test.YtihcnbhcemkncaaAx18
namespace Go.Proofs.Ytihcnbhcemkncaa.A
open Go.RowKit Go.Proofs.YtihcnbhcemkncaaW.PrintWords Go.Proofs.YtihcnbhcemkncaaW.PrintLast Go.Proofs.YtihcnbhcemkncaaW.PrintMore Go.Proofs.Ytihcnbhcemkncaa.Ho
set_option linter.unusedVariables false
set_option linter.unusedSimpArgs false
theorem defer_ok {l : List Jb} {j : Jb} (h : (deferB l j).2 = 0) : RJ l ∧ mayB j = true ∧ (∀ x ∈ l, Fine x j) ∧ l.length < 16 ∧ deferB l j = (l ++ [j], 0) := by
  unfold deferB at h ⊢
  by_cases hr : rightJ l = true ∧ mayB j = true
  · rw [if_pos hr] at h ⊢
    have hl := (rightJ_iff l).1 hr.1
    by_cases ha : l.any (againstB j) = true
    · rw [if_pos ha] at h; exact absurd (show (7 : Int) = 0 from h) (by decide)
    · rw [if_neg ha] at h ⊢
      by_cases h6 : l.length = 16
      · rw [if_pos h6] at h; exact absurd (show (4 : Int) = 0 from h) (by decide)
      · rw [if_neg h6]
        exact ⟨hl, hr.2, anyAgainst_no.1 (Bool.eq_false_iff.2 ha), by have := hl.1; omega, rfl⟩
  · rw [if_neg hr] at h; exact absurd (show (1 : Int) = 0 from h) (by decide)
theorem defer_bad {l : List Jb} {j : Jb} (h : (deferB l j).2 ≠ 0) : (deferB l j).1 = l := by
  unfold deferB at h ⊢
  by_cases hr : rightJ l = true ∧ mayB j = true
  · rw [if_pos hr] at h ⊢
    by_cases ha : l.any (againstB j) = true
    · rw [if_pos ha]
    · rw [if_neg ha] at h ⊢
      by_cases h6 : l.length = 16
      · rw [if_pos h6]
      · rw [if_neg h6] at h; exact absurd rfl h
  · rw [if_neg hr]
theorem right_app {l : List Jb} {j : Jb} (hl : RJ l) (hj : mayB j = true) (hf : ∀ x ∈ l, Fine x j) (h6 : l.length < 16) : RJ (l ++ [j]) := by
  refine ⟨by rw [List.length_append]; simp; omega, fun x hx => ?_, ?_⟩
  · rcases List.mem_append.1 hx with hx | hx
    · exact hl.2.1 x hx
    · rw [List.mem_singleton.1 hx]; exact hj
  · rw [List.pairwise_append]
    exact ⟨hl.2.2, List.pairwise_singleton _ _, fun x hx y hy => by rw [List.mem_singleton.1 hy]; exact hf x hx⟩
theorem set_may {w c : Int} (hw : 1 ≤ w ∧ w ≤ 8) (hc : 0 ≤ c ∧ c < 64) : mayB ⟨w, [⟨c, 1, 0⟩]⟩ = true := by
  rw [mayB_iff]
  refine ⟨hw, ⟨Nat.le_refl _, by show 1 ≤ 8; omega⟩, fun a ha => ?_⟩
  rw [List.mem_singleton.1 ha, okA_iff]
  exact ⟨hc, .inl rfl, (inR_iff 0).2 (by omega)⟩
theorem set_any {m : List Jb} {j : Jb} {a : Ac} {w : Int} (hm : RJ m) (hj : j ∈ m) (ha : a ∈ j.f1) : m.any (againstB ⟨w, [⟨a.f0, 1, 0⟩]⟩) = decide (w ≠ j.f0) := by
  have hh : holdsB j a.f0 = true := (holds_iff j _).2 ⟨a, ha, rfl⟩
  by_cases e : w = j.f0
  · rw [decide_eq_false (fun g => g e), anyAgainst_no]
    intro x hx
    by_cases hx2 : holdsB x a.f0 = true
    · refine .inl ?_
      show x.f0 = w
      rcases hold_cases hm a.f0 with ⟨_, g⟩ | ⟨_, _, g⟩
      · rw [g j hj] at hh; cases hh
      · rw [g x hx hx2, e, g j hj hh]
    · refine .inr fun y hy z hz ez => hx2 ?_
      rw [List.mem_singleton.1 hz] at ez
      exact (holds_iff x _).2 ⟨y, hy, ez⟩
  · rw [decide_eq_true e]
    rw [← Bool.not_eq_false, anyAgainst_no]
    intro g
    rcases g j hj with g | g
    · exact e g.symm
    · exact g a ha ⟨a.f0, 1, 0⟩ (List.mem_singleton.2 rfl) rfl
theorem defer_set {m : List Jb} {j : Jb} {a : Ac} {w : Int} (hw : 1 ≤ w ∧ w ≤ 8) (hm : RJ m) (hj : j ∈ m) (ha : a ∈ j.f1) : (deferB m ⟨w, [⟨a.f0, 1, 0⟩]⟩).2 = if w = j.f0 then (if m.length = 16 then 4 else 0) else 7 := by
  have ho := ((okA_iff a).1 (((mayB_iff j).1 (hm.2.1 j hj)).2.2 a ha)).1
  unfold deferB
  rw [if_pos ⟨(rightJ_iff m).2 hm, set_may hw ho⟩, set_any hm hj ha]
  by_cases e : w = j.f0
  · rw [if_pos e, if_neg (by simp [e])]
    by_cases h6 : m.length = 16
    · rw [if_pos h6, if_pos h6]
    · rw [if_neg h6, if_neg h6]
  · rw [if_neg e, if_pos (by simp [e])]
theorem Holds_l (l m : List Jb) (j : Jb) (w : Int) (hw : 1 ≤ w ∧ w ≤ 8) (hm : RJ m) (hj : j ∈ m) (hl : m.length = l.length + 1) (d : Nat) : ∀ (k i : Nat), i ≤ j.f1.length → j.f1.length - i = d → d + 200 < k →
    handshakerlaw22_AfterHolds.l0 k l m w j.f1 (j.f1.length : Int) (i : Int) j.f0 j.f1 = some true := by
  have hm6 := hm.1
  have hjm := (mayB_iff j).1 (hm.2.1 j hj)
  induction d with
  | zero =>
    intro k i hi hd hk
    obtain ⟨k, rfl⟩ : ∃ m, k = m + 1 := ⟨k - 1, by omega⟩
    simp only [handshakerlaw22_AfterHolds.l0]
    rw [if_neg (by omega), RightJ_f k m (by omega) (by omega), (rightJ_iff m).2 hm]
    rw [Option.bind_some, if_pos rfl, if_pos (show (m.length : Int) = wrap64 ((l.length : Int) + 1) by rw [hl]; unfold wrap64; omega), awake22 k (by omega)]
    rfl
  | succ d ih =>
    intro k i hi hd hk
    obtain ⟨k, rfl⟩ : ∃ m, k = m + 1 := ⟨k - 1, by omega⟩
    have hmem := getD_in j.f1 z61 i (by omega)
    have next := ih k (i + 1) (by omega) (by omega) (by omega)
    simp only [handshakerlaw22_AfterHolds.l0]
    rw [if_pos (by omega), if_pos (by omega), if_pos (by omega), show rd_T61 j.f1 (i : Int) = j.f1.getD i z61 from rfl, wrN (by omega)]
    generalize j.f1.getD i z61 = a at *
    have ho := ((okA_iff a).1 (hjm.2.2 a hmem)).1
    have hd := Defer_f k m ⟨w, [⟨a.f0, 1, 0⟩]⟩ (by omega) (by omega)
    rw [show ((⟨w, [⟨a.f0, 1, 0⟩]⟩ : Jb)).f0 = w from rfl, show ((⟨w, [⟨a.f0, 1, 0⟩]⟩ : Jb)).f1 = [⟨a.f0, 1, 0⟩] from rfl] at hd
    have hh : holdsB j a.f0 = true := (holds_iff j _).2 ⟨a, hmem, rfl⟩
    have hho : holderB m a.f0 = j.f0 := by
      unfold holderB
      rw [if_pos ((rightJ_iff m).2 hm)]
      rcases hold_cases hm a.f0 with ⟨_, g⟩ | ⟨_, _, g⟩
      · rw [g j hj] at hh; cases hh
      · rw [g j hj hh]
    rw [hd, Holder_f k m _ (by omega) (by omega), hho]
    simp only [Option.bind_some]
    rw [if_pos trivial]
    rw [defer_set hw hm hj hmem]
    by_cases e : w = j.f0
    · rw [if_pos e, if_pos e]
      by_cases h6 : m.length = 16
      · rw [if_pos h6, if_neg (show ¬ (4 : Int) = 0 by decide), if_pos rfl]; exact next
      · rw [if_neg h6, if_pos rfl]; exact next
    · rw [if_neg e, if_neg e, if_pos rfl]; exact next
theorem AfterHolds : handshakerlaw22_AfterHolds.Pure := by
  intro l0 x1 a2 hl1 hl2 _ _ w2
  have h2 : 0 ≤ a2 ∧ a2 ≤ 255 := by simpa [Lit.wf, IntKind.bits, IntKind.signed, IntKind.min, IntKind.max] using w2
  have hlen : l0.length ≤ 4398046511101 := by omega
  refine ⟨l0.length + 2002, ?_⟩
  generalize hK : l0.length + 2002 = K
  unfold handshakerlaw22_AfterHolds.f
  obtain ⟨b, hb, hb'⟩ := small22_f K l0 (by omega) (by omega)
  obtain ⟨c, hc, hc'⟩ := small22_f K [x1] (by simp) (by simp; omega)
  rw [hb]
  simp only [Option.bind_some]
  obtain ⟨K, rfl⟩ : ∃ m, K = m + 1 := ⟨K - 1, by omega⟩
  have aw : ∀ a b d e, handshakerlaw22_AfterHolds.j0 (K + 1) a b true d e = some true := fun a b d e => by
    simp only [handshakerlaw22_AfterHolds.j0]
    rw [if_pos trivial, awake22 K (by omega)]; rfl
  cases b with
  | false => rw [if_neg (by decide)]; exact aw _ _ _ _
  | true =>
    rw [if_pos rfl]
    rw [show ([(⟨x1.f0, x1.f1⟩ : Jb)] : List Jb) = [x1] from rfl, hc]
    simp only [Option.bind_some]
    cases c with
    | false => exact aw _ _ _ _
    | true =>
      obtain ⟨s1, s2⟩ := hb' rfl
      simp only [handshakerlaw22_AfterHolds.j0]
      rw [if_neg (by decide), Defer_f K l0 x1 (by omega) (by omega)]
      simp only [Option.bind_some]
      by_cases he : (deferB l0 x1).2 = 0
      · rw [if_pos he]
        obtain ⟨q1, q2, q3, q4, q5⟩ := defer_ok he
        have ew : Int.tmod a2 8 = a2 % 8 := Int.tmod_eq_emod_of_nonneg h2.1
        rw [q5, ew, wr (i := a2 % 8) (by omega) (by omega), wr (by omega) (by omega)]
        exact Holds_l l0 (l0 ++ [x1]) x1 (1 + a2 % 8) (by omega) (right_app q1 q2 q3 q4) (by simp) (by simp) x1.f1.length K 0 (by omega) (by omega) (by have := ((mayB_iff x1).1 q2).2.1; omega)
      · rw [if_neg he, defer_bad he, Refs_f K l0 (by omega) s2 (by omega)]
        simp only [Option.bind_some]
        rw [SameRefs_f K l0 s1 s2 (by omega)]
        simp only [Option.bind_some]
        rw [if_pos trivial, awake22 K (by omega)]
        rfl
end Go.Proofs.Ytihcnbhcemkncaa.A
namespace Go.Proofs.Ytihcnbhcemkncaa.Pure
theorem AfterHolds : Go.Proofs.Ytihcnbhcemkncaa.A.handshakerlaw22_AfterHolds.Pure := Go.Proofs.Ytihcnbhcemkncaa.A.AfterHolds
end Go.Proofs.Ytihcnbhcemkncaa.Pure
