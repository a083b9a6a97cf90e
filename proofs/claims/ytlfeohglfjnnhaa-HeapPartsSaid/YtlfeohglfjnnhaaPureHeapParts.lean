/-
  PROVED: writes in two parts are writes in one, if all can be, for every list of cells and every two lists of writes. Condition: each argument is of its kind; nothing else.
-/
import Derived.Test.YtlfeohglfjnnhaaHpLem
import Derived.Test.YtlfeohglfjnnhaaHpRef
import Derived.Test.YtlfeohglfjnnhaaHpx11
namespace Go.Proofs.Ytlfeohglfjnnhaa.Hp
open Go.RowKit Go.Proofs.YtlfeohglfjnnhaaW.PrintWords Go.Proofs.YtlfeohglfjnnhaaW.PrintLast Go.Proofs.YtlfeohglfjnnhaaW.PrintMore Go.Proofs.Ytlfeohglfjnnhaa.Ho
set_option linter.unusedVariables false
set_option linter.unusedSimpArgs false
theorem putL_app {h : List S59} : ∀ (a b : List S62) (out : List S59), putL h out (a ++ b) = if (putL h out a).2 = 0 then putL h (putL h out a).1 b else (h, 3)
  | [], b, out => by simp [putL]
  | w :: ws, b, out => by
    rw [List.cons_append]
    by_cases ht : there h w.f0 = true
    · rw [putL_yes ht, putL_yes ht]; exact putL_app ws b _
    · rw [putL_no ht, putL_no ht]; simp
theorem putL_base {h g : List S59} (hg : ∀ c, there g c = there h c) : ∀ (l : List S62) (out : List S59), (putL g out l).2 = (putL h out l).2 ∧ ((putL h out l).2 = 0 → (putL g out l).1 = (putL h out l).1)
  | [], out => ⟨rfl, fun _ => rfl⟩
  | w :: ws, out => by
    by_cases ht : there h w.f0 = true
    · rw [putL_yes ht, putL_yes (h := g) (by rw [hg]; exact ht)]; exact putL_base hg ws _
    · rw [putL_no ht, putL_no (h := g) (by rw [hg]; exact ht)]; exact ⟨rfl, fun e => absurd e (by simp)⟩
theorem parts {h : List S59} (a b : List S62) (hr : RightB h = true) :
    ((putB h a).2 = 0 → (putB (putB h a).1 b).2 = (putB h (a ++ b)).2 ∧ ((putB h (a ++ b)).2 = 0 → (putB (putB h a).1 b).1 = (putB h (a ++ b)).1)) ∧ ((putB h a).2 ≠ 0 → (putB h (a ++ b)).2 ≠ 0) := by
  by_cases ha : a.all (fun w => inR w.f1) = true
  · have ea : putB h a = putL h h a := by unfold putB; rw [if_pos ⟨hr, ha⟩]
    by_cases hb : b.all (fun w => inR w.f1) = true
    · have eab : putB h (a ++ b) = putL h h (a ++ b) := by unfold putB; rw [if_pos ⟨hr, by rw [List.all_append, ha, hb]; rfl⟩]
      refine ⟨fun h0 => ?_, fun h0 => ?_⟩
      · have hx := putB_right (l := a) hr
        have ey : putB (putB h a).1 b = putL (putB h a).1 (putB h a).1 b := putB_ok hx hb
        have hl := putL_base (h := h) (g := (putB h a).1) (fun c => there_put c) b (putB h a).1
        rw [ey, eab, putL_app, ← ea, if_pos h0]
        exact hl
      · rw [eab, putL_app, ← ea, if_neg h0]; simp
    · have eab : putB h (a ++ b) = (h, 1) := by unfold putB; rw [if_neg (fun e => hb (by have := e.2; rw [List.all_append, Bool.and_eq_true] at this; exact this.2))]
      refine ⟨fun h0 => ?_, fun h0 => by rw [eab]; simp⟩
      have ey : putB (putB h a).1 b = ((putB h a).1, 1) := putB_bad hb
      rw [ey, eab]
      exact ⟨rfl, fun e => absurd e (by simp)⟩
  · have ea : putB h a = (h, 1) := by unfold putB; rw [if_neg (fun e => ha e.2)]
    have eab : putB h (a ++ b) = (h, 1) := by unfold putB; rw [if_neg (fun e => ha (by have := e.2; rw [List.all_append, Bool.and_eq_true] at this; exact this.1))]
    exact ⟨fun h0 => absurd (by rw [ea] at h0; exact h0) (by simp), fun _ => by rw [eab]; simp⟩
theorem live_mem (h : List S59) (d : Nat) : ∀ (i : Nat), i ≤ h.length → h.length - i = d → ∀ c ∈ liveI (h.drop i) i, there h c = true := by
  induction d with
  | zero =>
    intro i hi hd c hc
    rw [List.drop_of_length_le (by omega)] at hc
    cases hc
  | succ d ih =>
    intro i hi hd c hc
    rw [drop_cons h z59 i (by omega)] at hc
    simp only [liveI] at hc
    split at hc
    · rename_i hl
      rcases List.mem_cons.1 hc with rfl | hc
      · unfold there
        rw [decide_eq_true (by omega)]; exact hl
      · exact ih (i + 1) (by omega) (by omega) c hc
    · exact ih (i + 1) (by omega) (by omega) c hc
theorem liveB_mem (h : List S59) : ∀ c ∈ liveB h, there h c = true := by
  intro c hc
  unfold liveB at hc
  split at hc
  · exact live_mem h h.length 0 (by omega) (by omega) c (by simpa using hc)
  · cases hc
theorem put_same (h : List S59) : ∀ (l : List S62), (∀ w ∈ l, there h w.f0 = true ∧ w.f1 = (h.getD w.f0.toNat z59).f1) → putL h h l = (h, 0)
  | [], _ => rfl
  | w :: ws, hw => by
    obtain ⟨h1, h2⟩ := hw w (by simp)
    obtain ⟨a1, a2, a3⟩ := there_rng h1
    simp only [putL]
    rw [if_pos h1]
    have e : h.set w.f0.toNat ⟨(h.getD w.f0.toNat z59).f0, w.f1⟩ = h := by
      rw [h2]
      refine ext_getD (by simp) fun j hj => ?_
      rw [getD_set _ _ _ _ (by omega)]
      split
      · rename_i e; rw [e]
      · rfl
    rw [e]
    exact put_same h ws (fun u hu => hw u (by simp [hu]))
theorem parts_l (h : List S59) (hr : RightB h = true) (d : Nat) : ∀ (k i : Nat) (s : List S62), i ≤ (liveB h).length → (liveB h).length - i = d → d + 300 < k → s.length ≤ i → (∀ w ∈ s, there h w.f0 = true ∧ w.f1 = (h.getD w.f0.toNat z59).f1) →
    handshakerlaw02_HeapParts.l0 k h s (liveB h) ((liveB h).length : Int) (i : Int) = some true := by
  obtain ⟨hr1, hr2, hr3⟩ := Right_len hr
  have hL := liveB_len h
  induction d with
  | zero =>
    intro k i s hi hd hk hs hw
    obtain ⟨k, rfl⟩ : ∃ m, k = m + 1 := ⟨k - 1, by omega⟩
    simp only [handshakerlaw02_HeapParts.l0]
    have hp : putB h s = (h, 0) := by
      rw [putB_ok hr ?_]
      · exact put_same h s hw
      · refine List.all_eq_true.2 fun w hm => ?_
        obtain ⟨h1, h2⟩ := hw w hm
        obtain ⟨a1, a2, a3⟩ := there_rng h1
        have := okC_get hr w.f0.toNat (by omega)
        simp only [okC, Bool.and_eq_true] at this
        rw [h2]; exact this.1
    rw [if_neg (by omega), Put_f _ _ _ (by omega) (by omega), hp]
    simp only [Option.bind_some, if_true]
    rw [Same_f _ _ (by omega) (by omega), awake_ok _ (by omega)]
    rfl
  | succ d ih =>
    intro k i s hi hd hk hs hw
    obtain ⟨k, rfl⟩ : ∃ m, k = m + 1 := ⟨k - 1, by omega⟩
    simp only [handshakerlaw02_HeapParts.l0]
    have hm : (liveB h)[i]'(by omega) ∈ liveB h := List.getElem_mem _
    have hx : rd (liveB h) (i : Int) = (liveB h)[i]'(by omega) := by
      unfold rd
      simp [List.getElem?_eq_getElem (show i < (liveB h).length by omega)]
    have ht := liveB_mem h _ hm
    obtain ⟨a1, a2, a3⟩ := there_rng ht
    rw [hx, if_pos (by omega), if_pos (by omega), if_pos (by omega), if_pos a1, if_pos a2, if_pos (by omega), wrN (by omega)]
    refine ih k (i + 1) _ (by omega) (by omega) (by omega) (by simp; omega) (fun w hw2 => ?_)
    rcases List.mem_append.1 hw2 with hw2 | hw2
    · exact hw w hw2
    · rw [List.mem_singleton.1 hw2]; exact ⟨ht, rfl⟩
theorem HeapParts : handshakerlaw02_HeapParts.Pure := by
  intro h a b
  intros
  by_cases h1 : (h.length : Int) > 64
  · refine ⟨62, ?_⟩
    unfold handshakerlaw02_HeapParts.f
    rw [if_pos h1]; simp only [handshakerlaw02_HeapParts.j0]
    rw [if_pos trivial, awake_ok _ (by omega)]; rfl
  by_cases h2 : (a.length : Int) > 30
  · refine ⟨62, ?_⟩
    unfold handshakerlaw02_HeapParts.f
    rw [if_neg h1, if_pos h2]; simp only [handshakerlaw02_HeapParts.j0]
    rw [if_pos trivial, awake_ok _ (by omega)]; rfl
  by_cases h3 : (b.length : Int) > 30
  · refine ⟨62, ?_⟩
    unfold handshakerlaw02_HeapParts.f
    rw [if_neg h1, if_neg h2, if_pos h3]; simp only [handshakerlaw02_HeapParts.j0]
    rw [if_pos trivial, awake_ok _ (by omega)]; rfl
  by_cases hr : RightB h = true
  · refine ⟨602, ?_⟩
    generalize hK : (602 : Nat) = K
    obtain ⟨K, rfl⟩ : ∃ q, K = q + 2 := ⟨K - 2, by omega⟩
    have hlen := putB_len h a
    have hlen2 := putB_len h (a ++ b)
    have hj1 : handshakerlaw02_HeapParts.j1 (K + 1) h false = some true := by
      simp only [handshakerlaw02_HeapParts.j1]
      rw [if_neg (by decide), Live_f _ _ (by omega) (by omega)]
      simp only [Option.bind_some]
      have hL := liveB_len h
      exact parts_l h hr (liveB h).length K 0 [] (by omega) (by omega) (by omega) (by simp) (fun w hw => by cases hw)
    obtain ⟨p1, p2⟩ := parts (h := h) a b hr
    unfold handshakerlaw02_HeapParts.f
    rw [if_neg h1, if_neg h2, if_neg h3, Right_f]
    simp only [Option.bind_some, hr, Bool.not_true]
    rw [show handshakerlaw02_HeapParts.j0 (K + 2) h a b false = _ from by rw [handshakerlaw02_HeapParts.j0]]
    rw [if_neg (by simp)]
    simp only [Option.bind_some, List.nil_append, List.length_nil, Nat.zero_add]
    rw [if_pos (by omega), if_pos (by omega), Put_f _ h (a ++ b) (by simp; omega) (by simp; omega), Put_f _ h a (by omega) (by omega)]
    simp only [Option.bind_some]
    rw [Put_f _ (putB h a).1 b (by omega) (by omega)]
    simp only [Option.bind_some]
    by_cases hx : (putB h a).2 = 0
    · rw [if_pos hx]
      obtain ⟨q1, q2⟩ := p1 hx
      by_cases hy : (putB h (a ++ b)).2 = 0
      · rw [if_pos hy, if_pos (q1.trans hy), q2 hy, Same_f _ _ (by omega) (by omega)]
        simp only [Option.bind_some, Bool.not_true]
        exact hj1
      · rw [if_neg hy, if_neg (by rw [q1]; exact hy)]
        exact hj1
    · rw [if_neg hx, if_neg (p2 hx)]
      exact hj1
  · refine ⟨62, ?_⟩
    unfold handshakerlaw02_HeapParts.f
    rw [if_neg h1, if_neg h2, if_neg h3, Right_f]
    have : RightB h = false := by simpa using hr
    simp only [Option.bind_some, this, handshakerlaw02_HeapParts.j0]
    rw [if_pos (by simp), awake_ok _ (by omega)]; rfl
end Go.Proofs.Ytlfeohglfjnnhaa.Hp
namespace Go.Proofs.Ytlfeohglfjnnhaa.Pure
theorem HeapParts : Go.Proofs.Ytlfeohglfjnnhaa.Hp.handshakerlaw02_HeapParts.Pure := Go.Proofs.Ytlfeohglfjnnhaa.Hp.HeapParts
end Go.Proofs.Ytlfeohglfjnnhaa.Pure
