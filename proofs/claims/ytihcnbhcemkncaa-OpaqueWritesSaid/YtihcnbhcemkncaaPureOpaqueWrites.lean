/-
  PROVED: as of its version each write is there, the last one of a cell, and all else is as it was as of the one ahead, for every past, version and list of writes. Condition: each argument is of its kind; nothing else.
-/
import Derived.Test.YtihcnbhcemkncaaOLem
import Derived.Test.YtihcnbhcemkncaaOx4
import Derived.Test.YtihcnbhcemkncaaOx5
import Derived.Test.YtihcnbhcemkncaaOx9
namespace Go.Proofs.Ytihcnbhcemkncaa.O
open Go.RowKit Go.Proofs.YtihcnbhcemkncaaW.PrintWords Go.Proofs.YtihcnbhcemkncaaW.PrintLast Go.Proofs.YtihcnbhcemkncaaW.PrintMore Go.Proofs.Ytihcnbhcemkncaa.Ho
set_option linter.unusedVariables false
set_option linter.unusedSimpArgs false
theorem Clone_f (h : List S66) (hl : h.length < 8796093022208) : slices_Clone_76.f h = some h := by
  unfold slices_Clone_76.f
  simp only [Option.bind_some, List.length_nil, Nat.zero_add, List.nil_append]
  rw [if_pos hl]
def putL (h : List S66) : List S66 → List S77 → List S66 × Int
  | out, [] => (out, 0)
  | out, w :: ws => if there h w.f0 = true then putL h (out.set w.f0.toNat ⟨(out.getD w.f0.toNat z66).f0, w.f1⟩) ws else (h, 3)
def putB (h : List S66) (l : List S77) : List S66 × Int := if RightB h = true ∧ l.all (fun w => inR w.f1) = true then putL h h l else (h, 1)
theorem Put_l (h : List S66) (l : List S77) (hm : l.length < 4611686018427387904) (d : Nat) : ∀ (k i : Nat) (out : List S66), i ≤ l.length → l.length - i = d → d < k → out.length = h.length →
    heap_Put.l0 k h out l (l.length : Int) (i : Int) = some (putL h out (l.drop i)) := by
  induction d with
  | zero =>
    intro k i out hi hd hk ho
    obtain ⟨k, rfl⟩ : ∃ m, k = m + 1 := ⟨k - 1, by omega⟩
    simp only [heap_Put.l0]
    rw [if_neg (by omega), List.drop_of_length_le (by omega)]
    rfl
  | succ d ih =>
    intro k i out hi hd hk ho
    obtain ⟨k, rfl⟩ : ∃ m, k = m + 1 := ⟨k - 1, by omega⟩
    simp only [heap_Put.l0]
    rw [if_pos (by omega), if_pos (by omega), if_pos (by omega), there_f, drop_cons l z77 i (by omega)]
    simp only [Option.bind_some, putL]
    rw [show rd_T77 l (i : Int) = l.getD i z77 from rfl]
    by_cases ht : there h (l.getD i z77).f0 = true
    · obtain ⟨h0, h1, _⟩ := there_rng ht
      rw [if_pos ht, if_pos ht, if_pos h0, if_pos (by omega), wrN (by omega)]
      exact ih k (i + 1) _ (by omega) (by omega) (by omega) (by simpa using ho)
    · rw [if_neg ht, if_neg ht]
theorem Put1_any (l : List S77) : any_at_heap_Put_1.f l = some (!(l.all (fun w => inR w.f1))) := by
  unfold any_at_heap_Put_1.f
  rw [anyF_T (p := fun w : S77 => !(inR w.f1)) l (fun w _ => by unfold heap_Put_1.f; rw [right_f]; rfl)]
  congr 1
  induction l with
  | nil => rfl
  | cons x xs ih => simp only [List.any_cons, List.all_cons, ih]; cases inR x.f1 <;> simp
theorem Put_f (k : Nat) (h : List S66) (l : List S77) (hm : l.length < 4611686018427387904) (hk : l.length + 1 < k) : heap_Put.f k h l = some (putB h l) := by
  obtain ⟨k, rfl⟩ : ∃ m, k = m + 1 := ⟨k - 1, by omega⟩
  unfold heap_Put.f putB
  rw [Right_f, Put1_any]
  simp only [Option.bind_some]
  by_cases hr : RightB h = true
  · rw [if_pos hr]
    simp only [heap_Put.j0]
    by_cases hv : l.all (fun w => inR w.f1) = true
    · rw [if_neg (by simp [hv]), if_pos ⟨hr, hv⟩, Clone_f h (by have := (Right_len hr).2.1; omega)]
      simp only [Option.bind_some]
      have := Put_l h l hm l.length k 0 h (by omega) (by omega) (by omega) rfl
      simpa using this
    · rw [if_pos (by simpa using hv), if_neg (fun e => hv e.2)]
  · rw [if_neg hr]
    simp only [heap_Put.j0]
    rw [if_pos trivial, if_neg (fun e => hr e.1)]
/-! ### writes -/
def lastV : List S77 → Nat → Int → Int
  | [], _, v => v
  | w :: ws, c, v => lastV ws c (if w.f0 = (c : Int) then w.f1 else v)
theorem getD_setW {α : Type} (z : α) (l : List α) (i j : Nat) (x : α) (hj : j < l.length) : (l.set i x).getD j z = if i = j then x else l.getD j z := by
  rw [List.getD_eq_getElem?_getD, List.getD_eq_getElem?_getD, List.getElem?_set]
  by_cases e : i = j
  · subst e; rw [if_pos rfl, if_pos hj, if_pos rfl]; rfl
  · rw [if_neg e, if_neg e]
theorem okC_iff (x : S66) : okC x = true ↔ inR x.f1 = true ∧ (x.f0 = true ∨ x.f1 = 0) := by
  unfold okC
  rw [Bool.and_eq_true, Bool.or_eq_true, beq_iff_eq]
theorem put_spec (h : List S66) : ∀ (ws : List S77) (out : List S66), out.length = h.length → (∀ c, c < h.length → (out.getD c z66).f0 = (h.getD c z66).f0) → (∀ c, c < h.length → okC (out.getD c z66) = true) → ws.all (fun w => inR w.f1) = true → (putL h out ws).2 = 0 →
    (putL h out ws).1.length = h.length ∧ (∀ c, c < h.length → okC ((putL h out ws).1.getD c z66) = true) ∧ ∀ c, c < h.length → (putL h out ws).1.getD c z66 = ⟨(h.getD c z66).f0, lastV ws c (out.getD c z66).f1⟩ := by
  intro ws
  induction ws with
  | nil =>
    intro out ho h0 hok _ _
    refine ⟨ho, hok, fun c hc => ?_⟩
    simp only [putL, lastV]
    rw [← h0 c hc]
  | cons w ws ih =>
    intro out ho h0 hok ha he
    rw [List.all_cons, Bool.and_eq_true] at ha
    simp only [putL] at he ⊢
    by_cases ht : there h w.f0 = true
    · rw [if_pos ht] at he ⊢
      obtain ⟨a0, a1, a2⟩ := there_rng ht
      have hg : ∀ c, c < h.length → (out.set w.f0.toNat ⟨(out.getD w.f0.toNat z66).f0, w.f1⟩).getD c z66 = if w.f0.toNat = c then ⟨(out.getD w.f0.toNat z66).f0, w.f1⟩ else out.getD c z66 := fun c hc => getD_setW _ _ _ _ _ (by omega)
      obtain ⟨r1, r2, r3⟩ := ih _ (by rw [List.length_set]; exact ho) (fun c hc => by
          rw [hg c hc]
          split
          · next e => rw [← e]; exact h0 _ (by omega)
          · exact h0 c hc) (fun c hc => by
          rw [hg c hc]
          split
          · next e =>
            rw [okC_iff]
            refine ⟨ha.1, Or.inl ?_⟩
            show (out.getD w.f0.toNat z66).f0 = true
            rw [h0 _ (by omega)]; exact a2
          · exact hok c hc) ha.2 he
      refine ⟨r1, r2, fun c hc => ?_⟩
      rw [r3 c hc, hg c hc]
      simp only [lastV]
      by_cases e : w.f0 = (c : Int)
      · rw [if_pos e, if_pos (by omega)]
      · rw [if_neg e, if_neg (by omega)]
    · rw [if_neg ht] at he; exact absurd (show (3 : Int) = 0 from he) (by decide)
theorem getD_memW {α : Type} (z : α) (l : List α) (i : Nat) (h : i < l.length) : l.getD i z ∈ l := by
  rw [List.getD_eq_getElem?_getD, List.getElem?_eq_getElem h]; exact List.getElem_mem h
theorem putB_spec (h : List S66) (ws : List S77) (he : (putB h ws).2 = 0) :
    (putB h ws).1.length = h.length ∧ RightB (putB h ws).1 = true ∧ ∀ c, c < h.length → (putB h ws).1.getD c z66 = ⟨(h.getD c z66).f0, lastV ws c (h.getD c z66).f1⟩ := by
  unfold putB at he ⊢
  by_cases g : RightB h = true ∧ ws.all (fun w => inR w.f1) = true
  · rw [if_pos g] at he ⊢
    obtain ⟨l1, l2, l3⟩ := Right_len g.1
    obtain ⟨r1, r2, r3⟩ := put_spec h ws h rfl (fun _ _ => rfl) (fun c hc => l3 _ (getD_memW _ _ _ hc)) g.2 he
    refine ⟨r1, ?_, r3⟩
    simp only [RightB, Bool.and_eq_true, decide_eq_true_eq, List.all_eq_true]
    refine ⟨⟨by omega, by omega⟩, fun x hx => ?_⟩
    obtain ⟨i, hi, rfl⟩ := List.mem_iff_getElem.1 hx
    have := r2 i (by omega)
    rw [List.getD_eq_getElem?_getD, List.getElem?_eq_getElem hi] at this
    exact this
  · rw [if_neg g] at he; exact absurd (show (1 : Int) = 0 from he) (by decide)
def lastO (p : List S80) : S80 := p.getD (p.length - 1) z80
def nextO (p : List S80) (v : Int) (w : List S77) : List S80 × Int :=
  if (rightO p = true ∧ tickB v = true ∧ (lastO p).f0 < v) then (if (putB (lastO p).f1 w).2 = 0 then (p ++ [⟨v, (putB (lastO p).f1 w).1⟩], 0) else (p, (putB (lastO p).f1 w).2)) else (p, 1)
theorem CloneO_f (h : List S80) (hl : h.length < 4398046511104) : slices_Clone_62.f h = some h := by
  unfold slices_Clone_62.f
  simp only [Option.bind_some, List.length_nil, Nat.zero_add, List.nil_append]
  rw [if_pos hl]
theorem Next_f (k : Nat) (p : List S80) (v : Int) (w : List S77) (hm : p.length < 1073741824) (hw : w.length < 1000) (hk : p.length + 2000 < k) :
    opaque_Next.f k p v w = some (nextO p v w) := by
  obtain ⟨k, rfl⟩ : ∃ m, k = m + 1 := ⟨k - 1, by omega⟩
  unfold opaque_Next.f nextO
  rw [RightO_f (k + 1) p (by omega) (by omega)]
  simp only [Option.bind_some]
  by_cases hr : rightO p = true
  · have hp := (rightO_iff p).1 hr
    have ew : wrap64 ((p.length : Int) - 1) = ((p.length - 1 : Nat) : Int) := by rw [wr (by omega) (by omega)]; omega
    rw [if_pos hr, tick_f, ew, show rd_T80 p ((p.length - 1 : Nat) : Int) = lastO p from rfl]
    simp only [Option.bind_some]
    by_cases ht : tickB v = true
    · rw [if_pos ht, if_pos (by omega), if_pos (by omega)]
      simp only [opaque_Next.j0]
      by_cases hv : (lastO p).f0 < v
      · rw [if_neg (by simp; omega), ew, show rd_T80 p ((p.length - 1 : Nat) : Int) = lastO p from rfl, if_pos (by omega), if_pos (by omega), if_pos ⟨hr, ht, hv⟩, Put_f k _ w (by omega) (by omega)]
        simp only [Option.bind_some]
        by_cases he : (putB (lastO p).f1 w).2 = 0
        · rw [if_pos he, if_pos he, CloneO_f p (by omega)]
          simp only [Option.bind_some]
          rw [if_pos (by omega)]
        · rw [if_neg he, if_neg he]
      · rw [if_pos (by simp; omega), if_neg (fun g => hv g.2.2)]
    · rw [if_neg ht]
      simp only [opaque_Next.j0]
      rw [if_pos trivial, if_neg (fun g => ht g.2.1)]
  · rw [if_neg hr]
    simp only [opaque_Next.j0]
    rw [if_pos trivial, if_neg (fun g => hr g.1)]
theorem getD_appL {α : Type} (z : α) (l r : List α) (i : Nat) (h : i < l.length) : (l ++ r).getD i z = l.getD i z := by
  rw [List.getD_eq_getElem?_getD, List.getD_eq_getElem?_getD, List.getElem?_append_left h]
theorem getD_appR {α : Type} (z : α) (l : List α) (x : α) : (l ++ [x]).getD l.length z = x := by
  rw [List.getD_eq_getElem?_getD, List.getElem?_append_right (Nat.le_refl _), Nat.sub_self]; rfl
theorem next_right (p : List S80) (v : Int) (h : List S66) (hr : rightO p = true) (ht : tickB v = true) (hv : (lastO p).f0 < v) (hh : RightB h = true) (ha : alikeB (lastO p).f1 h = true) : rightO (p ++ [⟨v, h⟩]) = true := by
  have hp := (rightO_iff p).1 hr
  rw [rightO_iff]
  rw [List.length_append, List.length_singleton]
  refine ⟨by omega, fun i hi => ?_⟩
  unfold okO
  by_cases e : i < p.length
  · rw [getD_appL _ _ _ _ e, getD_appL _ _ _ (i - 1) (by omega)]
    exact hp.2 i e
  · have ei : i = p.length := by omega
    subst ei
    rw [getD_appR]
    refine ⟨ht, hh, fun g => ?_⟩
    rw [getD_appL _ _ _ (p.length - 1) (by omega)]
    exact ⟨hv, ha⟩
theorem At_prev (k : Nat) (p : List S80) (s : S80) (hr : rightO (p ++ [s]) = true) (h1 : 0 < p.length) (hv : (lastO p).f0 < s.f0) (hm : p.length < 1000) (hk : p.length + 300 < k) :
    opaque_At.f k (p ++ [s]) (s.f0 - 1) = some ((lastO p).f1, 0) := by
  obtain ⟨c, ⟨a1, a2, a3⟩, e⟩ := At_f k (p ++ [s]) (s.f0 - 1) (by rw [List.length_append, List.length_singleton]; omega) hr (by rw [List.length_append, List.length_singleton]; omega)
  have hs := rise_O hr
  rw [e]
  have el : (p ++ [s]).getD (p.length - 1) z80 = lastO p := getD_appL _ _ _ _ (by omega)
  have es : (p ++ [s]).getD p.length z80 = s := getD_appR _ _ _
  have en : (p ++ [s]).length = p.length + 1 := by rw [List.length_append]; rfl
  rw [en] at a1 a3 hs ⊢
  generalize p ++ [s] = q at *
  clear e
  have c1 : c ≤ p.length := by
    by_cases g : c ≤ p.length
    · exact g
    · have := a2 p.length (by omega); rw [es] at this; omega
  by_cases g : c = p.length
  · subst g
    rw [if_neg (fun b => by have := b.2; rw [es] at this; omega), if_neg (by omega), el]
  · have b1 := a3 (p.length - 1) (by omega) (by omega)
    rw [el] at b1
    have b2 : c = p.length - 1 := by
      by_cases g2 : c = p.length - 1
      · exact g2
      · have b3 := a3 c (Nat.le_refl _) (by omega)
        have b4 := hs c (p.length - 1) (by omega) (by omega)
        rw [el] at b4
        omega
    subst b2
    rw [el, if_pos ⟨by omega, by omega⟩]
theorem W1_l (w : List S77) (hw : w.length < 1000) (x9 x11 : List S66) (x63 x64 : Int) (c : Nat) (hc : c < x9.length) (b : Bool) (d : Nat) : ∀ (k i : Nat) (v : Int), i ≤ w.length → w.length - i = d → d < k →
    ∃ k', k ≤ k' + d + 1 ∧ handshakerlaw13_OpaqueWrites.l1 k w x9 x11 (c : Int) x63 x64 w (w.length : Int) (i : Int) b v = if ((x9.getD c z66).f0 = b ∧ (x9.getD c z66).f1 = lastV (w.drop i) c v) then handshakerlaw13_OpaqueWrites.l0 k' w x9 x11 x63 (wrap64 (x64 + 1)) else some false := by
  induction d with
  | zero =>
    intro k i v hi hd hk
    obtain ⟨k, rfl⟩ : ∃ m, k = m + 1 := ⟨k - 1, by omega⟩
    refine ⟨k, by omega, ?_⟩
    simp only [handshakerlaw13_OpaqueWrites.l1]
    rw [if_neg (by omega), if_pos (by omega), if_pos (by omega), List.drop_of_length_le (by omega), show rd_T66 x9 (c : Int) = x9.getD c z66 from rfl]
    rw [show lastV [] c v = v from rfl]
    generalize (x9.getD c z66).f0 = y0
    generalize (x9.getD c z66).f1 = y1
    by_cases e : y0 = b ∧ y1 = v
    · rw [if_pos e, e.1, e.2, if_neg (by simp)]
    · rw [if_neg e, if_pos]
      by_cases g1 : y0 = b
      · by_cases g2 : y1 = v
        · exact absurd ⟨g1, g2⟩ e
        · simp [g2]
      · simp [g1]
  | succ d ih =>
    intro k i v hi hd hk
    obtain ⟨k, rfl⟩ : ∃ m, k = m + 1 := ⟨k - 1, by omega⟩
    simp only [handshakerlaw13_OpaqueWrites.l1]
    have hc2 : lastV (w.drop i) c v = lastV (w.drop (i + 1)) c (if (w.getD i z77).f0 = (c : Int) then (w.getD i z77).f1 else v) := by rw [drop_cons w z77 i (by omega)]; rfl
    rw [if_pos (by omega), if_pos (by omega), if_pos (by omega), wrN (by omega), hc2, show rd_T77 w (i : Int) = w.getD i z77 from rfl]
    clear hc2
    by_cases e : (w.getD i z77).f0 = (c : Int)
    · rw [if_pos e]
      simp only [if_pos e]
      obtain ⟨k', h1, h2⟩ := ih k (i + 1) (w.getD i z77).f1 (by omega) (by omega) (by omega)
      exact ⟨k', by omega, h2⟩
    · rw [if_neg e]
      simp only [if_neg e]
      obtain ⟨k', h1, h2⟩ := ih k (i + 1) v (by omega) (by omega) (by omega)
      exact ⟨k', by omega, h2⟩
theorem W0_l (w : List S77) (hw : w.length ≤ 40) (x9 x11 : List S66) (hl : x9.length = x11.length) (hm : x9.length ≤ 64) (hx : ∀ c, c < x11.length → x9.getD c z66 = ⟨(x11.getD c z66).f0, lastV w c (x11.getD c z66).f1⟩) (d : Nat) : ∀ (k i : Nat), i ≤ x9.length → x9.length - i = d → d * 50 + 100 < k →
    handshakerlaw13_OpaqueWrites.l0 k w x9 x11 (x9.length : Int) (i : Int) = some true := by
  induction d with
  | zero =>
    intro k i hi hd hk
    obtain ⟨k, rfl⟩ : ∃ m, k = m + 1 := ⟨k - 1, by omega⟩
    simp only [handshakerlaw13_OpaqueWrites.l0]
    rw [if_neg (by omega), awake13 k (by omega)]; rfl
  | succ d ih =>
    intro k i hi hd hk
    obtain ⟨k, rfl⟩ : ∃ m, k = m + 1 := ⟨k - 1, by omega⟩
    simp only [handshakerlaw13_OpaqueWrites.l0]
    rw [if_pos (by omega), if_pos (by omega), if_pos (by omega), show rd_T66 x11 (i : Int) = x11.getD i z66 from rfl]
    obtain ⟨k', h1, h2⟩ := W1_l w (by omega) x9 x11 (x9.length : Int) (i : Int) i (by omega) (x11.getD i z66).f0 w.length k 0 (x11.getD i z66).f1 (by omega) (by omega) (by omega)
    rw [show ((0 : Nat) : Int) = 0 from rfl] at h2
    rw [h2, List.drop_zero, hx i (by omega), if_pos ⟨rfl, rfl⟩, wrN (by omega)]
    exact ih k' (i + 1) (by omega) (by omega) (by omega)
theorem OpaqueWrites : handshakerlaw13_OpaqueWrites.Pure := by
  intro p v w _ _ _ _ hlw _ _
  obtain ⟨K, hK⟩ : ∃ K, p.length + w.length + 9000 = K := ⟨_, rfl⟩
  refine ⟨K + 3, ?_⟩
  have hj : handshakerlaw13_OpaqueWrites.j0 (K + 3) p v w true = some true := by
    simp only [handshakerlaw13_OpaqueWrites.j0, if_true]; rw [awake13 (K + 2) (by omega)]; rfl
  obtain ⟨b, e, hb⟩ := small13_f (K + 3) p (by omega) (by omega)
  unfold handshakerlaw13_OpaqueWrites.f
  rw [e]
  simp only [Option.bind_some]
  cases b with
  | false => rw [if_neg (by decide)]; exact hj
  | true =>
    have hm := hb rfl
    rw [if_pos rfl]
    by_cases hw : w.length ≤ 40
    · rw [decide_eq_false (by omega)]
      simp only [handshakerlaw13_OpaqueWrites.j0]
      rw [if_neg (by decide), Next_f (K + 2) p v w (by omega) (by omega) (by omega)]
      simp only [Option.bind_some]
      by_cases he : (nextO p v w).2 = 0
      · rw [if_pos he]
        unfold nextO at he ⊢
        by_cases g : rightO p = true ∧ tickB v = true ∧ (lastO p).f0 < v
        · rw [if_pos g] at he ⊢
          by_cases hq : (putB (lastO p).f1 w).2 = 0
          · rw [if_pos hq]
            obtain ⟨r1, r2, r3⟩ := putB_spec (lastO p).f1 w hq
            have hp := (rightO_iff p).1 g.1
            have hL := Right_len (hp.2 (p.length - 1) (by omega)).2.1
            generalize (putB (lastO p).f1 w).1 = h at *
            have hL2 : (lastO p).f1.length ≤ 64 := hL.2.1
            have hqr : rightO (p ++ [⟨v, h⟩]) = true := by
              refine next_right p v h g.1 g.2.1 g.2.2 r2 ?_
              unfold alikeB
              rw [decide_eq_true_eq]
              exact ⟨r1.symm, fun i hi => by rw [r3 i hi]⟩
            have hn : (p ++ [(⟨v, h⟩ : S80)]).length = p.length + 1 := by rw [List.length_append]; rfl
            have a1 := At_own (K + 2) (p ++ [⟨v, h⟩]) p.length (by omega) (by omega) hqr (by omega)
            rw [getD_appR] at a1
            have a2 := At_prev (K + 2) p ⟨v, h⟩ hqr hp.1 g.2.2 (by omega) (by omega)
            have hv : 0 ≤ v ∧ v ≤ 2147483647 := by have := g.2.1; unfold tickB at this; exact of_decide_eq_true this
            rw [a1, wr (by omega) (by omega), a2]
            simp only [Option.bind_some, if_true]
            rw [r1, show ((((lastO p).f1.length : Nat) : Int) != ((lastO p).f1.length : Int)) = false from by simp]
            simp only [handshakerlaw13_OpaqueWrites.j1]
            rw [if_neg (by decide)]
            exact W0_l w hw h (lastO p).f1 r1 (by omega) r3 h.length (K + 1) 0 (by omega) (by omega) (by omega)
          · rw [if_neg hq] at he; exact absurd he hq
        · rw [if_neg g] at he; exact absurd (show (1 : Int) = 0 from he) (by decide)
      · rw [if_neg he, awake13 (K + 2) (by omega)]; rfl
    · rw [decide_eq_true (by omega)]; exact hj
end Go.Proofs.Ytihcnbhcemkncaa.O
namespace Go.Proofs.Ytihcnbhcemkncaa.Pure
theorem OpaqueWrites : Go.Proofs.Ytihcnbhcemkncaa.O.handshakerlaw13_OpaqueWrites.Pure := Go.Proofs.Ytihcnbhcemkncaa.O.OpaqueWrites
end Go.Proofs.Ytihcnbhcemkncaa.Pure
