/-
 PROVED: Plain lemmas on numbers and lists, of what the printed functions answer. No condition beside those of each lemma.
-/
import Derived.Test.YtjnkpocfmpbpoaaFLem5
import Derived.Test.YtjnkpocfmpbpoaaFx13
namespace Go.Proofs.Ytjnkpocfmpbpoaa.F
open Go.RowKit Go.Proofs.YtjnkpocfmpbpoaaW.PrintWords Go.Proofs.YtjnkpocfmpbpoaaW.PrintLast Go.Proofs.YtjnkpocfmpbpoaaW.PrintMore Go.Proofs.Ytjnkpocfmpbpoaa.Ho
set_option linter.unusedVariables false
set_option linter.unusedSimpArgs false
theorem Clone_f (h : List S98) (hl : h.length < 8796093022208) : slices_Clone_65.f h = some h := by
 unfold slices_Clone_65.f
 simp only [Option.bind_some, List.length_nil, Nat.zero_add, List.nil_append]
 rw [if_pos hl]
def putL (h : List S98) : List S98 → List S62 → List S98 × Int
 | out, [] => (out, 0)
 | out, w :: ws => if there h w.f0 = true then putL h (out.set w.f0.toNat ⟨(out.getD w.f0.toNat z98).f0, w.f1⟩) ws else (h, 3)
def putB (h : List S98) (l : List S62) : List S98 × Int := if RightB h = true ∧ l.all (fun w => inR w.f1) = true then putL h h l else (h, 1)
theorem Put_l (h : List S98) (l : List S62) (hm : l.length < 4611686018427387904) (d : Nat) : ∀ (k i : Nat) (out : List S98), i ≤ l.length → l.length - i = d → d < k → out.length = h.length →
 heap_Put.l0 k h out l (l.length : Int) (i : Int) = some (putL h out (l.drop i)) := by
 induction d with
 | zero =>
  intro k i out hi hd hk ho
  obtain ⟨k, rfl⟩ : ∃ m, k = m + 1 := ⟨k - 1, by omega⟩
  simp only [heap_Put.l0]
  rw [if_neg (by omega), List.drop_of_length_le (by omega)]
  rfl
 | succ d ih =>
  intro k i out hi hd hk ho
  obtain ⟨k, rfl⟩ : ∃ m, k = m + 1 := ⟨k - 1, by omega⟩
  simp only [heap_Put.l0]
  rw [if_pos (by omega), if_pos (by omega), if_pos (by omega), there_f, drop_cons l z62 i (by omega)]
  simp only [Option.bind_some, putL]
  rw [show rd_T62 l (i : Int) = l.getD i z62 from rfl]
  by_cases ht : there h (l.getD i z62).f0 = true
  · obtain ⟨h0, h1, _⟩ := there_rng ht
    rw [if_pos ht, if_pos ht, if_pos h0, if_pos (by omega), wrN (by omega)]
    exact ih k (i + 1) _ (by omega) (by omega) (by omega) (by simpa using ho)
  · rw [if_neg ht, if_neg ht]
theorem Put1_any (l : List S62) : any_at_heap_Put_1.f l = some (!(l.all (fun w => inR w.f1))) := by
 unfold any_at_heap_Put_1.f
 rw [anyF_T (p := fun w : S62 => !(inR w.f1)) l (fun w _ => by unfold heap_Put_1.f; rw [right_f]; rfl)]
 congr 1
 induction l with
 | nil => rfl
 | cons x xs ih => simp only [List.any_cons, List.all_cons, ih]; cases inR x.f1 <;> simp
theorem Put_f (k : Nat) (h : List S98) (l : List S62) (hm : l.length < 4611686018427387904) (hk : l.length + 1 < k) : heap_Put.f k h l = some (putB h l) := by
 obtain ⟨k, rfl⟩ : ∃ m, k = m + 1 := ⟨k - 1, by omega⟩
 unfold heap_Put.f putB
 rw [Right_f, Put1_any]
 simp only [Option.bind_some]
 by_cases hr : RightB h = true
 · rw [if_pos hr]
   simp only [heap_Put.j0]
   by_cases hv : l.all (fun w => inR w.f1) = true
   · rw [if_neg (by simp [hv]), if_pos ⟨hr, hv⟩, Clone_f h (by have := (Right_len hr).2.1; omega)]
     simp only [Option.bind_some]
     have := Put_l h l hm l.length k 0 h (by omega) (by omega) (by omega) rfl
     simpa using this
   · rw [if_pos (by simpa using hv), if_neg (fun e => hv e.2)]
 · rw [if_neg hr]
   simp only [heap_Put.j0]
   rw [if_pos trivial, if_neg (fun e => hr e.1)]
theorem putL_len {h : List S98} : ∀ (l : List S62) (out : List S98), out.length = h.length → (putL h out l).1.length = h.length
 | [], out, ho => ho
 | w :: ws, out, ho => by
  simp only [putL]; split
  · exact putL_len ws _ (by simpa using ho)
  · rfl
theorem putL_code {h : List S98} : ∀ (l : List S62) (out : List S98), (putL h out l).2 = 0 ∨ (putL h out l) = (h, 3)
 | [], out => .inl rfl
 | w :: ws, out => by
  simp only [putL]; split
  · exact putL_code ws _
  · exact .inr rfl
theorem getD_set (h : List S98) (i j : Nat) (c : S98) (hi : i < h.length) : (h.set i c).getD j z98 = if i = j then c else h.getD j z98 := by
 simp only [List.getD_eq_getElem?_getD, List.getElem?_set]
 split
 · first | rfl | (rw [if_pos (by assumption)]; simp)
 · rfl
/-- The last value that is written to a cell. -/
def lastV : List S62 → Int → Int → Int
 | [], _, v => v
 | w :: ws, i, v => lastV ws i (if w.f0 = i then w.f1 else v)
theorem putL_get {h : List S98} : ∀ (l : List S62) (out : List S98), out.length = h.length → (∀ j : Nat, (out.getD j z98).f0 = (h.getD j z98).f0) → (putL h out l).2 = 0 →
 ∀ j : Nat, j < h.length → (putL h out l).1.getD j z98 = ⟨(h.getD j z98).f0, lastV l j (out.getD j z98).f1⟩
 | [], out, ho, hf, _, j, hj => by
  simp only [putL, lastV]
  have := hf j
  rw [← this]
 | w :: ws, out, ho, hf, he, j, hj => by
  simp only [putL] at he ⊢
  by_cases ht : there h w.f0 = true
  · rw [if_pos ht] at he ⊢
    obtain ⟨h0, h1, h2⟩ := there_rng ht
    have hlt : w.f0.toNat < out.length := by omega
    have hf2 : ∀ j : Nat, ((out.set w.f0.toNat ⟨(out.getD w.f0.toNat z98).f0, w.f1⟩).getD j z98).f0 = (h.getD j z98).f0 := by
     intro j
     rw [getD_set _ _ _ _ hlt]
     split
     · rename_i e; subst e; exact hf _
     · exact hf j
    rw [putL_get ws _ (by simpa using ho) hf2 he j hj]
    simp only [lastV]
    rw [getD_set _ _ _ _ hlt]
    by_cases e : w.f0.toNat = j
    · rw [if_pos e, if_pos (by omega)]
    · rw [if_neg e, if_neg (by omega)]
  · rw [if_neg ht] at he
    simp at he
theorem lastV_eq : ∀ (l : List S62) (i v : Int), lastV l i v = v ∨ ∃ w ∈ l, lastV l i v = w.f1
 | [], i, v => .inl rfl
 | w :: ws, i, v => by
  simp only [lastV]
  rcases lastV_eq ws i (if w.f0 = i then w.f1 else v) with h | ⟨u, hu, h⟩
  · rw [h]; split
    · exact .inr ⟨w, by simp, rfl⟩
    · exact .inl rfl
  · exact .inr ⟨u, by simp [hu], h⟩
theorem putL_live {h : List S98} : ∀ (l : List S62) (out : List S98), (putL h out l).2 = 0 → ∀ w ∈ l, there h w.f0 = true
 | [], out, _, w, hw => by cases hw
 | u :: us, out, he, w, hw => by
  simp only [putL] at he
  by_cases ht : there h u.f0 = true
  · rw [if_pos ht] at he
    rcases List.mem_cons.1 hw with rfl | hw
    · exact ht
    · exact putL_live us _ he w hw
  · rw [if_neg ht] at he; simp at he
theorem lastV_none : ∀ (l : List S62) (i v : Int), (∀ w ∈ l, w.f0 ≠ i) → lastV l i v = v
 | [], _, _, _ => rfl
 | w :: ws, i, v, h => by
  simp only [lastV]
  rw [if_neg (h w (by simp)), lastV_none ws i v (fun u hu => h u (by simp [hu]))]
theorem RightB_of {h : List S98} (h1 : 1 ≤ h.length) (h2 : h.length ≤ 64) (h3 : ∀ j : Nat, j < h.length → okC (h.getD j z98) = true) : RightB h = true := by
 simp only [RightB, Bool.and_eq_true, decide_eq_true_eq, List.all_eq_true]
 refine ⟨⟨h1, h2⟩, fun x hx => ?_⟩
 obtain ⟨j, hj, rfl⟩ := List.getElem_of_mem hx
 have := h3 j hj
 simpa [List.getElem?_eq_getElem hj] using this
theorem okC_get {h : List S98} (hr : RightB h = true) (j : Nat) (hj : j < h.length) : okC (h.getD j z98) = true := by
 have := (Right_len hr).2.2 (h.getD j z98) (by simp [List.getElem?_eq_getElem hj])
 exact this
/-- A heap that is written is one. -/
theorem putB_right {h : List S98} {l : List S62} (hr : RightB h = true) : RightB (putB h l).1 = true := by
 unfold putB
 split
 · rename_i hc
   obtain ⟨_, hall⟩ := hc
   rcases putL_code l h with he | he
   · obtain ⟨h1, h2, h3⟩ := Right_len hr
     have hlen := putL_len (h := h) l h rfl
     refine RightB_of (by omega) (by omega) fun j hj => ?_
     rw [putL_get l h rfl (fun _ => rfl) he j (by omega)]
     have hok := okC_get hr j (by omega)
     simp only [okC, Bool.and_eq_true] at hok ⊢
     rcases lastV_eq l j (h.getD j z98).f1 with e | ⟨w, hw, e⟩
     · rw [e]; exact hok
     · rw [e]
       refine ⟨List.all_eq_true.1 hall w hw, ?_⟩
       -- the cell is Live, or it keeps what it held
       by_cases hl : (h.getD j z98).f0 = true
       · rw [hl]; rfl
       · have hnone : lastV l j (h.getD j z98).f1 = (h.getD j z98).f1 := by
          refine lastV_none l _ _ fun u hu e2 => hl ?_
          obtain ⟨a, b, c⟩ := there_rng (putL_live l h he u hu)
          rw [show j = u.f0.toNat by omega]
          exact c
         rw [hnone] at e
         rw [← e]; exact hok.2
   · rw [he]; exact hr
 · exact hr
theorem there_put {h : List S98} {l : List S62} (c : Int) : there (putB h l).1 c = there h c := by
 by_cases hc : RightB h = true ∧ l.all (fun w => inR w.f1) = true
 · have e : putB h l = putL h h l := by unfold putB; rw [if_pos hc]
   rw [e]
   rcases putL_code (h := h) l h with he | he
   · have hlen := putL_len (h := h) l h rfl
     unfold there
     rw [hlen]
     by_cases hr : 0 ≤ c ∧ c < (h.length : Int)
     · rw [putL_get l h rfl (fun _ => rfl) he c.toNat (by omega)]
     · simp only [decide_eq_false hr, Bool.false_and]
   · rw [he]
 · have e : putB h l = (h, 1) := by unfold putB; rw [if_neg hc]
   rw [e]
theorem lastV_in : ∀ (l : List S62) (i v x : Int), (∃ w ∈ l, w.f0 = i ∧ w.f1 = x) → (∀ w ∈ l, w.f0 = i → w.f1 = x) → lastV l i v = x
 | [], _, _, _, h, _ => by obtain ⟨w, hw, _⟩ := h; cases hw
 | w :: ws, i, v, x, h, g => by
  simp only [lastV]
  by_cases e : ∃ u ∈ ws, u.f0 = i
  · obtain ⟨u, hu, eu⟩ := e
    exact lastV_in ws i _ x ⟨u, hu, eu, g u (by simp [hu]) eu⟩ (fun y hy => g y (by simp [hy]))
  · rw [lastV_none ws i _ (fun u hu eu => e ⟨u, hu, eu⟩)]
    obtain ⟨u, hu, eu, ex⟩ := h
    rcases List.mem_cons.1 hu with rfl | hu
    · rw [if_pos eu]; exact ex
    · exact absurd ⟨u, hu, eu⟩ e
theorem putB_cond {h : List S98} {l : List S62} (he : (putB h l).2 = 0) : RightB h = true ∧ putB h l = putL h h l := by
 unfold putB at he ⊢
 by_cases c : RightB h = true ∧ l.all (fun w => inR w.f1) = true
 · rw [if_pos c]; exact ⟨c.1, rfl⟩
 · rw [if_neg c] at he; exact absurd he (by show ¬ ((1 : Int) = 0); decide)
theorem put_get {h : List S98} {l : List S62} (he : (putB h l).2 = 0) {w : S62} (hw : w ∈ l) (hd : ∀ u ∈ l, u.f0 = w.f0 → u.f1 = w.f1) : getB (putB h l).1 w.f0 = (w.f1, 0) := by
 obtain ⟨hr, e⟩ := putB_cond he
 have he' := he
 rw [e] at he'
 have ht := putL_live l h he' w hw
 obtain ⟨h0, h1, h2⟩ := there_rng ht
 unfold getB
 rw [if_pos (putB_right hr), there_put, if_pos ht, e, putL_get l h rfl (fun _ => rfl) he' w.f0.toNat (by omega), lastV_in l _ _ w.f1 ⟨w, hw, by omega, rfl⟩ (fun u hu eu => hd u hu (by omega))]
end Go.Proofs.Ytjnkpocfmpbpoaa.F
