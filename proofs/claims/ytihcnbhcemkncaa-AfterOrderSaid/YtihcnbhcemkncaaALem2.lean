/-
  PROVED: Plain lemmas on numbers and lists, of what the printed functions answer. No condition beside those of each lemma.
-/
import Derived.Test.YtihcnbhcemkncaaALem
import Derived.Test.YtihcnbhcemkncaaAx7
namespace Go.Proofs.Ytihcnbhcemkncaa.A
open Go.RowKit Go.Proofs.YtihcnbhcemkncaaW.PrintWords Go.Proofs.YtihcnbhcemkncaaW.PrintLast Go.Proofs.YtihcnbhcemkncaaW.PrintMore Go.Proofs.Ytihcnbhcemkncaa.Ho
set_option linter.unusedVariables false
set_option linter.unusedSimpArgs false
/-! ### all of them, and each by itself -/
theorem doB_len (l : List Jb) (w : Int) (h : List Cl) : (doB l w h).1.length ≤ l.length := by
  unfold doB
  split
  · split
    · exact Nat.le_refl _
    · next p hp =>
      split
      · have := (cut_some (show cutJ l w = some (p.1, p.2) from hp)).2.2.2.1; show p.2.length ≤ _; omega
      · exact Nat.le_refl _
  · exact Nat.le_refl _
def allL (l0 : List Jb) (h0 : List Cl) : List Int → List Jb → List Cl → List Jb × List Cl × Int
  | [], x, g => if x.length > 0 then (l0, h0, 3) else (x, g, 0)
  | w :: ws, x, g => if (doB x w g).2.2 = 0 then allL l0 h0 ws (doB x w g).1 (doB x w g).2.1 else (l0, h0, (doB x w g).2.2)
theorem All_l (l0 : List Jb) (h0 : List Cl) (os : List Int) (hm : os.length < 4611686018427387904) (d : Nat) : ∀ (k i : Nat) (x : List Jb) (g : List Cl), i ≤ os.length → os.length - i = d → d + x.length + 40 < k → x.length < 4398046511104 →
    after_All.l0 k l0 h0 x g os (os.length : Int) (i : Int) = some (allL l0 h0 (os.drop i) x g) := by
  induction d with
  | zero =>
    intro k i x g hi hd hk hx
    obtain ⟨k, rfl⟩ : ∃ m, k = m + 1 := ⟨k - 1, by omega⟩
    simp only [after_All.l0]
    rw [if_neg (by omega), List.drop_of_length_le (by omega)]
    simp only [allL]
    by_cases h : x.length > 0
    · rw [if_pos (by omega), if_pos h]
    · rw [if_neg (by omega), if_neg h]
  | succ d ih =>
    intro k i x g hi hd hk hx
    obtain ⟨k, rfl⟩ : ∃ m, k = m + 1 := ⟨k - 1, by omega⟩
    simp only [after_All.l0]
    rw [if_pos (by omega), if_pos (by omega), if_pos (by omega), drop_cons os 0 i (by omega), wrN (by omega), show rd os (i : Int) = os.getD i 0 from rfl, Do_f k x _ g hx (by omega)]
    simp only [Option.bind_some, allL]
    have hl := doB_len x (os.getD i 0) g
    by_cases he : (doB x (os.getD i 0) g).2.2 = 0
    · rw [if_pos he, if_pos he]
      exact ih k (i + 1) _ _ (by omega) (by omega) (by omega) (by omega)
    · rw [if_neg he, if_neg he]
def allB (l : List Jb) (h : List Cl) (os : List Int) : List Jb × List Cl × Int := if rightJ l = true ∧ RightB h = true then allL l h os l h else (l, h, 1)
theorem All_f (k : Nat) (l : List Jb) (h : List Cl) (os : List Int) (hm : os.length < 4611686018427387904) (hl : l.length < 4398046511104) (hk : os.length + l.length + 50 < k) : after_All.f k l h os = some (allB l h os) := by
  obtain ⟨k, rfl⟩ : ∃ m, k = m + 1 := ⟨k - 1, by omega⟩
  unfold after_All.f allB
  rw [RightJ_f _ l hl (by omega), Right_f]
  simp only [Option.bind_some]
  by_cases hr : rightJ l = true
  · rw [if_pos hr]
    by_cases hh : RightB h = true
    · rw [if_pos ⟨hr, hh⟩, hh]
      simp only [after_All.j0]
      rw [if_neg (by decide)]
      have := All_l l h os hm os.length k 0 l h (by omega) (by omega) (by omega) hl
      exact this
    · rw [if_neg (fun e => hh e.2), Bool.eq_false_iff.2 hh]
      simp only [after_All.j0]
      rw [if_pos (by decide)]
  · rw [if_neg hr, if_neg (fun e => hr e.1)]
    simp only [after_All.j0]
    rw [if_pos trivial]
abbrev of (l : List Jb) (v : Int) : List Jb := l.filter fun j => j.f0 == v
/-- Behind the jobs e of l, done on h: x is left, and the heap is g. -/
def Ran (l : List Jb) (h : List Cl) (e x : List Jb) (g : List Cl) : Prop :=
  x.Sublist l ∧ (∀ j ∈ e, j ∈ l) ∧ (∀ j ∈ e, doable h j = true) ∧ g = e.foldl jobS h ∧ ∀ v : Int, of l v = of e v ++ of x v
theorem ran_nil (l : List Jb) (h : List Cl) : Ran l h [] l h := ⟨List.Sublist.refl _, by simp, by simp, rfl, fun v => rfl⟩
theorem acts_keep : ∀ (ac : List Ac) (h : List Cl), RightB h = true → (∀ a ∈ ac, okA a = true) → ac.all (fun a => there h a.f0) = true → RightB (ac.foldl actS h) = true ∧ (ac.foldl actS h).length = h.length ∧ ∀ c, there (ac.foldl actS h) c = there h c
  | [], h, hr, _, _ => ⟨hr, rfl, fun _ => rfl⟩
  | a :: ac, h, hr, ho, ha => by
    rw [List.all_cons, Bool.and_eq_true] at ha
    have ht := there_act ha.1
    obtain ⟨r1, r2, r3⟩ := acts_keep ac (actS h a) (right_act hr ha.1 (ho a (by simp))) (fun b hb => ho b (by simp [hb])) (by
      rw [← ha.2]; congr 1; funext b; exact ht _)
    exact ⟨r1, by rw [List.foldl_cons, r2, act_len], fun c => by rw [List.foldl_cons, r3, ht]⟩
theorem job_keep {h : List Cl} {j : Jb} (hr : RightB h = true) (hj : mayB j = true) (hd : doable h j = true) : RightB (jobS h j) = true ∧ (jobS h j).length = h.length ∧ ∀ c, there (jobS h j) c = there h c :=
  acts_keep j.f1 h hr ((mayB_iff j).1 hj).2.2 hd
theorem able_keep {h g : List Cl} (ht : ∀ c, there g c = there h c) (j : Jb) : doable g j = doable h j := by
  unfold doable; congr 1; funext a; exact ht _
theorem jobs_keep : ∀ (e : List Jb) (h : List Cl), RightB h = true → (∀ j ∈ e, mayB j = true) → (∀ j ∈ e, doable h j = true) → RightB (e.foldl jobS h) = true ∧ (e.foldl jobS h).length = h.length ∧ ∀ c, there (e.foldl jobS h) c = there h c
  | [], h, hr, _, _ => ⟨hr, rfl, fun _ => rfl⟩
  | j :: e, h, hr, ho, ha => by
    obtain ⟨q1, q2, q3⟩ := job_keep hr (ho j (by simp)) (ha j (by simp))
    obtain ⟨r1, r2, r3⟩ := jobs_keep e (jobS h j) q1 (fun b hb => ho b (by simp [hb])) (fun b hb => by rw [able_keep q3]; exact ha b (by simp [hb]))
    exact ⟨r1, by rw [List.foldl_cons, r2, q2], fun c => by rw [List.foldl_cons, r3, q3]⟩
theorem ran_keep {l : List Jb} {h : List Cl} {e x : List Jb} {g : List Cl} (hl : RJ l) (hh : RightB h = true) (r : Ran l h e x g) : RightB g = true ∧ g.length = h.length ∧ ∀ c, there g c = there h c := by
  obtain ⟨r1, r2, r3, r4, r5⟩ := r
  rw [r4]
  exact jobs_keep e h hh (fun j hj => hl.2.1 j (r2 j hj)) r3
theorem of_append (a b : List Jb) (v : Int) : of (a ++ b) v = of a v ++ of b v := List.filter_append ..
theorem ran_step {l : List Jb} {h : List Cl} {e x : List Jb} {g : List Cl} (hl : RJ l) (hh : RightB h = true) (r : Ran l h e x g) (w : Int) :
    (∃ j x', doB x w g = (x', jobS g j, 0) ∧ of x w = j :: of x' w ∧ (∀ v, v ≠ w → of x v = of x' v) ∧ doable h j = true ∧ j.f0 = w ∧ Ran l h (e ++ [j]) x' (jobS g j)) ∨ (doB x w g = (x, g, 3) ∧ (of x w = [] ∨ ∃ j t, of x w = j :: t ∧ doable h j = false)) := by
  obtain ⟨k1, k2, k3⟩ := ran_keep hl hh r
  obtain ⟨r1, r2, r3, r4, r5⟩ := r
  unfold doB
  rw [if_pos ⟨(rightJ_iff x).2 (RJ_sub hl r1), k1⟩]
  cases hc : cutJ x w with
  | none =>
    refine .inr ⟨rfl, .inl ?_⟩
    unfold of
    rw [List.filter_eq_nil_iff]
    intro j hj
    simpa using cut_none hc j hj
  | some p =>
    obtain ⟨j, x'⟩ := p
    obtain ⟨c1, c2, c3, c4, c5⟩ := cut_some hc
    have cw : of x w = j :: of x' w := by unfold of; rw [c5 w, if_pos rfl]; rfl
    have cv : ∀ v, v ≠ w → of x v = of x' v := fun v hv => by unfold of; rw [c5 v, if_neg hv]; rfl
    dsimp only
    rw [able_keep k3]
    by_cases hd : doable h j = true
    · rw [if_pos hd]
      refine .inl ⟨j, x', rfl, cw, cv, hd, c1, c3.trans r1, fun y hy => ?_, fun y hy => ?_, ?_, fun v => ?_⟩
      · rcases List.mem_append.1 hy with hy | hy
        · exact r2 y hy
        · rw [List.mem_singleton.1 hy]; exact r1.subset c2
      · rcases List.mem_append.1 hy with hy | hy
        · exact r3 y hy
        · rw [List.mem_singleton.1 hy]; exact hd
      · rw [List.foldl_append, ← r4]; rfl
      · rw [r5 v, of_append]
        by_cases hv : v = w
        · subst hv
          rw [cw, List.append_assoc]
          congr 1
          unfold of
          rw [List.filter_cons, if_pos (by simpa using c1)]; rfl
        · rw [cv v hv, List.append_assoc]
          congr 1
          unfold of
          rw [List.filter_cons, if_neg (by rw [c1]; simpa using fun e => hv e.symm)]; rfl
    · rw [if_neg hd]
      exact .inr ⟨rfl, .inr ⟨j, _, cw, Bool.eq_false_iff.2 hd⟩⟩
/-! a cell -/
def cellA (c : Nat) (v : Int) (ac : List Ac) : Int := ac.foldl (fun v a => if a.f0.toNat = c then actV a v else v) v
def cellJ (c : Nat) (v : Int) (e : List Jb) : Int := e.foldl (fun v j => cellA c v j.f1) v
theorem acts_get (c : Nat) : ∀ (ac : List Ac) (h : List Cl), c < h.length → ac.all (fun a => there h a.f0) = true → (ac.foldl actS h).getD c z66 = ⟨(h.getD c z66).f0, cellA c (h.getD c z66).f1 ac⟩
  | [], h, _, _ => rfl
  | a :: ac, h, hc, ha => by
    rw [List.all_cons, Bool.and_eq_true] at ha
    have ht := there_act ha.1
    have := acts_get c ac (actS h a) (by rw [act_len]; exact hc) (by rw [← ha.2]; congr 1; funext b; exact ht _)
    rw [List.foldl_cons, this, act_get h a c hc]
    unfold cellA
    rw [List.foldl_cons]
    by_cases e : a.f0.toNat = c
    · rw [if_pos e, if_pos e]
      have := ((there_iff h a.f0).1 ha.1).2.2
      rw [e] at this
      rw [this]
    · rw [if_neg e, if_neg e]
theorem jobs_get (c : Nat) : ∀ (e : List Jb) (h : List Cl), RightB h = true → (∀ j ∈ e, mayB j = true) → c < h.length → (∀ j ∈ e, doable h j = true) → (e.foldl jobS h).getD c z66 = ⟨(h.getD c z66).f0, cellJ c (h.getD c z66).f1 e⟩
  | [], h, _, _, _, _ => rfl
  | j :: e, h, hr, ho, hc, ha => by
    obtain ⟨q1, q2, q3⟩ := job_keep hr (ho j (by simp)) (ha j (by simp))
    have := jobs_get c e (jobS h j) q1 (fun b hb => ho b (by simp [hb])) (by rw [q2]; exact hc) (fun b hb => by rw [able_keep q3]; exact ha b (by simp [hb]))
    rw [List.foldl_cons, this]
    have := acts_get c j.f1 h hc (ha j (by simp))
    unfold jobS
    rw [this]
    rfl
theorem cellA_no (c : Nat) : ∀ (ac : List Ac) (v : Int), (∀ a ∈ ac, a.f0.toNat ≠ c) → cellA c v ac = v
  | [], _, _ => rfl
  | a :: ac, v, h => by
    unfold cellA
    rw [List.foldl_cons, if_neg (h a (by simp))]
    exact cellA_no c ac v (fun b hb => h b (by simp [hb]))
theorem cellJ_of (c : Nat) (w : Int) : ∀ (e : List Jb) (v : Int), (∀ j ∈ e, j.f0 ≠ w → ∀ a ∈ j.f1, a.f0.toNat ≠ c) → cellJ c v e = cellJ c v (of e w)
  | [], _, _ => rfl
  | j :: e, v, h => by
    have ih := fun v => cellJ_of c w e v (fun b hb => h b (by simp [hb]))
    unfold of
    rw [List.filter_cons]
    by_cases hj : j.f0 = w
    · rw [if_pos (by simpa using hj)]
      exact ih _
    · rw [if_neg (by simpa using hj)]
      have := cellA_no c j.f1 v (h j (by simp) hj)
      show cellJ c (cellA c v j.f1) e = _
      rw [this]
      exact ih _
theorem touch {l : List Jb} (hl : RJ l) (c : Nat) (j : Jb) (hj : j ∈ l) (hw : j.f0 ≠ hold1 l (c : Int)) : ∀ a ∈ j.f1, a.f0.toNat ≠ c := by
  intro a ha e
  have hok := ((okA_iff a).1 (((mayB_iff j).1 (hl.2.1 j hj)).2.2 a ha)).1
  have hh : holdsB j (c : Int) = true := (holds_iff j _).2 ⟨a, ha, by omega⟩
  rcases hold_cases hl (c : Int) with ⟨_, g⟩ | ⟨_, _, g⟩
  · rw [g j hj] at hh; cases hh
  · exact hw (g j hj hh)
theorem ran_cell {l : List Jb} {h : List Cl} {e x : List Jb} {g : List Cl} (hl : RJ l) (hh : RightB h = true) (r : Ran l h e x g) (c : Nat) (hc : c < h.length) :
    g.getD c z66 = ⟨(h.getD c z66).f0, cellJ c (h.getD c z66).f1 (of e (hold1 l (c : Int)))⟩ := by
  obtain ⟨r1, r2, r3, r4, r5⟩ := r
  rw [r4, jobs_get c e h hh (fun j hj => hl.2.1 j (r2 j hj)) hc r3, cellJ_of c (hold1 l (c : Int)) e _ (fun j hj hw => touch hl c j (r2 j hj) hw)]
theorem ran_get {l : List Jb} {h : List Cl} {e x : List Jb} {g : List Cl} (hl : RJ l) (hh : RightB h = true) (r : Ran l h e x g) (c : Int) :
    getB g c = if there h c = true then (cellJ c.toNat (h.getD c.toNat z66).f1 (of e (hold1 l c)), 0) else (0, 3) := by
  obtain ⟨k1, k2, k3⟩ := ran_keep hl hh r
  unfold getB
  rw [if_pos k1, k3]
  by_cases ht : there h c = true
  · rw [if_pos ht, if_pos ht]
    obtain ⟨t0, t1, _⟩ := there_rng ht
    rw [ran_cell hl hh r c.toNat (by omega), show ((c.toNat : Nat) : Int) = c by omega]
  · rw [if_neg ht, if_neg ht]
theorem cells_ext {a b : List Cl} (hl : a.length = b.length) (h : ∀ c, c < a.length → a.getD c z66 = b.getD c z66) : a = b := by
  apply List.ext_getElem hl
  intro i h1 h2
  have := h i h1
  rw [List.getD_eq_getElem?_getD, List.getD_eq_getElem?_getD, List.getElem?_eq_getElem h1, List.getElem?_eq_getElem h2] at this
  exact this
theorem ran_heap {l : List Jb} {h : List Cl} {e x e' x' : List Jb} {g g' : List Cl} (hl : RJ l) (hh : RightB h = true) (r : Ran l h e x g) (r' : Ran l h e' x' g') (he : ∀ v, of e v = of e' v) : g = g' := by
  have k := (ran_keep hl hh r).2.1
  refine cells_ext (by rw [k, (ran_keep hl hh r').2.1]) fun c hc => ?_
  rw [ran_cell hl hh r c (by omega), ran_cell hl hh r' c (by omega), he]
end Go.Proofs.Ytihcnbhcemkncaa.A
