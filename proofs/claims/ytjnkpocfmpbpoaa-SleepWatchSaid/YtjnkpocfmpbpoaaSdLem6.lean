/-
 PROVED: Plain lemmas on numbers and lists, of what the printed functions answer. No condition beside those of each lemma.
-/
import Derived.Test.YtjnkpocfmpbpoaaSdLem3
import Derived.Test.YtjnkpocfmpbpoaaSdx3
import Derived.Test.YtjnkpocfmpbpoaaSdx8
import Derived.Test.YtjnkpocfmpbpoaaSdx9
import Derived.Test.YtjnkpocfmpbpoaaSdx10
namespace Go.Proofs.Ytjnkpocfmpbpoaa.Sd
open Go.RowKit Go.Proofs.YtjnkpocfmpbpoaaW.PrintWords Go.Proofs.YtjnkpocfmpbpoaaW.PrintLast Go.Proofs.YtjnkpocfmpbpoaaW.PrintMore Go.Proofs.Ytjnkpocfmpbpoaa.Ho
set_option linter.unusedVariables false
set_option linter.unusedSimpArgs false
/-! ### reads -/
def okR (r : S57) : Bool := decide (0 ≤ r.f0) && tickB r.f1 && inR r.f2
theorem okR_eq (r : S57) : okR r = true ↔ 0 ≤ r.f0 ∧ tickB r.f1 = true ∧ inR r.f2 = true := by
 unfold okR
 rw [Bool.and_eq_true, Bool.and_eq_true, decide_eq_true_eq, and_assoc]
def plc (l : List S57) (c : Int) : Int := idxT (fun x => x.f0 == c) l 0
theorem rplace_f (l : List S57) (c : Int) : reads_place.f l c = some (plc l c) := by
 unfold reads_place.f idx_at_reads_place_1.f plc
 rw [idxF_T (f := fun x : S57 => reads_place_1.f x.f0 x.f1 x.f2 c) (p := fun x => x.f0 == c) l 0 (fun x _ => rfl)]; rfl
theorem plc_cases (l : List S57) (c : Int) : (plc l c = -1 ∧ ∀ x ∈ l, x.f0 ≠ c) ∨ ∃ j : Nat, j < l.length ∧ plc l c = (j : Int) ∧ (l.getD j z57).f0 = c ∧ ∀ m, m < j → (l.getD m z57).f0 ≠ c := by
 rcases idxT_cases (fun x : S57 => x.f0 == c) z57 l 0 with ⟨h1, h2⟩ | ⟨j, h1, h2, h3, h4⟩
 · exact .inl ⟨h1, fun x hx => by simpa using h2 x hx⟩
 · exact .inr ⟨j, h1, by unfold plc; rw [h2]; omega, by simpa using h3, fun m hm => by simpa using h4 m hm⟩
abbrev RightP (l : List S57) : Prop := l.length ≤ 24 ∧ (∀ x ∈ l, okR x = true) ∧ l.Pairwise (fun a b => a.f0 ≠ b.f0)
def rightR (l : List S57) : Bool := decide (RightP l)
theorem rightR_iff (l : List S57) : rightR l = true ↔ RightP l := by unfold rightR; rw [decide_eq_true_eq]
theorem rightR_no {l : List S57} (h : ¬ RightP l) : rightR l = false := by unfold rightR; rw [decide_eq_false_iff_not]; exact h
theorem pair_at {l : List S57} (h : l.Pairwise (fun a b => a.f0 ≠ b.f0)) (i j : Nat) (hij : i < j) (hj : j < l.length) : (l.getD i z57).f0 ≠ (l.getD j z57).f0 := by
 have := List.pairwise_iff_getElem.1 h i j (by omega) hj hij
 rw [List.getD_eq_getElem?_getD, List.getElem?_eq_getElem (by omega), List.getD_eq_getElem?_getD, List.getElem?_eq_getElem hj]
 exact this
theorem pair_same {l : List S57} (h : l.Pairwise (fun a b => a.f0 ≠ b.f0)) (i j : Nat) (hi : i < l.length) (hj : j < l.length) (e : (l.getD i z57).f0 = (l.getD j z57).f0) : i = j := by
 rcases Nat.lt_trichotomy i j with h1 | h1 | h1
 · exact absurd e (pair_at h i j h1 hj)
 · exact h1
 · exact absurd e.symm (pair_at h j i h1 hi)
theorem pair_sn {l : List S57} (i : Nat) (hi : i < l.length) (h : (l.take i).Pairwise (fun a b => a.f0 ≠ b.f0)) (hx : ∀ m, m < i → (l.getD m z57).f0 ≠ (l.getD i z57).f0) : (l.take (i + 1)).Pairwise (fun a b => a.f0 ≠ b.f0) := by
 rw [take_snG l z57 i hi, List.pairwise_append]
 refine ⟨h, List.pairwise_singleton _ _, fun a ha b hb => ?_⟩
 obtain ⟨m, hm, rfl⟩ := mem_takeG l z57 i a (by omega) ha
 rw [List.mem_singleton.1 hb]
 exact hx m hm
theorem ok_sn {l : List S57} (i : Nat) (hi : i < l.length) (h : ∀ x ∈ l.take i, okR x = true) (hx : okR (l.getD i z57) = true) : ∀ x ∈ l.take (i + 1), okR x = true := by
 intro x hx'
 rw [take_snG l z57 i hi] at hx'
 rcases List.mem_append.1 hx' with h' | h'
 · exact h x h'
 · rw [List.mem_singleton.1 h']; exact hx
theorem RightR_l (l : List S57) (hm : l.length < 4398046511104) (d : Nat) : ∀ (k i : Nat), i ≤ l.length → l.length - i = d → d < k → (∀ x ∈ l.take i, okR x = true) → (l.take i).Pairwise (fun a b => a.f0 ≠ b.f0) →
 reads_Right.l0 k l l (l.length : Int) (i : Int) = some (rightR l) := by
 induction d with
 | zero =>
  intro k i hi hd hk h1 h2
  obtain ⟨k, rfl⟩ : ∃ m, k = m + 1 := ⟨k - 1, by omega⟩
  rw [List.take_of_length_le (by omega)] at h1 h2
  simp only [reads_Right.l0]
  rw [if_neg (by omega)]
  unfold rightR
  congr 1
  rw [decide_eq_decide]
  exact ⟨fun h => ⟨by omega, h1, h2⟩, fun h => by have := h.1; omega⟩
 | succ d ih =>
  intro k i hi hd hk h1 h2
  obtain ⟨k, rfl⟩ : ∃ m, k = m + 1 := ⟨k - 1, by omega⟩
  have hmem := getD_in l z57 i (by omega)
  have no : ¬ okR (l.getD i z57) = true → some false = some (rightR l) := fun h => by rw [rightR_no (fun e => h (e.2.1 _ hmem))]
  simp only [reads_Right.l0]
  rw [if_pos (by omega), if_pos (by omega), if_pos (by omega), show rd_T57 l (i : Int) = l.getD i z57 from rfl, tick_f, right_f, rplace_f, wrN (by omega)]
  simp only [Option.bind_some]
  by_cases a0 : (l.getD i z57).f0 < 0
  · rw [if_pos a0]; exact no (fun e => by have := ((okR_eq _).1 e).1; omega)
  rw [if_neg a0]
  by_cases a1 : tickB (l.getD i z57).f1 = true
  · rw [if_pos a1]
    by_cases a2 : inR (l.getD i z57).f2 = true
    · rw [if_pos a2]
      have hok : okR (l.getD i z57) = true := (okR_eq _).2 ⟨by omega, a1, a2⟩
      rcases plc_cases l (l.getD i z57).f0 with ⟨h, h'⟩ | ⟨j, hj, h, h', h''⟩
      · exact absurd rfl (h' _ hmem)
      · rw [h]
        by_cases e : j = i
        · subst e
          rw [if_pos rfl]
          exact ih k (j + 1) (by omega) (by omega) (by omega) (ok_sn j (by omega) h1 hok) (pair_sn j (by omega) h2 h'')
        · rw [if_neg (by omega), rightR_no]
          intro e'
          exact e (pair_same e'.2.2 j i hj (by omega) h')
    · rw [if_neg a2]; exact no (fun e => a2 ((okR_eq _).1 e).2.2)
  · rw [if_neg a1]; exact no (fun e => a1 ((okR_eq _).1 e).2.1)
theorem RightR_f (k : Nat) (l : List S57) (hm : l.length < 4398046511104) (hk : l.length < k) : reads_Right.f k l = some (rightR l) := by
 unfold reads_Right.f
 exact RightR_l l hm l.length k 0 (by omega) (by omega) (by omega) (by simp) (by simp)
def findR (l : List S57) (c : Int) : Int × Int × Int × Bool :=
 if 0 ≤ plc l c ∧ rightR l = true then ((l.getD (plc l c).toNat z57).f0, (l.getD (plc l c).toNat z57).f1, (l.getD (plc l c).toNat z57).f2, true) else (0, 0, 0, false)
theorem FindR_f (k : Nat) (l : List S57) (c : Int) (hm : l.length < 4398046511104) (hk : l.length < k) : reads_Find.f k l c = some (findR l c) := by
 unfold reads_Find.f findR
 rw [rplace_f, RightR_f k l hm hk]
 simp only [Option.bind_some]
 rcases plc_cases l c with ⟨h, h'⟩ | ⟨j, hj, h, h', h''⟩
 · rw [h, if_pos (by omega), if_neg (by omega)]
 · rw [h, if_neg (by omega)]
   by_cases h1 : rightR l = true
   · rw [if_pos h1, if_pos (by omega), if_pos (by omega), if_pos ⟨by omega, h1⟩]; rfl
   · rw [if_neg h1, if_neg (fun e => h1 e.2)]
def cellsR (l : List S57) : List Int := if rightR l = true then (l.map fun x => x.f0).mergeSort fun x y => decide (x ≤ y) else []
theorem CellsR_l (l : List S57) (hm : l.length < 4398046511) (d : Nat) : ∀ (k i : Nat), i ≤ l.length → l.length - i = d → d + l.length + 1 < k →
 reads_Cells.l0 k l ((l.take i).map fun x => x.f0) l (l.length : Int) (i : Int) = some (cellsR l) := by
 induction d with
 | zero =>
  intro k i hi hd hk
  obtain ⟨k, rfl⟩ : ∃ m, k = m + 1 := ⟨k - 1, by omega⟩
  rw [List.take_of_length_le (by omega)]
  simp only [reads_Cells.l0]
  rw [if_neg (by omega), RightR_f k l (by omega) (by omega)]
  unfold cellsR slices_Sort.f
  simp only [Option.bind_some]
  by_cases h : rightR l = true
  · rw [if_pos h, if_pos h, if_pos (by rw [List.length_map]; omega)]; rfl
  · rw [if_neg h, if_neg h]
 | succ d ih =>
  intro k i hi hd hk
  obtain ⟨k, rfl⟩ : ∃ m, k = m + 1 := ⟨k - 1, by omega⟩
  simp only [reads_Cells.l0]
  rw [if_pos (by omega), if_pos (by omega), if_pos (by omega), if_pos (by rw [List.length_map, List.length_take]; omega), wrN (by omega)]
  have := ih k (i + 1) (by omega) (by omega) (by omega)
  rw [take_snG l z57 i (by omega), List.map_append] at this
  exact this
theorem CellsR_f (k : Nat) (l : List S57) (hm : l.length < 4398046511) (hk : 2 * l.length + 1 < k) : reads_Cells.f k l = some (cellsR l) := by
 unfold reads_Cells.f
 have := CellsR_l l hm l.length k 0 (by omega) (by omega) (by omega)
 simpa using this
theorem cellsR_up {l : List S57} (hr : rightR l = true) : (cellsR l).Pairwise (· < ·) := by
 have h := ((rightR_iff l).1 hr).2.2
 unfold cellsR
 rw [if_pos hr]
 have h1 := List.pairwise_mergeSort (le := fun x y : Int => decide (x ≤ y)) (by intro a b c; simp; omega) (by intro a b; simp; omega) (l.map fun x => x.f0)
 have h2 : ((l.map fun x => x.f0).mergeSort fun x y => decide (x ≤ y)).Pairwise (· ≠ ·) := by
  rw [(List.mergeSort_perm _ _).pairwise_iff (fun h => Ne.symm h), List.pairwise_map]
  exact h
 exact (h1.and h2).imp fun h => by have := of_decide_eq_true h.1; have := h.2; omega
theorem cellsR_mem {l : List S57} (hr : rightR l = true) (c : Int) : c ∈ cellsR l ↔ ∃ x ∈ l, x.f0 = c := by
 unfold cellsR
 rw [if_pos hr, List.mem_mergeSort, List.mem_map]
theorem cellsR_len {l : List S57} (hr : rightR l = true) : (cellsR l).length = l.length := by
 unfold cellsR
 rw [if_pos hr, List.length_mergeSort, List.length_map]
/-! ### what reads have -/
abbrev Rd := S57
def watchedR (l : List Rd) : List Wr := (cellsR l).map fun c => ⟨c, (findR l c).2.2.1⟩
theorem Watched_l (l : List Rd) (cs : List Int) (hl : l.length ≤ 1000) (hm : cs.length ≤ 1000) (d : Nat) : ∀ (k i : Nat), i ≤ cs.length → cs.length - i = d → d + 1100 < k →
 sleep_Watched.l0 k l ((cs.take i).map fun c => (⟨c, (findR l c).2.2.1⟩ : Wr)) cs (cs.length : Int) (i : Int) = some (cs.map fun c => (⟨c, (findR l c).2.2.1⟩ : Wr)) := by
 induction d with
 | zero =>
  intro k i hi hd hk
  obtain ⟨k, rfl⟩ : ∃ m, k = m + 1 := ⟨k - 1, by omega⟩
  simp only [sleep_Watched.l0]
  rw [if_neg (by omega), List.take_of_length_le (by omega)]
 | succ d ih =>
  intro k i hi hd hk
  obtain ⟨k, rfl⟩ : ∃ m, k = m + 1 := ⟨k - 1, by omega⟩
  have next := ih k (i + 1) (by omega) (by omega) (by omega)
  rw [take_snG cs 0 i (by omega), List.map_append] at next
  simp only [sleep_Watched.l0]
  rw [if_pos (by omega), if_pos (by omega), if_pos (by omega), show rd cs (i : Int) = cs.getD i 0 from rfl, FindR_f k l _ (by omega) (by omega), Option.bind_some, if_pos (by rw [List.length_map, List.length_take]; omega), wrN (by omega)]
  exact next
theorem cellsR_le (l : List Rd) : (cellsR l).length ≤ l.length := by
 unfold cellsR
 split
 · rw [List.length_mergeSort, List.length_map]; exact Nat.le_refl _
 · simp
theorem Watched_f (k : Nat) (l : List Rd) (hl : l.length ≤ 500) (hk : 2200 < k) : sleep_Watched.f k l = some (watchedR l) := by
 have hc := cellsR_le l
 unfold sleep_Watched.f watchedR
 rw [CellsR_f k l (by omega) (by omega), Option.bind_some]
 have := Watched_l l (cellsR l) (by omega) (by omega) (cellsR l).length k 0 (by omega) (by omega) (by omega)
 exact this
theorem mem_idxR {l : List Rd} {x : Rd} (hx : x ∈ l) : ∃ i, i < l.length ∧ l.getD i z57 = x := by
 obtain ⟨i, hi, rfl⟩ := List.mem_iff_getElem.1 hx
 exact ⟨i, hi, by rw [List.getD_eq_getElem?_getD, List.getElem?_eq_getElem hi]; rfl⟩
theorem find_val {l : List Rd} (hr : rightR l = true) {x : Rd} (hx : x ∈ l) : (findR l x.f0).2.2.1 = x.f2 := by
 obtain ⟨i, hi, rfl⟩ := mem_idxR hx
 unfold findR
 rcases plc_cases l (l.getD i z57).f0 with ⟨_, h⟩ | ⟨j, hj, e, h, _⟩
 · exact absurd rfl (h _ (getD_in l z57 i hi))
 · have := pair_same ((rightR_iff l).1 hr).2.2 j i hj hi h
   subst this
   rw [e, if_pos ⟨by omega, hr⟩]; rfl
theorem right_perm {l l' : List Rd} (hp : l.Perm l') : rightR l = rightR l' := by
 rw [Bool.eq_iff_iff, rightR_iff, rightR_iff]
 unfold RightP
 rw [hp.length_eq, hp.pairwise_iff (fun h => Ne.symm h)]
 constructor
 · rintro ⟨a, b, c⟩; exact ⟨a, fun x hx => b x (hp.mem_iff.2 hx), c⟩
 · rintro ⟨a, b, c⟩; exact ⟨a, fun x hx => b x (hp.mem_iff.1 hx), c⟩
theorem ints_ext : ∀ (a b : List Int), a.Pairwise (· < ·) → b.Pairwise (· < ·) → (∀ x, x ∈ a ↔ x ∈ b) → a = b
 | [], [], _, _, _ => rfl
 | [], y :: b, _, _, h => absurd ((h y).2 (by simp)) (by simp)
 | x :: a, [], _, _, h => absurd ((h x).1 (by simp)) (by simp)
 | x :: a, y :: b, ha, hb, h => by
  rw [List.pairwise_cons] at ha hb
  have hxy : x = y := by
   have h1 := (h x).1 (by simp)
   have h2 := (h y).2 (by simp)
   rcases List.mem_cons.1 h1 with e | e
   · exact e
   · rcases List.mem_cons.1 h2 with e' | e'
     · exact e'.symm
     · have p := ha.1 y e'
       have q := hb.1 x e
       omega
  subst hxy
  have hx : ∀ (l : List Int), (∀ z ∈ l, x < z) → x ∉ l := fun l hl hm => by
   have := hl x hm
   omega
  rw [ints_ext a b ha.2 hb.2 fun z => ?_]
  constructor
  · intro hz
    rcases List.mem_cons.1 ((h z).1 (List.mem_cons_of_mem _ hz)) with e | e
    · exact absurd (e ▸ hz) (hx a ha.1)
    · exact e
  · intro hz
    rcases List.mem_cons.1 ((h z).2 (List.mem_cons_of_mem _ hz)) with e | e
    · exact absurd (e ▸ hz) (hx b hb.1)
    · exact e
theorem watched_perm {l l' : List Rd} (hp : l.Perm l') : watchedR l = watchedR l' := by
 unfold watchedR
 by_cases hr : rightR l = true
 · have hr' : rightR l' = true := by rw [← right_perm hp]; exact hr
   have hc : cellsR l = cellsR l' := ints_ext _ _ (cellsR_up hr) (cellsR_up hr') fun c => by
    rw [cellsR_mem hr, cellsR_mem hr']
    exact ⟨fun ⟨x, hx, e⟩ => ⟨x, hp.mem_iff.1 hx, e⟩, fun ⟨x, hx, e⟩ => ⟨x, hp.mem_iff.2 hx, e⟩⟩
   rw [← hc]
   apply List.map_congr_left
   intro c hc'
   obtain ⟨x, hx, rfl⟩ := (cellsR_mem hr c).1 hc'
   rw [find_val hr hx, find_val hr' (hp.mem_iff.1 hx)]
 · have hr' : ¬ rightR l' = true := by rw [← right_perm hp]; exact hr
   unfold cellsR
   rw [if_neg hr, if_neg hr']
   rfl
theorem ListW_l (w : List Wr) (hm : w.length < 4398046511104) (d : Nat) : ∀ (k i : Nat), i ≤ w.length → w.length - i = d → d < k → handshakerref06_List.l0 k w w (i : Int) = some true := by
 induction d with
 | zero =>
  intro k i hi hd hk
  obtain ⟨k, rfl⟩ : ∃ m, k = m + 1 := ⟨k - 1, by omega⟩
  simp only [handshakerref06_List.l0]
  rw [if_neg (by omega)]
 | succ d ih =>
  intro k i hi hd hk
  obtain ⟨k, rfl⟩ : ∃ m, k = m + 1 := ⟨k - 1, by omega⟩
  simp only [handshakerref06_List.l0]
  rw [if_pos (by omega), if_pos (by omega), if_pos (by omega), if_neg (by simp), wrN (by omega)]
  exact ih k (i + 1) (by omega) (by omega) (by omega)
theorem ListW_f (k : Nat) (w : List Wr) (hm : w.length < 4398046511104) (hk : w.length < k) : handshakerref06_List.f k w w = some true := by
 unfold handshakerref06_List.f
 rw [if_pos rfl]
 exact ListW_l w hm w.length k 0 (by omega) (by omega) (by omega)
end Go.Proofs.Ytjnkpocfmpbpoaa.Sd
