/- A row of the call's own, into which slices.Insert puts one element: what 'copy' does on elements of several cells, and the row behind it. -/
import Derived.Test.YtjnkpocfmpbpoaaWWords
import Derived.Test.YtjnkpocfmpbpoaaWLast
import Derived.Test.YtjnkpocfmpbpoaaWNEv
import Derived.Test.YtjnkpocfmpbpoaaDl
import Derived.Lib.SliceRun
import Derived.Lib.AppendZerosOnto
import Derived.Lib.Overlaps
import Derived.Laws.NewBlocks
import Derived.Shelf.Spec.SlicesInsert
namespace Go.Proofs.Ytjnkpocfmpbpoaa.Ins
open Go.RowKit Go.Proofs.YtjnkpocfmpbpoaaW.PrintWords Go.Proofs.YtjnkpocfmpbpoaaW.PrintLast
set_option linter.unusedVariables false
set_option linter.unusedSimpArgs false
variable {P : Program}
theorem copy_cells (w : World) (dT sT ty elem sz : Nat) (b o dLen dCap : Nat) (a : Addr) (sLen sCap : Nat) (cs : List Value)
    (hu : P.underlying dT = some (.slice elem)) (hs : (P.info? elem).map (·.size) = some sz) (hn : cs.length = Nat.min sLen dLen * sz)
    (hsrc : ∀ j v, cs[j]? = some v → w.cell? (a.add j) = some v) (hc : ∀ j, j < cs.length → (w.cell? ⟨b, o + j, none⟩).isSome = true) (hf : ∀ j, j < cs.length → w.frozen? ⟨b, o + j, none⟩ = false) (h1 : ∀ v ∈ cs, v.oneCell' = true) :
    (Builtin.copy_ #[dT, sT] ty #[.slice (some ⟨b, o, none⟩) dLen dCap, .slice (some a) sLen sCap]).run P w = .ok (goInt (Nat.min sLen dLen)) (w.setCells b o cs) := by
  have hl := run_loadCells_list (P := P) w a cs hsrc
  have hst := run_storeCells_cells (P := P) b o cs 0 w (by simpa using hc) (by simpa using hf) h1
  cases hq : P.info? elem with
  | none => simp [hq] at hs
  | some i =>
    have hi : i.size = sz := by simpa [hq] using hs
    simp [Builtin.copy_, run_underlying hu, Builtin.lenOf, Builtin.firstCells, sizeOf, typeInfo, hq, hi, ← hn, hl, hst]
abbrev RawM (sz : Nat) : List Value → List Value → Prop := fun x cs => cs = x ∧ cs.length = sz ∧ ∀ u ∈ cs, u.oneCell' = true
theorem reps_one {sz : Nat} {rows : List (List Value)} {inner : List Value} (hr : Reps (RawM sz) sz rows inner) : ∀ u ∈ inner, u.oneCell' = true := by
  intro u hu
  obtain ⟨q, hq, rfl⟩ := List.mem_iff_getElem.1 hu
  have hs0 : 0 < sz := by
    rcases Nat.eq_zero_or_pos sz with h | h
    · have := hr.1; rw [h, Nat.mul_zero] at this; omega
    · exact h
  have hql : q / sz < rows.length := by
    rw [Nat.div_lt_iff_lt_mul hs0, ← hr.1]
    exact hq
  refine (hr.2 (q / sz) _ (List.getElem?_eq_getElem hql)).2.2 _ ?_
  rw [List.mem_iff_getElem?]
  refine ⟨q % sz, ?_⟩
  rw [List.getElem?_take, if_pos (Nat.mod_lt _ hs0), List.getElem?_drop, Nat.mul_comm, Nat.div_add_mod, List.getElem?_eq_getElem hq]
theorem raw_open {sz e base g n c : Nat} {w : World} {ok : Nat → Prop} {rows : List (List Value)} (H : (Kd.raw sz).R e w base ok (.slice (some ⟨g, 0, none⟩) n c) rows) :
    ∃ cur : Array Value, w.heap[g]? = some (.cells cur e (0, 0)) ∧ base ≤ g ∧ n = rows.length ∧ n ≤ c ∧ c ≤ 9223372036854775807 ∧ cur.size = c * sz ∧ Reps (RawM sz) sz rows (cur.toList.take (n * sz)) := by
  obtain ⟨hn, hnc, _⟩ := Kd.R_reads' H
  obtain ⟨hok, inner, hown, hr⟩ := H
  rcases hown.2 with ⟨hv, _⟩ | ⟨g', cap', cur, hv, hb, hh, h6, hcm, hcs, htake⟩
  · cases hv
  injection hv with ha _ hc
  injection ha with ha
  injection ha with hg
  subst hg; subst hc
  refine ⟨cur, hh, hb, hn, hnc, hcm, hcs, ?_⟩
  rw [← hn] at htake
  rw [show n * sz = n * (Kd.raw sz).sz from rfl, htake]
  exact hr
theorem raw_close {sz e base g c n : Nat} {w : World} {rows : List (List Value)} {cur : Array Value} {inner : List Value} (hh : w.heap[g]? = some (.cells cur e (0, 0))) (hb : base ≤ g) (hn : n = rows.length) (hnc : n ≤ c) (hcm : c ≤ 9223372036854775807) (hcs : cur.size = c * sz) (ht : cur.toList.take (n * sz) = inner) (hr : Reps (RawM sz) sz rows inner) :
    (Kd.raw sz).R e w base (fun _ => True) (.slice (some ⟨g, 0, none⟩) n c) rows := by
  subst hn
  exact ⟨fun _ _ => trivial, inner, ⟨hr.1, .inr ⟨g, c, cur, rfl, hb, hh, hnc, hcm, hcs, ht⟩⟩, hr⟩
theorem reps_ins {sz i : Nat} {rows : List (List Value)} {cs y : List Value} {r : List Value} (h : Reps (RawM sz) sz rows cs) (hy : Reps (RawM sz) sz [r] y) (hi : i ≤ rows.length) : Reps (RawM sz) sz (rows.take i ++ [r] ++ rows.drop i) (cs.take (i * sz) ++ y ++ cs.drop (i * sz)) :=
  Kd.reps_append (Kd.reps_append (Kd.reps_take h hi) hy) (Kd.reps_drop h)
/-- The later cells are moved on, then the new ones laid. -/
theorem two_sets {W : World} {g e : Nat} {cur : Array Value} (hh : W.heap[g]? = some (.cells cur e (0, 0))) (a s m : Nat) (y : List Value) (hy : y.length = s) (ham : a ≤ m) (hms : m + s ≤ cur.size) :
    ∃ cur', ((W.setCells g (a + s) ((cur.toList.take m).drop a)).setCells g a y).heap[g]? = some (.cells cur' e (0, 0)) ∧ cur'.size = cur.size ∧ cur'.toList.take (m + s) = (cur.toList.take m).take a ++ y ++ (cur.toList.take m).drop a := by
  have hcl : cur.toList.length = cur.size := Array.length_toList ..
  have hD : ((cur.toList.take m).drop a).length = m - a := by rw [List.length_drop, List.length_take]; omega
  obtain ⟨c1, h1, h2, h3⟩ := setCells_row ((cur.toList.take m).drop a) (a + s) W cur hh (by omega)
  obtain ⟨c2, g1, g2, g3⟩ := setCells_row y a _ c1 h1 (by omega)
  have hc1 : c1.toList.length = cur.size := by rw [Array.length_toList, h2]
  refine ⟨c2, g1, by omega, ?_⟩
  have e1 : c1.toList.take a = (cur.toList.take m).take a := by
    rw [h3, List.append_assoc, List.take_append_of_le_length (by rw [List.length_take]; omega), List.take_take, List.take_take, Nat.min_eq_left (by omega), Nat.min_eq_left (by omega)]
  have e2 : c1.toList.drop (a + y.length) = (cur.toList.take m).drop a ++ cur.toList.drop (m + s) := by
    rw [h3, hy, List.append_assoc, List.drop_append_of_le_length (by rw [List.length_take]; omega), List.drop_of_length_le (by rw [List.length_take]; omega), List.nil_append, hD, show a + s + (m - a) = m + s by omega]
  rw [g3, e1, e2, ← List.append_assoc]
  exact List.take_left' (by rw [List.length_append, List.length_append, hD, List.length_take, List.length_take, hy]; omega)
/-- The new cells are laid into a new row, then the later ones behind. -/
theorem two_lays {W : World} {g e : Nat} {R : Array Value} (hh : W.heap[g]? = some (.cells R e (0, 0))) (a s : Nat) (y D : List Value) (hy : y.length = s) (hR : a + s + D.length ≤ R.size) :
    ∃ cur', (((W.setCells g a y).drew).setCells g (a + s) D).heap[g]? = some (.cells cur' e (0, 0)) ∧ cur'.size = R.size ∧ cur'.toList.take (a + s + D.length) = R.toList.take a ++ y ++ D := by
  have hcl : R.toList.length = R.size := Array.length_toList ..
  obtain ⟨c1, h1, h2, h3⟩ := setCells_row y a W R hh (by omega)
  obtain ⟨c2, g1, g2, g3⟩ := setCells_row D (a + s) ((W.setCells g a y).drew) c1 h1 (by omega)
  refine ⟨c2, g1, by omega, ?_⟩
  have e1 : c1.toList.take (a + s) = R.toList.take a ++ y := by
    rw [h3]
    exact List.take_left' (by rw [List.length_append, List.length_take, hy]; omega)
  rw [g3, e1]
  exact List.take_left' (by rw [List.length_append, List.length_append, List.length_take, hy]; omega)
theorem set2_grown (w : World) (g a b : Nat) (y z : List Value) : w.grownBy ((w.drew.setCells g a y).setCells g b z) (some g) := Dl.grown_trans (Dl.grown_trans (Dl.drew_grown w _) (Dl.set_grown _ g a y)) (Dl.set_grown _ g b z)
theorem lay_grown (w : World) (o : Obj) (row : Option Nat) (a b : Nat) (y z : List Value) : w.grownBy ((((w.alloc o).drew.setCells w.heap.size a y).drew).setCells w.heap.size b z) row := by
  obtain ⟨s1, s2, s3, s4⟩ := setCells_same w.heap.size y a (w.alloc o).drew
  obtain ⟨t1, t2, t3, t4⟩ := setCells_same w.heap.size z b (((w.alloc o).drew.setCells w.heap.size a y).drew)
  have hp : (w.alloc o).drew.heap = w.heap.push o := rfl
  refine ⟨t1.trans s1, t2.trans s2, t3.trans s3, ?_, fun i hi _ => ?_⟩
  · rw [t4]
    show w.heap.size ≤ ((w.alloc o).drew.setCells w.heap.size a y).heap.size
    rw [s4, hp, Array.size_push]; omega
  · rw [setCells_far _ _ i (by omega)]
    show ((w.alloc o).drew.setCells w.heap.size a y).heap[i]? = _
    rw [setCells_far _ _ i (by omega), hp, Array.getElem?_push, if_neg (by omega)]
section
variable {α : Type} {d : Kd α} {e base : Nat} {W w1 : World} {v v1 : Value} {xs : List α} {x0 : α} {ok okp : Nat → Prop}
theorem N_inserted {rows : List (List Value)} {r : List Value} {i : Nat} (h0 : ∀ k, v.ownBlock = some k → ok k) (hl : rows.length = xs.length) (hf : ∀ (j : Nat) (x : α) (c : List Value), xs[j]? = some x → rows[j]? = some c → Kd.FK d W (fun k => ok k ∧ some k ≠ v.ownBlock) x c)
    (hf2 : Kd.FK d W okp x0 r) (hokp : ∀ k, okp k → ok k ∧ some k ≠ v.ownBlock) (hfresh : ∀ k, W.heap.size ≤ k → ok k) (hi : i ≤ xs.length)
    (hR : (Kd.raw d.sz).R e w1 base (fun _ => True) v1 (rows.take i ++ [r] ++ rows.drop i)) (hg : W.grownBy w1 v.ownBlock) (hat : v1.ownBlock = v.ownBlock ∨ ∃ b, v1.ownBlock = some b ∧ W.heap.size ≤ b) : Kd.N d e w1 base ok v1 (xs.take i ++ [x0] ++ xs.drop i) := by
  have hne : ∀ k, some k ≠ v.ownBlock → k < W.heap.size → some k ≠ v1.ownBlock := by
    intro k hk hlt
    rcases hat with hat | ⟨b, hb, hle⟩
    · rw [hat]; exact hk
    · rw [hb]
      intro he
      injection he with he
      omega
  have step : ∀ {x : α} {c : List Value} {o : Nat → Prop}, Kd.FK d W o x c → (∀ k, o k → ok k ∧ some k ≠ v.ownBlock) → Kd.FK d w1 (fun k => ok k ∧ some k ≠ v1.ownBlock) x c := by
    intro x c o hq ho
    exact Kd.FK_mono (Kd.FK_step (Kd.FK_bound hq) (fun k hk hlt => hg.block k hlt (ho k hk.1).2)) (fun k hk => ⟨(ho k hk.1).1, hne k (ho k hk.1).2 hk.2⟩)
  refine ⟨fun k hk => ?_, rows.take i ++ [r] ++ rows.drop i, by simp [hl], Kd.raw_tight hR, fun j x c hx hc => ?_⟩
  · rcases hat with hat | ⟨b, hb, hle⟩
    · exact h0 k (hat ▸ hk)
    · rw [hb] at hk
      injection hk with hk
      exact hfresh k (by omega)
  · have hti : (xs.take i).length = i := by rw [List.length_take]; omega
    have htr : (rows.take i).length = i := by rw [List.length_take]; omega
    rcases Nat.lt_trichotomy j i with hlt | he | hgt
    · rw [List.append_assoc, List.getElem?_append_left (by omega), List.getElem?_take, if_pos hlt] at hx hc
      exact step (hf j x c hx hc) (fun _ hk => hk)
    · subst he
      rw [List.append_assoc, List.getElem?_append_right (by omega), hti, Nat.sub_self] at hx
      rw [List.append_assoc, List.getElem?_append_right (by omega), htr, Nat.sub_self] at hc
      simp only [List.singleton_append, List.getElem?_cons_zero, Option.some.injEq] at hx hc
      subst hx; subst hc
      exact step hf2 hokp
    · rw [List.getElem?_append_right (by rw [List.length_append, hti]; simp; omega), List.length_append, hti, List.getElem?_drop] at hx
      rw [List.getElem?_append_right (by rw [List.length_append, htr]; simp; omega), List.length_append, htr, List.getElem?_drop] at hc
      exact step (hf _ x c hx hc) (fun _ hk => hk)
end
end Go.Proofs.Ytjnkpocfmpbpoaa.Ins
