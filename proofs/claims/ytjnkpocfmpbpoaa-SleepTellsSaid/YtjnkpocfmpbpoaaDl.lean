/- A row of the call's own, from which slices.Delete takes one element: what 'clear' does to the cell behind, and that the row stays. -/
import Derived.Test.YtjnkpocfmpbpoaaWWords
import Derived.Test.YtjnkpocfmpbpoaaWLast
import Derived.Test.YtjnkpocfmpbpoaaWNEv
import Derived.Lib.SliceRun
namespace Go.Proofs.Ytjnkpocfmpbpoaa.Dl
open Go.RowKit Go.Proofs.YtjnkpocfmpbpoaaW.PrintWords Go.Proofs.YtjnkpocfmpbpoaaW.PrintLast
set_option linter.unusedVariables false
set_option linter.unusedSimpArgs false
variable {P : Program}
theorem zero_one (cs : Array Value) : (Builtin.zeroCells cs 1).toList = cs.toList := by
  unfold Builtin.zeroCells
  apply List.ext_getElem
  · simp
  · intro i h1 h2
    have h3 : i < cs.size := by simpa using h2
    simp [Nat.mod_eq_of_lt h3, getElem!_pos cs i h3]
theorem clear_one (w : World) (t e ty : TypeId) (z : Value) (ht : P.underlying t = some (.slice e)) (hv : ∀ w, (zeroValue e).run P w = .ok z w) (h1 : ∀ v ∈ z.cells.toList, v.oneCell' = true) (b o c : Nat)
    (hc : ∀ j, j < z.cells.size → (w.cell? ⟨b, o + j, none⟩).isSome = true) (hf : ∀ j, j < z.cells.size → w.frozen? ⟨b, o + j, none⟩ = false) :
    (Builtin.clear_ #[t] ty #[.slice (some ⟨b, o, none⟩) 1 c]).run P w = .ok (.tuple #[]) (w.setCells b o z.cells.toList) := by
  have hst := run_storeCells_cells (P := P) b o z.cells.toList 0 w (by simpa using hc) (by simpa using hf) h1
  simp only [Nat.add_zero] at hst
  simp [Builtin.clear_, run_underlying ht, hv, zero_one, hst]
theorem set_grown (W : World) (g o : Nat) (zs : List Value) : W.grownBy (W.setCells g o zs) (some g) := by
  obtain ⟨s1, s2, s3, s4⟩ := setCells_same g zs o W
  exact ⟨s1, s2, s3, by rw [s4]; exact Nat.le_refl _, fun k' _ hk' => setCells_far zs o k' (fun he => hk' (by rw [he]))⟩
theorem grown_trans {a w w1 : World} {row : Option Nat} (h : a.grownBy w row) (k : w.grownBy w1 row) : a.grownBy w1 row :=
  ⟨k.os.trans h.os, k.tape.trans h.tape, k.output.trans h.output, Nat.le_trans h.size k.size, fun i hi hn => (k.block i (Nat.lt_of_lt_of_le hi h.size) hn).trans (h.block i hi hn)⟩
theorem drew_grown (W : World) (row : Option Nat) : W.grownBy W.drew row := ⟨rfl, rfl, rfl, Nat.le_refl _, fun _ _ _ => rfl⟩
theorem R_tail {α : Type} {d : Kd α} {e : Nat} {W : World} {base : Nat} {ok : Nat → Prop} {xs : List α} {g n c : Nat} (HO : d.R e W base ok (.slice (some ⟨g, 0, none⟩) n c) xs) (zs : List Value) (o : Nat) (ho : n * d.sz ≤ o) (hf : o + zs.length ≤ c * d.sz) :
    d.R e (W.setCells g o zs) base ok (.slice (some ⟨g, 0, none⟩) n c) xs := by
  obtain ⟨hn, hnc, _⟩ := Kd.R_reads' HO
  obtain ⟨hok, inner, hown, hr⟩ := HO
  have hin : inner.length = n * d.sz := by rw [hr.1, hn]
  rcases hown.2 with ⟨hv, _⟩ | ⟨g', cap', cur, hv, hb, hh, h6, hcm, hcs, htake⟩
  · cases hv
  injection hv with ha _ hc
  injection ha with ha
  injection ha with hg
  subst hg; subst hc
  obtain ⟨cur', h3, h4, h5⟩ := setCells_row zs o W cur hh (by omega)
  have hfar : ∀ k', k' ≠ g → (W.setCells g o zs).heap[k']? = W.heap[k']? := fun k' hk' => setCells_far zs _ k' hk'
  have hgo : some g = (Value.slice (some ⟨g, 0, none⟩) n c).ownBlock := by simp [Value.ownBlock]
  refine ⟨hok, inner, ⟨hown.1, .inr ⟨g, c, cur', by rw [hn], hb, h3, h6, hcm, by rw [h4, hcs], ?_⟩⟩, hr.imp_ fun p q hp => d.M_move (fun k' hk' => hfar k' (fun he => hk'.2 (by rw [← hgo, he]))) hp⟩
  rw [← htake, h5, List.append_assoc, List.take_append_of_le_length (by rw [List.length_take, ← hn, Array.length_toList]; omega), List.take_take, Nat.min_eq_left (by rw [← hn]; omega)]
theorem R_cells {α : Type} {d : Kd α} {e : Nat} {W : World} {base : Nat} {ok : Nat → Prop} {xs : List α} {g n c : Nat} (HO : d.R e W base ok (.slice (some ⟨g, 0, none⟩) n c) xs) (o : Nat) (hf : o < c * d.sz) :
    (W.cell? ⟨g, o, none⟩).isSome = true ∧ W.frozen? ⟨g, o, none⟩ = false := by
  obtain ⟨hn, hnc, _⟩ := Kd.R_reads' HO
  obtain ⟨hok, inner, hown, hr⟩ := HO
  rcases hown.2 with ⟨hv, _⟩ | ⟨g', cap', cur, hv, hb, hh, h6, hcm, hcs, htake⟩
  · cases hv
  injection hv with ha _ hc
  injection ha with ha
  injection ha with hg
  subst hg; subst hc
  exact ⟨by rw [cell_of_row W g _ cur e (0, 0) hh]; simp; omega, blk_frozen hh _⟩
theorem R_cap {α : Type} {d : Kd α} {e : Nat} {W : World} {base : Nat} {ok : Nat → Prop} {xs : List α} {g n c : Nat} (HO : d.R e W base ok (.slice (some ⟨g, 0, none⟩) n c) xs) : c ≤ 9223372036854775807 := by
  obtain ⟨hok, inner, hown, hr⟩ := HO
  rcases hown.2 with ⟨hv, _⟩ | ⟨g', cap', cur, hv, hb, hh, h6, hcm, hcs, htake⟩
  · cases hv
  injection hv with ha _ hc
  rw [hc]
  exact hcm
theorem N_cap {α : Type} {d : Kd α} {e : Nat} {W : World} {base : Nat} {ok : Nat → Prop} {xs : List α} {g n c : Nat} (HO : Kd.N d e W base ok (.slice (some ⟨g, 0, none⟩) n c) xs) : c ≤ 9223372036854775807 := by
  obtain ⟨hown, rows, hl, hR, hfk⟩ := HO
  exact R_cap hR
theorem R_base {α : Type} {d : Kd α} {e : Nat} {W : World} {base : Nat} {ok : Nat → Prop} {xs : List α} {g n c : Nat} (HO : d.R e W base ok (.slice (some ⟨g, 0, none⟩) n c) xs) : base ≤ g := Kd.R_base HO _ (by simp [Value.ownBlock])
theorem N_base {α : Type} {d : Kd α} {e : Nat} {W : World} {base : Nat} {ok : Nat → Prop} {xs : List α} {g n c : Nat} (HO : Kd.N d e W base ok (.slice (some ⟨g, 0, none⟩) n c) xs) : base ≤ g := by
  obtain ⟨hown, rows, hl, hR, hfk⟩ := HO
  exact Kd.R_base hR _ (by simp [Value.ownBlock])
theorem N_tail {α : Type} {d : Kd α} {e : Nat} {W : World} {base : Nat} {ok : Nat → Prop} {xs : List α} {g n c : Nat} (HO : Kd.N d e W base ok (.slice (some ⟨g, 0, none⟩) n c) xs) (zs : List Value) (o : Nat) (ho : n * d.sz ≤ o) (hf : o + zs.length ≤ c * d.sz) :
    Kd.N d e (W.setCells g o zs) base ok (.slice (some ⟨g, 0, none⟩) n c) xs := by
  obtain ⟨hown, rows, hl, hR, hfk⟩ := HO
  have hgo : some g = (Value.slice (some ⟨g, 0, none⟩) n c).ownBlock := by simp [Value.ownBlock]
  exact ⟨hown, rows, hl, R_tail hR zs o ho hf, fun j x q hx hq => Kd.FK_step (hfk j x q hx hq) (fun k hk _ => setCells_far zs _ k (fun he => hk.2 (by rw [← hgo, he])))⟩
theorem N_cells {α : Type} {d : Kd α} {e : Nat} {W : World} {base : Nat} {ok : Nat → Prop} {xs : List α} {g n c : Nat} (HO : Kd.N d e W base ok (.slice (some ⟨g, 0, none⟩) n c) xs) (o : Nat) (hf : o < c * d.sz) :
    (W.cell? ⟨g, o, none⟩).isSome = true ∧ W.frozen? ⟨g, o, none⟩ = false := by
  obtain ⟨hown, rows, hl, hR, hfk⟩ := HO
  exact R_cells hR o hf
end Go.Proofs.Ytjnkpocfmpbpoaa.Dl
