/-
  PROVED: The walks of shape's functions, by hand. Condition: what each lemma states.
-/
import Derived.Test.YtpeblomhhofhkaaHShD
namespace Go.Proofs.Ytpeblomhhofhkaa.H
open Go.RowKit Go.Proofs.YtpeblomhhofhkaaW.PrintWords Go.Proofs.YtpeblomhhofhkaaW.PrintLast Go.Proofs.YtpeblomhhofhkaaW.PrintMore Go.Proofs.Ytpeblomhhofhkaa.Ho
set_option linter.unusedVariables false
set_option linter.unusedSimpArgs false
def ops_go : Nat → List S50 → List Int → Option (List S50 × List Int)
  | 0, ts, bs => some (ts, bs)
  | _ + 1, _, [] => none
  | m + 1, ts, k :: bs => match four_go 4 0 bs with
    | none => none
    | some (n, r) => ops_go m (ts ++ [⟨k, wrapN n⟩]) r
def step_go : List Int → Option (S53 × List Int)
  | a :: b :: c :: n :: bs => match ops_go n.toNat [] bs with
    | none => none
    | some (ts, r) => some (⟨a, b, c, ts⟩, r)
  | _ => none
/-- How the taking of a step ends. -/
def EndsS (g : Nat) (w0 w : World) (R : Option (S53 × List Int)) (e : Ending) (w' : World) : Prop :=
  match R with
  | none => e = .panicked shortE ∧ Below w0.heap.size w0 w' ∧ Took g w w'
  | some (s, bs) => ∃ v, e = .returned (.agg #[.int .i64 s.f0, .int .i64 s.f1, .int .i64 s.f2, v]) ∧ Kd.R k50 50 w' w.heap.size (fun k => k ≠ g) v s.f3 ∧ (∃ A' c', In g A' c' bs w0 w') ∧ Took g w w'
theorem Took.blk {g : Nat} {w w' : World} (h : Took g w w') {k : Nat} {o : Obj} (hk : w.heap[k]? = some o) (hne : k ≠ g) : w'.heap[k]? = some o := (h.heap k (blk_lt hk) hne).trans hk
theorem Took.row {α : Type} {d : Kd α} {e : Nat} {g : Nat} {w w' : World} {base : Nat} {v : Value} {xs : List α} (h : Took g w w') (hr : Kd.R d e w base (fun k => k ≠ g) v xs) : Kd.R d e w' base (fun k => k ≠ g) v xs := Kd.R_step hr (fun k hk hl => h.heap k hl hk)
theorem Took.set {g gs j : Nat} {w w1 : World} (h : Took g w w1) (hs : w.heap.size ≤ gs) (u : Value) : Took g w (w1.setCell ⟨gs, j, none⟩ u) :=
  ⟨Nat.le_trans h.size (Nat.le_of_eq (World.size_setCell ..).symm), fun k hk hg => (Below.heap_setCell w1 ⟨gs, j, none⟩ u k (by show k ≠ gs; omega)).trans (h.heap k hk hg)⟩
theorem In.set {g gs j : Nat} {A : Option Addr} {c : Nat} {bs : List Int} {w0 w : World} (h : In g A c bs w0 w) (hs : w0.heap.size ≤ gs) (hne : g ≠ gs) (u : Value) : In g A c bs w0 (w.setCell ⟨gs, j, none⟩ u) :=
  ⟨blk_far h.blk hne u, h.row, h.cap, below_set h.below hs⟩
theorem info50h : (Try.prog.info? 50).map (fun i => (i.zero, i.size, i.bytes)) = some (some (.agg #[(.int .i64 0), (.int .i64 0)]), 2, 16) := by kernel_rfl
set_option maxHeartbeats 16000000 in
set_option maxRecDepth 100000 in
theorem in_step_short (g : Nat) (A : Option Addr) (c : Nat) (bs : List Int) (w0 w : World) (hg : w0.heap.size ≤ g) (h : In g A c bs w0 w) (hb : byts bs) (hs : bs.length < 4) :
    Calls Try.prog 41 #[.pointer (some ⟨g, 0, none⟩)] w fun e w' => e = .panicked shortE ∧ Below w0.heap.size w0 w' ∧ Took g w w' := by
  have HI := ak h
  have hgw := blk_lt h.blk
  have hsz := h.below.size
  clear h
  have hmf : ∀ (fn : Fn) (first cap : Array Value) (w : World), (Instr.makeFunc fn first cap).run Try.prog w = .ok (.func fn first cap) w := fun _ _ _ _ => rfl
  rcases bs with _ | ⟨a, _ | ⟨b, _ | ⟨c_, _ | ⟨n, bs⟩⟩⟩⟩
  · go_enter Try.func41, Try.ntmps41
    go_wp2_with (first
      | ((with_reducible refine gate_dst (N := 2) rfl ?_); refine box_event ?hg (N := 2) ?hd (cs := #[.int .i64 0, .int .i64 0, .int .i64 0, .slice none 0 0]) (t := 53) ?hr ?_; (case hd => rfl); (case hg => rfl); (case hr => first | (go_simp; done) | (go_simp; rfl)); intro gs hgs w1 hbox hb1; have GS := ak (show w.heap.size ≤ gs by rw [hgs]; exact Nat.le_refl _); have NG := ak (show gs ≠ g by rw [hgs]; omega); have S0 := ak (Nat.le_trans hsz GS.out); have BK1 := ak hbox; have HT1 := ak (Took.of (g := g) hb1); have HI1 := ak (HI.out.on hb1); clear hb1 hbox hgs; obtain ⟨hz0, hz1, hz2, hz3, hf0, hf1, hf2, hf3⟩ := bz4_ BK1)
      | (go_at_call 40; have HIx := HI1; have BKx := BK1; have HTx := HT1; refine (in_short g _ _ w0 _ HIx.out).mono ?_; rintro e w9 ⟨rfl, h2, h3⟩; have HT9 := ak (HTx.out.trans h3)))
    exact ⟨rfl, rfl, h2, HT9.out⟩
  · go_enter Try.func41, Try.ntmps41
    go_wp2_with (first
      | ((with_reducible refine gate_dst (N := 2) rfl ?_); refine box_event ?hg (N := 2) ?hd (cs := #[.int .i64 0, .int .i64 0, .int .i64 0, .slice none 0 0]) (t := 53) ?hr ?_; (case hd => rfl); (case hg => rfl); (case hr => first | (go_simp; done) | (go_simp; rfl)); intro gs hgs w1 hbox hb1; have GS := ak (show w.heap.size ≤ gs by rw [hgs]; exact Nat.le_refl _); have NG := ak (show gs ≠ g by rw [hgs]; omega); have S0 := ak (Nat.le_trans hsz GS.out); have BK1 := ak hbox; have HT1 := ak (Took.of (g := g) hb1); have HI1 := ak (HI.out.on hb1); clear hb1 hbox hgs; obtain ⟨hz0, hz1, hz2, hz3, hf0, hf1, hf2, hf3⟩ := bz4_ BK1)
      | (go_at_call 40; have HIx := HI1; have BKx := BK1; have HTx := HT1; refine (in_one g _ _ a _ w0 _ hg HIx.out (hb _ (by simp))).mono ?_; rintro e w2 ⟨rfl, ⟨A2, c2, h2⟩, h3⟩; have HI2 := ak h2; have BK2 := ak (h3.blk BKx.out NG.out); have HT2 := ak (HTx.out.trans h3); clear h2 h3 HIx BKx HTx HI1 BK1 HT1; obtain ⟨hz0, hz1, hz2, hz3, hf0, hf1, hf2, hf3⟩ := bz4_ BK2)
      | (go_at_call 40; have HIx := ak (HI2.out.set (j := 0) S0.out NG.out.symm (.int .i64 a)); have BKx := ak (blk_put BK2.out 0 (.int .i64 a) rfl); have HTx := ak (HT2.out.set (j := 0) GS.out (.int .i64 a)); refine (in_short g _ _ w0 _ HIx.out).mono ?_; rintro e w9 ⟨rfl, h2, h3⟩; have HT9 := ak (HTx.out.trans h3)))
    exact ⟨rfl, rfl, h2, HT9.out⟩
  · go_enter Try.func41, Try.ntmps41
    go_wp2_with (first
      | ((with_reducible refine gate_dst (N := 2) rfl ?_); refine box_event ?hg (N := 2) ?hd (cs := #[.int .i64 0, .int .i64 0, .int .i64 0, .slice none 0 0]) (t := 53) ?hr ?_; (case hd => rfl); (case hg => rfl); (case hr => first | (go_simp; done) | (go_simp; rfl)); intro gs hgs w1 hbox hb1; have GS := ak (show w.heap.size ≤ gs by rw [hgs]; exact Nat.le_refl _); have NG := ak (show gs ≠ g by rw [hgs]; omega); have S0 := ak (Nat.le_trans hsz GS.out); have BK1 := ak hbox; have HT1 := ak (Took.of (g := g) hb1); have HI1 := ak (HI.out.on hb1); clear hb1 hbox hgs; obtain ⟨hz0, hz1, hz2, hz3, hf0, hf1, hf2, hf3⟩ := bz4_ BK1)
      | (go_at_call 40; have HIx := HI1; have BKx := BK1; have HTx := HT1; refine (in_one g _ _ a _ w0 _ hg HIx.out (hb _ (by simp))).mono ?_; rintro e w2 ⟨rfl, ⟨A2, c2, h2⟩, h3⟩; have HI2 := ak h2; have BK2 := ak (h3.blk BKx.out NG.out); have HT2 := ak (HTx.out.trans h3); clear h2 h3 HIx BKx HTx HI1 BK1 HT1; obtain ⟨hz0, hz1, hz2, hz3, hf0, hf1, hf2, hf3⟩ := bz4_ BK2)
      | (go_at_call 40; have HIx := ak (HI2.out.set (j := 0) S0.out NG.out.symm (.int .i64 a)); have BKx := ak (blk_put BK2.out 0 (.int .i64 a) rfl); have HTx := ak (HT2.out.set (j := 0) GS.out (.int .i64 a)); refine (in_one g _ _ b _ w0 _ hg HIx.out (hb _ (by simp))).mono ?_; rintro e w3 ⟨rfl, ⟨A3, c3, h2⟩, h3⟩; have HI3 := ak h2; have BK3 := ak (h3.blk BKx.out NG.out); have HT3 := ak (HTx.out.trans h3); clear h2 h3 HIx BKx HTx HI2 BK2 HT2; obtain ⟨hz0, hz1, hz2, hz3, hf0, hf1, hf2, hf3⟩ := bz4_ BK3)
      | (go_at_call 40; have HIx := ak (HI3.out.set (j := 1) S0.out NG.out.symm (.int .i64 b)); have BKx := ak (blk_put BK3.out 1 (.int .i64 b) rfl); have HTx := ak (HT3.out.set (j := 1) GS.out (.int .i64 b)); refine (in_short g _ _ w0 _ HIx.out).mono ?_; rintro e w9 ⟨rfl, h2, h3⟩; have HT9 := ak (HTx.out.trans h3)))
    exact ⟨rfl, rfl, h2, HT9.out⟩
  · go_enter Try.func41, Try.ntmps41
    go_wp2_with (first
      | ((with_reducible refine gate_dst (N := 2) rfl ?_); refine box_event ?hg (N := 2) ?hd (cs := #[.int .i64 0, .int .i64 0, .int .i64 0, .slice none 0 0]) (t := 53) ?hr ?_; (case hd => rfl); (case hg => rfl); (case hr => first | (go_simp; done) | (go_simp; rfl)); intro gs hgs w1 hbox hb1; have GS := ak (show w.heap.size ≤ gs by rw [hgs]; exact Nat.le_refl _); have NG := ak (show gs ≠ g by rw [hgs]; omega); have S0 := ak (Nat.le_trans hsz GS.out); have BK1 := ak hbox; have HT1 := ak (Took.of (g := g) hb1); have HI1 := ak (HI.out.on hb1); clear hb1 hbox hgs; obtain ⟨hz0, hz1, hz2, hz3, hf0, hf1, hf2, hf3⟩ := bz4_ BK1)
      | (go_at_call 40; have HIx := HI1; have BKx := BK1; have HTx := HT1; refine (in_one g _ _ a _ w0 _ hg HIx.out (hb _ (by simp))).mono ?_; rintro e w2 ⟨rfl, ⟨A2, c2, h2⟩, h3⟩; have HI2 := ak h2; have BK2 := ak (h3.blk BKx.out NG.out); have HT2 := ak (HTx.out.trans h3); clear h2 h3 HIx BKx HTx HI1 BK1 HT1; obtain ⟨hz0, hz1, hz2, hz3, hf0, hf1, hf2, hf3⟩ := bz4_ BK2)
      | (go_at_call 40; have HIx := ak (HI2.out.set (j := 0) S0.out NG.out.symm (.int .i64 a)); have BKx := ak (blk_put BK2.out 0 (.int .i64 a) rfl); have HTx := ak (HT2.out.set (j := 0) GS.out (.int .i64 a)); refine (in_one g _ _ b _ w0 _ hg HIx.out (hb _ (by simp))).mono ?_; rintro e w3 ⟨rfl, ⟨A3, c3, h2⟩, h3⟩; have HI3 := ak h2; have BK3 := ak (h3.blk BKx.out NG.out); have HT3 := ak (HTx.out.trans h3); clear h2 h3 HIx BKx HTx HI2 BK2 HT2; obtain ⟨hz0, hz1, hz2, hz3, hf0, hf1, hf2, hf3⟩ := bz4_ BK3)
      | (go_at_call 40; have HIx := ak (HI3.out.set (j := 1) S0.out NG.out.symm (.int .i64 b)); have BKx := ak (blk_put BK3.out 1 (.int .i64 b) rfl); have HTx := ak (HT3.out.set (j := 1) GS.out (.int .i64 b)); refine (in_one g _ _ c_ _ w0 _ hg HIx.out (hb _ (by simp))).mono ?_; rintro e w4 ⟨rfl, ⟨A4, c4, h2⟩, h3⟩; have HI4 := ak h2; have BK4 := ak (h3.blk BKx.out NG.out); have HT4 := ak (HTx.out.trans h3); clear h2 h3 HIx BKx HTx HI3 BK3 HT3; obtain ⟨hz0, hz1, hz2, hz3, hf0, hf1, hf2, hf3⟩ := bz4_ BK4)
      | (go_at_call 40; have HIx := ak (HI4.out.set (j := 2) S0.out NG.out.symm (.int .i64 c_)); have BKx := ak (blk_put BK4.out 2 (.int .i64 c_) rfl); have HTx := ak (HT4.out.set (j := 2) GS.out (.int .i64 c_)); refine (in_short g _ _ w0 _ HIx.out).mono ?_; rintro e w9 ⟨rfl, h2, h3⟩; have HT9 := ak (HTx.out.trans h3)))
    exact ⟨rfl, rfl, h2, HT9.out⟩
  · exact absurd hs (by simp)
end Go.Proofs.Ytpeblomhhofhkaa.H
