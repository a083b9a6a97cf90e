/-
  PROVED: The walks of what grows in shape: one, four. Condition: what each lemma states.
-/
import Derived.Test.YtpeblomhhofhkaaHx0
namespace Go.Proofs.Ytpeblomhhofhkaa.H
open Go.RowKit Go.Proofs.YtpeblomhhofhkaaW.PrintWords Go.Proofs.YtpeblomhhofhkaaW.PrintLast Go.Proofs.YtpeblomhhofhkaaW.PrintMore Go.Proofs.Ytpeblomhhofhkaa.Ho
set_option linter.unusedVariables false
set_option linter.unusedSimpArgs false
/-- What growing bytes leave as it was. -/
structure Grew (g : Nat) (v v' : Value) (w w' : World) : Prop where
  size : w.heap.size ≤ w'.heap.size
  own : ∀ k, k < w.heap.size → some k ≠ v.ownBlock → some k ≠ v'.ownBlock
  heap : ∀ k, k < w.heap.size → k ≠ g → some k ≠ v.ownBlock → w'.heap[k]? = w.heap[k]?
theorem Grew.refl (g : Nat) (v : Value) (w : World) : Grew g v v w w := ⟨Nat.le_refl _, fun _ _ h => h, fun _ _ _ _ => rfl⟩
theorem Grew.trans {g : Nat} {v v1 v2 : Value} {w w1 w2 : World} (a : Grew g v v1 w w1) (b : Grew g v1 v2 w1 w2) : Grew g v v2 w w2 :=
  ⟨Nat.le_trans a.size b.size, fun k hk h => b.own k (Nat.lt_of_lt_of_le hk a.size) (a.own k hk h), fun k hk hg h => (b.heap k (Nat.lt_of_lt_of_le hk a.size) hg (a.own k hk h)).trans (a.heap k hk hg h)⟩
theorem Grew.set {g : Nat} {v v1 : Value} {w w1 : World} (a : Grew g v v1 w w1) (u : Value) : Grew g v v1 w (w1.setCell ⟨g, 0, none⟩ u) :=
  ⟨Nat.le_trans a.size (Nat.le_of_eq (World.size_setCell ..).symm), a.own, fun k hk hg h => (Below.heap_setCell w1 ⟨g, 0, none⟩ u k hg).trans (a.heap k hk hg h)⟩
set_option maxHeartbeats 8000000 in
set_option maxRecDepth 100000 in
theorem out_one (g : Nat) (n : Int) (v : Value) (bs : List Int) (w0 w : World) (hB : Below w0.heap.size w0 w) (hb : w.heap[g]? = some (.cells #[v] 56 (0, 0))) (hg : w0.heap.size ≤ g) (hr : Kd.R (Kd.int .u8) 5 w w0.heap.size (fun _ => True) v bs) (hl : bs.length < 140737488355328) :
    Calls Try.prog 23 #[.pointer (some ⟨g, 0, none⟩), .int .i64 n] w fun e w' => e = .returned (.tuple #[]) ∧ ∃ v', w'.heap[g]? = some (.cells #[v'] 56 (0, 0)) ∧ Kd.R (Kd.int .u8) 5 w' w0.heap.size (fun _ => True) v' (bs ++ [n % 256]) ∧ Below w0.heap.size w0 w' ∧ Grew g v v' w w' := by
  have BK := ak hb
  have HO := ak hr
  have HB := ak hB
  clear hb hr hB
  obtain ⟨hcz0, hfz0⟩ := bz1_ BK
  go_enter Try.func23, Try.ntmps23
  go_wp2_with ((with_reducible refine gate_builtin (b := .append) (xs := #[.tmp 8, .tmp 11]) rfl ?_); at_builtin; refine Kd.R_append (Kd.int .u8) (w0 := w0) w0.heap.size rfl (.tmp 8) (.tmp 11) 25 5 (.int .u8 0) 1 rfl Try.underlying25 info5 rfl (by decide) (by omega) v bs (n % 256) [.int .u8 (n % 256)] (fun _ => True) (fun _ => False) rfl rfl ?aP (fun _ hk => hk.elim) ?aF ?aO ?aB ?aS ?aL ?_; (case aP => exact rfl); (case aB => repeat (with_reducible first | exact HB.out | apply below_alloc | apply pw_below_drewN | apply below_drew1)); (case aF => exact (fun _ _ => trivial)); (case aO => with_reducible repeat (first | exact HO.out | apply Kd.R_alloc | apply Kd.R_drewN | apply Kd.R_drew)); (case aS => exact below_size (by repeat (with_reducible first | exact HB.out | apply below_alloc | apply pw_below_drewN | apply below_drew1))); (case aL => omega); intro v1 w1 ho hb hg1 hat; replace BK := ak (blk_grown (g := g) (o := .cells #[v] 56 (0, 0)) (by repeat (first | exact BK.out | refine blk_drewN ?_ _ | refine blk_drew ?_ | refine blk_alloc ?_ _)) hg1 (Kd.R_ne HO.out BK.out (by decide))); replace HB := ak hb; obtain ⟨A1, c1, e1⟩ := Kd.R_slice ho; subst e1; clear HO; have HO := ak ho; have GG : Aside0 (Grew g v (.slice A1 (bs ++ [n % 256]).length c1) w w1) := ⟨⟨hg1.size, fun k hk h => hat.elim (fun e => by rw [e]; exact h) (fun ⟨b, e, hb'⟩ q => by rw [e] at q; injection q with q; exact Nat.lt_irrefl _ (Nat.lt_of_lt_of_le hk (q ▸ hb'))), fun k hk _ h => hg1.block k hk h⟩⟩; clear hb ho hg1 hat; obtain ⟨hcz0, hfz0⟩ := bz1_ BK)
  go_end0
  refine ⟨rfl, _, blk_put BK.out 0 _ rfl, ?_, ?_, ?_⟩
  · have h2 := HO.out
    rw [List.length_append, List.length_singleton] at h2
    exact Kd.R_mono (Kd.R_far (p := ⟨g, 0, none⟩) (Kd.R_types h2 BK.out (by decide)) (fun _ hk => hk.2) _) (fun _ hk => trivial)
  · exact below_set HB.out hg
  · have := GG.out
    rw [List.length_append, List.length_singleton] at this
    exact this.set _
def b4 (n : Int) : List Int := [(n / 16777216) % 256, (n / 65536) % 256, (n / 256) % 256, n % 256]
set_option maxHeartbeats 8000000 in
set_option maxRecDepth 100000 in
theorem out_four (g : Nat) (n : Int) (v : Value) (bs : List Int) (w0 w : World) (hB : Below w0.heap.size w0 w) (hb : w.heap[g]? = some (.cells #[v] 56 (0, 0))) (hg : w0.heap.size ≤ g) (hr : Kd.R (Kd.int .u8) 5 w w0.heap.size (fun _ => True) v bs) (hl : bs.length + 4 < 140737488355328) :
    Calls Try.prog 38 #[.pointer (some ⟨g, 0, none⟩), .int .i64 n] w fun e w' => e = .returned (.tuple #[]) ∧ ∃ v', w'.heap[g]? = some (.cells #[v'] 56 (0, 0)) ∧ Kd.R (Kd.int .u8) 5 w' w0.heap.size (fun _ => True) v' (bs ++ b4 n) ∧ Below w0.heap.size w0 w' ∧ Grew g v v' w w' := by
  have BK := ak hb
  have HO := ak hr
  have HB := ak hB
  clear hb hr hB
  go_enter Try.func38, Try.ntmps38
  go_wp2
  go_loopg [5] 5 (fun kq v5 w' => ∃ (x : Int) (bs1 : List Int) (v1 : Value), v5 = .int .i64 x ∧ Aside0 (0 ≤ x ∧ (kq : Int) + x = 5 ∧ x ≤ 4) ∧ Aside0 (bs1 = bs ++ (b4 n).take x.toNat) ∧ Aside0 (w'.heap[g]? = some (.cells #[v1] 56 (0, 0))) ∧ Aside0 (Kd.R (Kd.int .u8) 5 w' w0.heap.size (fun _ => True) v1 bs1) ∧ Aside0 (Below w0.heap.size w0 w') ∧ Aside0 (Grew g v v1 w w'))
  case atStart => exact ⟨0, bs, v, rfl, ⟨by decide⟩, ⟨by simp⟩, BK, HO, HB, ⟨Grew.refl _ _ _⟩⟩
  case round =>
    clear BK HO HB
    obtain ⟨x, bs1, v1, rfl, hk, hbs, BK, HO, HB, GG⟩ := hrel
    have hx := hk.out
    rcases (show x = 0 ∨ x = 1 ∨ x = 2 ∨ x = 3 ∨ x = 4 by omega) with rfl | rfl | rfl | rfl | rfl
    · have hb0 : bs1.length = bs.length + 0 := by rw [hbs.out, List.length_append]; rfl
      go_wp2_with ((with_reducible refine gate_callee (f := 23) rfl ?_); refine goesL_ (some 14) rfl rfl Try.func23 (by kernel_rfl) rfl #[.pointer (some ⟨g, 0, none⟩), .int .i64 (n / 16777216)] rfl mp_ ?_; (with_reducible refine (out_one g (n / 16777216) v1 bs1 w0 wr HB.out BK.out hg HO.out (by omega)).mono ?_); rintro e w2 ⟨rfl, v2, hb2, hr2, hB2, hG2⟩; refine ⟨_, rfl, ?_⟩)
      go_roundg 4
      case measure => omega
      case rel => exact ⟨1, bs1 ++ [(n / 16777216) % 256], v2, by rfl, ⟨by decide⟩, ⟨by rw [hbs.out, List.append_assoc]; rfl⟩, ⟨hb2⟩, ⟨hr2⟩, ⟨hB2⟩, ⟨GG.out.trans hG2⟩⟩
    · have hb0 : bs1.length = bs.length + 1 := by rw [hbs.out, List.length_append]; rfl
      go_wp2_with ((with_reducible refine gate_callee (f := 23) rfl ?_); refine goesL_ (some 14) rfl rfl Try.func23 (by kernel_rfl) rfl #[.pointer (some ⟨g, 0, none⟩), .int .i64 (n / 65536)] rfl mp_ ?_; (with_reducible refine (out_one g (n / 65536) v1 bs1 w0 wr HB.out BK.out hg HO.out (by omega)).mono ?_); rintro e w2 ⟨rfl, v2, hb2, hr2, hB2, hG2⟩; refine ⟨_, rfl, ?_⟩)
      go_roundg 3
      case measure => omega
      case rel => exact ⟨2, bs1 ++ [(n / 65536) % 256], v2, by rfl, ⟨by decide⟩, ⟨by rw [hbs.out, List.append_assoc]; rfl⟩, ⟨hb2⟩, ⟨hr2⟩, ⟨hB2⟩, ⟨GG.out.trans hG2⟩⟩
    · have hb0 : bs1.length = bs.length + 2 := by rw [hbs.out, List.length_append]; rfl
      go_wp2_with ((with_reducible refine gate_callee (f := 23) rfl ?_); refine goesL_ (some 14) rfl rfl Try.func23 (by kernel_rfl) rfl #[.pointer (some ⟨g, 0, none⟩), .int .i64 (n / 256)] rfl mp_ ?_; (with_reducible refine (out_one g (n / 256) v1 bs1 w0 wr HB.out BK.out hg HO.out (by omega)).mono ?_); rintro e w2 ⟨rfl, v2, hb2, hr2, hB2, hG2⟩; refine ⟨_, rfl, ?_⟩)
      go_roundg 2
      case measure => omega
      case rel => exact ⟨3, bs1 ++ [(n / 256) % 256], v2, by rfl, ⟨by decide⟩, ⟨by rw [hbs.out, List.append_assoc]; rfl⟩, ⟨hb2⟩, ⟨hr2⟩, ⟨hB2⟩, ⟨GG.out.trans hG2⟩⟩
    · have hb0 : bs1.length = bs.length + 3 := by rw [hbs.out, List.length_append]; rfl
      go_wp2_with ((with_reducible refine gate_callee (f := 23) rfl ?_); refine goesL_ (some 14) rfl rfl Try.func23 (by kernel_rfl) rfl #[.pointer (some ⟨g, 0, none⟩), .int .i64 n] rfl mp_ ?_; (with_reducible refine (out_one g n v1 bs1 w0 wr HB.out BK.out hg HO.out (by omega)).mono ?_); rintro e w2 ⟨rfl, v2, hb2, hr2, hB2, hG2⟩; refine ⟨_, rfl, ?_⟩)
      go_roundg 1
      case measure => omega
      case rel => exact ⟨4, bs1 ++ [n % 256], v2, by rfl, ⟨by decide⟩, ⟨by rw [hbs.out, List.append_assoc]; rfl⟩, ⟨hb2⟩, ⟨hr2⟩, ⟨hB2⟩, ⟨GG.out.trans hG2⟩⟩
    · go_wp2
      go_end0
      refine ⟨rfl, v1, BK.out, ?_, HB.out, GG.out⟩
      have := HO.out
      rw [hbs.out] at this
      exact this
/-- Bytes that grow, in the variable at g. -/
structure Out (g : Nat) (v : Value) (bs : List Int) (w0 w : World) : Prop where
  blk : w.heap[g]? = some (.cells #[v] 56 (0, 0))
  row : Kd.R (Kd.int .u8) 5 w w0.heap.size (fun _ => True) v bs
  below : Below w0.heap.size w0 w
theorem Out.on {g : Nat} {v : Value} {bs : List Int} {w0 w w' : World} (h : Out g v bs w0 w) (hb : Below w.heap.size w w') : Out g v bs w0 w' :=
  ⟨blk_below h.blk hb, Kd.R_below h.row hb, below_step h.below hb⟩
theorem Grew.on {g : Nat} {v v1 : Value} {w w1 w2 : World} (a : Grew g v v1 w w1) (hb : Below w1.heap.size w1 w2) : Grew g v v1 w w2 :=
  ⟨Nat.le_trans a.size hb.size, a.own, fun k hk hg h => (hb.block k (Nat.lt_of_lt_of_le hk a.size)).trans (a.heap k hk hg h)⟩
theorem Out.one {g : Nat} {v : Value} {bs : List Int} {w0 w : World} (h : Out g v bs w0 w) (n : Int) (hg : w0.heap.size ≤ g) (hl : bs.length < 140737488355328) :
    Calls Try.prog 23 #[.pointer (some ⟨g, 0, none⟩), .int .i64 n] w fun e w' => e = .returned (.tuple #[]) ∧ ∃ v', Out g v' (bs ++ [n % 256]) w0 w' ∧ Grew g v v' w w' :=
  (out_one g n v bs w0 w h.below h.blk hg h.row hl).mono fun e w' ⟨h1, v', h2, h3, h4, h5⟩ => ⟨h1, v', ⟨h2, h3, h4⟩, h5⟩
theorem Out.four {g : Nat} {v : Value} {bs : List Int} {w0 w : World} (h : Out g v bs w0 w) (n : Int) (hg : w0.heap.size ≤ g) (hl : bs.length + 4 < 140737488355328) :
    Calls Try.prog 38 #[.pointer (some ⟨g, 0, none⟩), .int .i64 n] w fun e w' => e = .returned (.tuple #[]) ∧ ∃ v', Out g v' (bs ++ b4 n) w0 w' ∧ Grew g v v' w w' :=
  (out_four g n v bs w0 w h.below h.blk hg h.row hl).mono fun e w' ⟨h1, v', h2, h3, h4, h5⟩ => ⟨h1, v', ⟨h2, h3, h4⟩, h5⟩
/-- A block that is neither the variable nor its row. -/
theorem Grew.kept {g : Nat} {v v1 : Value} {w w1 : World} {bs : List Int} {w0 : World} (a : Grew g v v1 w w1) (h : Out g v bs w0 w) {k : Nat} {t : TypeId} {cs : Array Value} (hk : w.heap[k]? = some (.cells cs t (0, 0))) (h1 : t ≠ 56) (h2 : 5 ≠ t) : w1.heap[k]? = some (.cells cs t (0, 0)) :=
  (a.heap k (blk_lt hk) (blk_ne hk h.blk h1) (Kd.R_ne h.row hk h2)).trans hk
end Go.Proofs.Ytpeblomhhofhkaa.H
