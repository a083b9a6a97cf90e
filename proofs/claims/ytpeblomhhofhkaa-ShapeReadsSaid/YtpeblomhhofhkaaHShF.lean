/-
  PROVED: The walks of shape's functions, by hand. Condition: what each lemma states.
-/
import Derived.Test.YtpeblomhhofhkaaHShE
namespace Go.Proofs.Ytpeblomhhofhkaa.H
open Go.RowKit Go.Proofs.YtpeblomhhofhkaaW.PrintWords Go.Proofs.YtpeblomhhofhkaaW.PrintLast Go.Proofs.YtpeblomhhofhkaaW.PrintMore Go.Proofs.Ytpeblomhhofhkaa.Ho
set_option linter.unusedVariables false
set_option linter.unusedSimpArgs false
theorem four_mem : ∀ (k : Nat) (n : Int) (bs : List Int) (m : Int) (r : List Int), four_go k n bs = some (m, r) → ∀ y ∈ r, y ∈ bs
  | 0, n, bs, m, r, h, y, hy => by simp only [four_go, Option.some.injEq, Prod.mk.injEq] at h; rw [h.2]; exact hy
  | k + 1, n, [], m, r, h, y, hy => by simp [four_go] at h
  | k + 1, n, b :: bs, m, r, h, y, hy => List.mem_cons_of_mem _ (four_mem k _ bs m r h y hy)
theorem step_ops (a b c n : Int) (bs : List Int) : step_go (a :: b :: c :: n :: bs) = (ops_go n.toNat [] bs).map (fun p => ((⟨a, b, c, p.1⟩ : S53), p.2)) := by
  simp only [step_go]
  cases ops_go n.toNat [] bs <;> rfl
theorem below_comp {n : Nat} {a b c : World} (h : Below n a b) (k : Below n b c) : Below n a c :=
  ⟨k.os.trans h.os, k.tape.trans h.tape, k.output.trans h.output, Nat.le_trans h.size k.size, fun i hi => (k.block i hi).trans (h.block i hi)⟩
theorem below_less {n m : Nat} {a b : World} (h : Below n a b) (hm : m ≤ n) : Below m a b := ⟨h.os, h.tape, h.output, h.size, fun i hi => h.block i (Nat.lt_of_lt_of_le hi hm)⟩
theorem Took.rowB {α : Type} {d : Kd α} {e : Nat} {g n : Nat} {w w' : World} {base : Nat} {v : Value} {xs : List α} (h : Took g w w') (hr : Kd.R d e w base (fun k => k ≠ g ∧ k < n) v xs) : Kd.R d e w' base (fun k => k ≠ g ∧ k < n) v xs := Kd.R_step hr (fun k hk hl => h.heap k hl hk.1)
theorem four_sets (w : World) (gs : Nat) (a b c d : Value) (k : Nat) (h : k ≠ gs) : ((((w.setCell ⟨gs, 0, none⟩ a).setCell ⟨gs, 1, none⟩ b).setCell ⟨gs, 2, none⟩ c).setCell ⟨gs, 3, none⟩ d).heap[k]? = w.heap[k]? :=
  (Below.heap_setCell _ ⟨gs, 3, none⟩ d k h).trans ((Below.heap_setCell _ ⟨gs, 2, none⟩ c k h).trans ((Below.heap_setCell _ ⟨gs, 1, none⟩ b k h).trans (Below.heap_setCell _ ⟨gs, 0, none⟩ a k h)))
set_option maxHeartbeats 16000000 in
set_option maxRecDepth 100000 in
theorem in_step_long (g : Nat) (A : Option Addr) (c : Nat) (a b c_ n : Int) (bs : List Int) (w0 w : World) (hg : w0.heap.size ≤ g) (h : In g A c (a :: b :: c_ :: n :: bs) w0 w) (hb : byts (a :: b :: c_ :: n :: bs)) :
    Calls Try.prog 41 #[.pointer (some ⟨g, 0, none⟩)] w fun e w' => EndsS g w0 w (step_go (a :: b :: c_ :: n :: bs)) e w' := by
  have HI := ak h
  have hgw := blk_lt h.blk
  have hsz := h.below.size
  clear h
  have hmf : ∀ (fn : Fn) (first cap : Array Value) (w : World), (Instr.makeFunc fn first cap).run Try.prog w = .ok (.func fn first cap) w := fun _ _ _ _ => rfl
  obtain ⟨R, hR⟩ : ∃ R, R = step_go (a :: b :: c_ :: n :: bs) := ⟨_, rfl⟩
  rw [← hR]
  rw [step_ops] at hR
  have hn := hb n (by simp)
  have hbb : byts bs := fun y hy => hb y (by simp [hy])
  go_enter Try.func41, Try.ntmps41
  go_wp2_with (first
      | ((with_reducible refine gate_dst (N := 2) rfl ?_); refine box_event ?hg (N := 2) ?hd (cs := #[.int .i64 0, .int .i64 0, .int .i64 0, .slice none 0 0]) (t := 53) ?hr ?_; (case hd => rfl); (case hg => rfl); (case hr => first | (go_simp; done) | (go_simp; rfl)); intro gs hgs w1 hbox hb1; have GS := ak (show w.heap.size ≤ gs by rw [hgs]; exact Nat.le_refl _); have NG := ak (show gs ≠ g by rw [hgs]; omega); have S0 := ak (Nat.le_trans hsz GS.out); have BK1 := ak hbox; have HT1 := ak (Took.of (g := g) hb1); have HI1 := ak (HI.out.on hb1); clear hb1 hbox hgs; obtain ⟨hz0, hz1, hz2, hz3, hf0, hf1, hf2, hf3⟩ := bz4_ BK1)
      | (go_at_call 40; have HIx := HI1; have BKx := BK1; have HTx := HT1; refine (in_one g _ _ a _ w0 _ hg HIx.out (hb _ (by simp))).mono ?_; rintro e w2 ⟨rfl, ⟨A2, c2, h2⟩, h3⟩; have HI2 := ak h2; have BK2 := ak (h3.blk BKx.out NG.out); have HT2 := ak (HTx.out.trans h3); clear h2 h3 HIx BKx HTx HI1 BK1 HT1; obtain ⟨hz0, hz1, hz2, hz3, hf0, hf1, hf2, hf3⟩ := bz4_ BK2)
      | (go_at_call 40; have HIx := ak (HI2.out.set (j := 0) S0.out NG.out.symm (.int .i64 a)); have BKx := ak (blk_put BK2.out 0 (.int .i64 a) rfl); have HTx := ak (HT2.out.set (j := 0) GS.out (.int .i64 a)); refine (in_one g _ _ b _ w0 _ hg HIx.out (hb _ (by simp))).mono ?_; rintro e w3 ⟨rfl, ⟨A3, c3, h2⟩, h3⟩; have HI3 := ak h2; have BK3 := ak (h3.blk BKx.out NG.out); have HT3 := ak (HTx.out.trans h3); clear h2 h3 HIx BKx HTx HI2 BK2 HT2; obtain ⟨hz0, hz1, hz2, hz3, hf0, hf1, hf2, hf3⟩ := bz4_ BK3)
      | (go_at_call 40; have HIx := ak (HI3.out.set (j := 1) S0.out NG.out.symm (.int .i64 b)); have BKx := ak (blk_put BK3.out 1 (.int .i64 b) rfl); have HTx := ak (HT3.out.set (j := 1) GS.out (.int .i64 b)); refine (in_one g _ _ c_ _ w0 _ hg HIx.out (hb _ (by simp))).mono ?_; rintro e w4 ⟨rfl, ⟨A4, c4, h2⟩, h3⟩; have HI4 := ak h2; have BK4 := ak (h3.blk BKx.out NG.out); have HT4 := ak (HTx.out.trans h3); clear h2 h3 HIx BKx HTx HI3 BK3 HT3; obtain ⟨hz0, hz1, hz2, hz3, hf0, hf1, hf2, hf3⟩ := bz4_ BK4)
      | (go_at_call 40; have HIx := ak (HI4.out.set (j := 2) S0.out NG.out.symm (.int .i64 c_)); have BKx := ak (blk_put BK4.out 2 (.int .i64 c_) rfl); have HTx := ak (HT4.out.set (j := 2) GS.out (.int .i64 c_)); refine (in_one g _ _ n _ w0 _ hg HIx.out (hb _ (by simp))).mono ?_; rintro e w5 ⟨rfl, ⟨A5, c5, h2⟩, h3⟩; have HI5 := ak h2; have BK5 := ak (h3.blk BKx.out NG.out); have HT5 := ak (HTx.out.trans h3); clear h2 h3 HIx BKx HTx HI4 BK4 HT4; obtain ⟨hz0, hz1, hz2, hz3, hf0, hf1, hf2, hf3⟩ := bz4_ BK5))
  go_loopg [18] (n.toNat + 1) (fun kq v18 w' => ∃ (x : Int) (ts : List S50) (vt : Value) (bs1 : List Int) (A1 : Option Addr) (c1 : Nat), v18 = .int .i64 x ∧ Aside0 (0 ≤ x ∧ (kq : Int) + x = n + 1 ∧ x ≤ n ∧ (ts.length : Int) = x) ∧ Aside0 (R = (ops_go (n - x).toNat ts bs1).map (fun p => ((⟨a, b, c_, p.1⟩ : S53), p.2)) ∧ byts bs1) ∧ Aside0 (In g A1 c1 bs1 w0 w') ∧ Aside0 (w'.heap[gs]? = some (.cells #[.int .i64 a, .int .i64 b, .int .i64 c_, vt] 53 (0, 0))) ∧ Aside0 (Kd.R k50 50 w' w.heap.size (fun k => k ≠ g) vt ts) ∧ Aside0 (Took g w w'))
  case atStart => exact ⟨0, [], .slice none 0 0, bs, _, _, by first | rfl | (simp; done), ⟨by simp; omega⟩, ⟨by rw [hR]; simp, hbb⟩, HI5, BK5, ⟨Kd.R_nil _ _ _ _ _⟩, HT5⟩
  case round =>
    clear HI5 BK5 HT5 hz0 hz1 hz2 hz3 hf0 hf1 hf2 hf3 hR
    obtain ⟨x, ts, vt, bs1, A1, c1, rfl, hk, hR, HI, BK, HV, HT⟩ := hrel
    have hx := hk.out
    obtain ⟨hR2, hb1⟩ := hR.out
    obtain ⟨k1, hk1⟩ : ∃ k1, gk = k1 + 1 := ⟨gk - 1, by omega⟩
    subst hk1
    obtain ⟨At, ct, et⟩ := Kd.R_slice HV.out
    subst et
    obtain ⟨hz0, hz1, hz2, hz3, hf0, hf1, hf2, hf3⟩ := bz4_ BK
    by_cases c0 : x < n
    · have c0_ : decide (x < n) = true := decide_eq_true c0
      rw [show (n - x).toNat = (n - (x + 1)).toNat + 1 by omega] at hR2
      rcases bs1 with _ | ⟨kk, bs2⟩
      · go_wp2_with (go_at_call 40; refine (in_short g _ _ w0 _ HI.out).mono ?_; rintro e w9 ⟨rfl, h2, h3⟩; have HT9 := ak (HT.out.trans h3))
        rw [hR2]
        exact ⟨rfl, rfl, h2, HT9.out⟩
      · have hbk := hb1 kk (by simp)
        have hb2 : byts bs2 := fun y hy => hb1 y (by simp [hy])
        have hops : ops_go ((n - (x + 1)).toNat + 1) ts (kk :: bs2) = match four_go 4 0 bs2 with | none => none | some (m, r) => ops_go (n - (x + 1)).toNat (ts ++ [⟨kk, wrapN m⟩]) r := rfl
        rw [hops] at hR2
        have G1 := ak (Nat.le_trans hsz (Nat.le_refl w.heap.size))
        cases h4 : four_go 4 0 bs2 with
        | none =>
          rw [h4] at hR2
          go_wp2_with (first
            | (go_at_call 40; refine (in_one g _ _ kk _ w0 _ hg HI.out hbk).mono ?_; rintro e w5 ⟨rfl, ⟨A5, c5, h2⟩, h3⟩; have HI5 := ak h2; have HT5 := ak (HT.out.trans h3); clear h2 h3)
            | ((with_reducible refine gate_dst (N := 4) rfl ?_); refine box_event ?hg (N := 4) ?hd (cs := #[.int .i64 0, .int .i64 0]) (t := 50) ?hr ?_; (case hd => rfl); (case hg => rfl); (case hr => first | (go_simp; done) | (go_simp; rfl)); intro gp hgp w6 hbox hb6; have HT6 := ak (HT5.out.on hb6); have HI6 := ak (HI5.out.on hb6); have GP := ak (show w.heap.size ≤ gp by rw [hgp]; exact HT5.out.size); have BP := ak hbox; clear hb6 hbox hgp; obtain ⟨hy0, hy1, hg0, hg1⟩ := bz2_ BP)
            | (go_at_call 49; have HI7 := ak ((HI6.out.set (j := 0) (Nat.le_trans hsz GP.out) (by have := GP.out; omega) (.int .i64 kk)).set (j := 1) (Nat.le_trans hsz GP.out) (by have := GP.out; omega) (.int .i64 0)); have HT7 := ak ((HT6.out.set (j := 0) GP.out (.int .i64 kk)).set (j := 1) GP.out (.int .i64 0)); refine (in_four g _ _ bs2 w0 _ hg HI7.out hb2).mono ?_; rintro e w8 hE; rw [h4] at hE; obtain ⟨rfl, h2, h3⟩ := hE; have HT8 := ak (HT7.out.trans h3)))
          rw [hR2]
          exact ⟨rfl, rfl, h2, HT8.out⟩
        | some q =>
          obtain ⟨m, bs3⟩ := q
          rw [h4] at hR2
          replace hR2 : R = (ops_go (n - (x + 1)).toNat (ts ++ [⟨kk, wrapN m⟩]) bs3).map (fun p => ((⟨a, b, c_, p.1⟩ : S53), p.2)) := hR2
          have hb3 : byts bs3 := fun y hy => hb2 y (four_mem 4 0 bs2 m bs3 h4 y hy)
          go_wp2_with (first
            | (go_at_call 40; refine (in_one g _ _ kk _ w0 _ hg HI.out hbk).mono ?_; rintro e w5 ⟨rfl, ⟨A5, c5, h2⟩, h3⟩; have HI5 := ak h2; have HT5 := ak (HT.out.trans h3); have BK5 := ak (h3.blk BK.out NG.out); have HV5 := ak (Kd.R_mono (Kd.R_bound (h3.row HV.out)) (ok' := fun k => k ≠ g ∧ k < w5.heap.size) (fun k hk => ⟨hk.1, hk.2.2.1⟩)); clear h2 h3)
            | ((with_reducible refine gate_dst (N := 4) rfl ?_); refine box_event ?hg (N := 4) ?hd (cs := #[.int .i64 0, .int .i64 0]) (t := 50) ?hr ?_; (case hd => rfl); (case hg => rfl); (case hr => first | (go_simp; done) | (go_simp; rfl)); intro gp hgp w6 hbox hb6; have HB6 := ak hb6; have GP := ak (show w5.heap.size ≤ gp by rw [hgp]; exact Nat.le_refl _); have BP := ak hbox; clear hb6 hbox hgp; obtain ⟨hy0, hy1, hg0, hg1⟩ := bz2_ BP)
            | (go_at_call 49; have HB7 := ak (below_set (v := .int .i64 0) (j := 1) (below_set (v := .int .i64 kk) (j := 0) HB6.out GP.out) GP.out); have HI7 := ak (HI5.out.on HB7.out); have HT7 := ak (HT5.out.on HB7.out); have BK7 := ak (blk_below BK5.out HB7.out); have HV7 := ak (Kd.R_below HV5.out HB7.out); have BP7 := ak (blk_put (blk_put BP.out 0 (.int .i64 kk) rfl) 1 (.int .i64 0) rfl); refine (in_four g _ _ bs2 w0 _ hg HI7.out hb2).mono ?_; rintro e w8 hE; rw [h4] at hE; obtain ⟨rfl, ⟨A8, c8, h2⟩, h3⟩ := hE; have HT8 := ak (HT7.out.trans h3); have HI8 := ak h2; have BK8 := ak (h3.blk BK7.out NG.out); have HV8 := ak (h3.rowB HV7.out); have NP := ak (show gp ≠ g by have := HT5.out.size; have := GP.out; omega); have BP8 := ak (h3.blk BP7.out NP.out); clear h2 h3; obtain ⟨hy0, hy1, hg0, hg1⟩ := bz2_ BP8; obtain ⟨hz0, hz1, hz2, hz3, hf0, hf1, hf2, hf3⟩ := bz4_ BK8)
            | ((with_reducible refine gate_builtin (b := .append) (xs := #[.tmp 27, .tmp 29]) rfl ?_); at_builtin; have HI9 := ak (HI8.out.set (j := 1) (Nat.le_trans hsz (Nat.le_trans HT5.out.size GP.out)) NP.out.symm (.int .i64 (wrapN m))); have HT9 := ak (HT8.out.set (j := 1) (Nat.le_trans HT5.out.size GP.out) (.int .i64 (wrapN m))); have NS := ak (show gs ≠ gp by have := blk_lt BK5.out; have := GP.out; omega); have BK9 := ak (blk_far (p := ⟨gp, 1, none⟩) BK8.out NS.out (.int .i64 (wrapN m))); have HV9 := ak (Kd.R_far (p := ⟨gp, 1, none⟩) HV8.out (fun k hk => by show k ≠ gp; have := hk.2; have := GP.out; omega) (.int .i64 (wrapN m))); refine Kd.R_append k50 (w0 := w8.setCell ⟨gp, 1, none⟩ (.int .i64 (wrapN m))) w.heap.size rfl (.tmp 27) (.tmp 29) 51 50 (.agg #[(.int .i64 0), (.int .i64 0)]) 16 rfl Try.underlying51 info50h rfl (by decide) (by omega) (.slice At ts.length ct) ts (⟨kk, wrapN m⟩ : S50) [.int .i64 kk, .int .i64 (wrapN m)] (fun k => k ≠ g) (fun _ => False) rfl (by first | (go_simp; done) | (go_simp; rfl)) ?aP (fun _ hk => hk.elim) ?aF ?aO ?aB ?aS ?aL ?_; (case aP => exact k50_mkM _ _ _ (⟨kk, wrapN m⟩ : S50)); (case aB => exact Below.refl _ _); (case aF => exact (fun k hk e => by have := blk_lt HI9.out.blk; omega)); (case aO => exact Kd.R_mono HV9.out (fun k hk => hk.1)); (case aS => exact HT9.out.size); (case aL => omega); intro v10 w10 ho hb10 hg10 hat; have HI10 := ak (show In g A8 c8 bs3 w0 w10 from ⟨blk_grown HI9.out.blk hg10 (fun e => (HV9.out.1 g e.symm).1 rfl), HI9.out.row, HI9.out.cap, below_comp HI9.out.below (below_less hb10 hsz)⟩); have BK10 := ak (blk_grown BK9.out hg10 (Kd.R_ne HV9.out BK9.out (by decide))); have HT10 := ak (show Took g w w10 from ⟨Nat.le_trans HT9.out.size hg10.size, fun k hk hk2 => (hb10.block k hk).trans (HT9.out.heap k hk hk2)⟩); obtain ⟨A10, c10, e10⟩ := Kd.R_slice ho; subst e10; have HV10 := ak ho; clear ho hb10 hg10 hat; obtain ⟨hz0, hz1, hz2, hz3, hf0, hf1, hf2, hf3⟩ := bz4_ BK10))
          go_roundg k1
          case measure => omega
          case rel =>
            have hl10 : (ts ++ [(⟨kk, wrapN m⟩ : S50)]).length = ts.length + 1 := by rw [List.length_append, List.length_singleton]
            have HV11 := HV10.out
            have BK11 := blk_put BK10.out 3 (.slice A10 (ts ++ [(⟨kk, wrapN m⟩ : S50)]).length c10) rfl
            rw [hl10] at HV11 BK11
            refine ⟨x + 1, ts ++ [⟨kk, wrapN m⟩], _, bs3, A8, c8, ?_, ⟨by rw [hl10]; omega⟩, ⟨by rw [hR2], hb3⟩, ⟨HI10.out.set (Nat.le_trans hsz GS.out) NG.out.symm _⟩, ⟨BK11⟩, ⟨Kd.R_mono (Kd.R_far (p := ⟨gs, 3, none⟩) (Kd.R_types HV11 BK10.out (by decide)) (fun _ hk => hk.2) _) (fun _ hk => hk.1)⟩, ⟨HT10.out.set GS.out _⟩⟩
            first | rfl | rw [show wrap64 (x + 1) = x + 1 by unfold wrap64; omega]
    · have c0_ : decide (x < n) = false := decide_eq_false c0
      go_wp2
      have e0 : (n - x).toNat = 0 := by omega
      try rw [hR2]
      rw [e0]
      have BK2 := blk_put (blk_put (blk_put (blk_put BK.out 0 (.int .i64 a) rfl) 1 (.int .i64 b) rfl) 2 (.int .i64 c_) rfl) 3 (.slice At ts.length ct) rfl
      obtain ⟨hz0, hz1, hz2, hz3, hf0, hf1, hf2, hf3⟩ := bz4_ ⟨BK2⟩
      refine bodyPost_ret (v := .agg #[.int .i64 a, .int .i64 b, .int .i64 c_, .slice At ts.length ct]) ?_ rfl ?_
      · simp [results, Try.results41, go_sem, hz0, hz1, hz2, hz3]
      · refine ⟨_, rfl, ?_, ⟨A1, c1, ?_⟩, ?_⟩
        · exact Kd.R_mono (Kd.R_step (Kd.R_types HV.out BK.out (by decide)) (fun k hk _ => four_sets wr gs _ _ _ _ k hk.2)) (fun k hk => hk.1)
        · exact (((HI.out.set S0.out NG.out.symm _).set S0.out NG.out.symm _).set S0.out NG.out.symm _).set S0.out NG.out.symm _
        · exact (((HT.out.set GS.out _).set GS.out _).set GS.out _).set GS.out _
end Go.Proofs.Ytpeblomhhofhkaa.H
