/-
  PROVED: The walks of shape's functions, by hand. Condition: what each lemma states.
-/
import Derived.Test.YtpeblomhhofhkaaHShH
namespace Go.Proofs.Ytpeblomhhofhkaa.H
open Go.RowKit Go.Proofs.YtpeblomhhofhkaaW.PrintWords Go.Proofs.YtpeblomhhofhkaaW.PrintLast Go.Proofs.YtpeblomhhofhkaaW.PrintMore Go.Proofs.Ytpeblomhhofhkaa.Ho
set_option linter.unusedVariables false
set_option linter.unusedSimpArgs false
def shape_Read.f (k : Nat) (l0 : List Int) : Option (List (List S53) × Int) :=
  if (l0.all fun b => decide (0 ≤ b ∧ b ≤ 255)) = true then
    match all_go l0 with
    | none => some ([], 2)
    | some (l, bs) => (shape_Write.f k l).bind fun p => if p.2 = 0 then (if (bs.length : Int) > 0 then some ([], 2) else some (l, 0)) else some ([], 2)
  else none
theorem shape_Read.mono (l0 : List Int) (k : Nat) : LeO (shape_Read.f k l0) (shape_Read.f (k + 1) l0) := by
  unfold shape_Read.f
  refine LeO.ite ?_ (LeO.refl _)
  cases all_go l0 with
  | none => exact LeO.refl _
  | some q => exact LeO.bind (shape_Write.mono q.1 k) (fun _ => LeO.refl _)
set_option maxHeartbeats 16000000 in
set_option maxRecDepth 100000 in
theorem shape_Read.calls (k : Nat) (A0 : Option Addr) (c0 : Nat) (l0 : List Int) (r1 : List (List S53)) (r2 : Int) (w : World) (hr0 : Kd.C (Kd.int .u8) w A0 l0.length l0) (hc0 : l0.length ≤ c0) (h : shape_Read.f k l0 = some (r1, r2)) :
    Calls Try.prog 18 #[.slice A0 l0.length c0] w fun e w' => ∃ v0_ : Value, e = .returned (.tuple #[v0_, .int .i64 r2]) ∧ Kd.R (Kd.slice 53 k53) 33 w' w.heap.size (fun _ => True) v0_ r1 ∧ Below w.heap.size w w' := by
  unfold shape_Read.f at h
  by_cases hby : (l0.all fun b => decide (0 ≤ b ∧ b ≤ 255)) = true
  case neg => rw [if_neg hby] at h; exact absurd h (by simp)
  rw [if_pos hby] at h
  have hb : byts l0 := fun b hb => of_decide_eq_true (List.all_eq_true.1 hby b hb)
  clear hby
  have hmf : ∀ (fn : Fn) (first cap : Array Value) (w : World), (Instr.makeFunc fn first cap).run Try.prog w = .ok (.func fn first cap) w := fun _ _ _ _ => rfl
  have HB := ak (Below.refl w.heap.size w)
  cases ha : all_go l0 with
  | none =>
    rw [ha] at h
    simp only [Option.some.injEq, Prod.mk.injEq] at h
    obtain ⟨rfl, rfl⟩ := h
    go_enter_defers Try.func18, Try.ntmps18
    go_wp2_with (first
      | ((with_reducible refine gate_dst (N := 2) rfl ?_); refine box_event ?hg (N := 2) ?hd (cs := #[.slice none 0 0]) (t := 22) ?hr ?_; (case hd => rfl); (case hg => rfl); (case hr => first | (go_simp; done) | (go_simp; rfl)); intro gl hgl w1 hbox hb1; have GL := ak (show w.heap.size ≤ gl by rw [hgl]; exact HB.out.size); have HL1 := ak hbox; have HB1 := ak (below_step HB.out hb1); clear hgl hbox hb1)
      | ((with_reducible refine gate_dst (N := 3) rfl ?_); refine box_event ?hg (N := 3) ?hd (cs := #[.int .i64 0]) (t := 26) ?hr ?_; (case hd => rfl); (case hg => rfl); (case hr => first | (go_simp; done) | (go_simp; rfl)); intro ge hge w2 hbox hb1; have GE := ak (show w.heap.size ≤ ge by rw [hge]; exact HB1.out.size); have HE2 := ak hbox; have HL2 := ak (blk_below HL1.out hb1); have HB2 := ak (below_step HB1.out hb1); clear hge hbox hb1)
      | ((with_reducible refine gate_dst (N := 10) rfl ?_); refine box_event ?hg (N := 10) ?hd (cs := #[.slice A0 l0.length c0]) (t := 72) ?hr ?_; (case hd => rfl); (case hg => rfl); (case hr => first | (go_simp; done) | (go_simp; rfl)); intro gi hgi w3 hbox hb1; have GI := ak (show w.heap.size ≤ gi by rw [hgi]; exact HB2.out.size); have HE3 := ak (blk_below HE2.out hb1); have HL3 := ak (blk_below HL2.out hb1); have HI3 := ak (show In gi A0 c0 l0 w w3 from ⟨hbox, hr0, hc0, below_step HB2.out hb1⟩); clear hgi hbox hb1)
      | (go_at_call 30; refine (in_codes gi _ _ l0 w _ GI.out HI3.out hb).mono ?_; rintro e w4 hE; rw [ha] at hE; obtain ⟨rfl, hb4, hT⟩ := hE; have HL4 := ak (hT.blk HL3.out (blk_ne HL3.out HI3.out.blk (by decide))); have HE4 := ak (hT.blk HE3.out (blk_ne HE3.out HI3.out.blk (by decide)))))
    refine leaves_cons (f := 29) (args := #[.pointer (some ⟨gl, 0, none⟩), .pointer (some ⟨ge, 0, none⟩)]) (by simp) (by simp [go_sem]) ?_
    refine (catch_short gl ge _ _ w4 HL4.out HE4.out).mono ?_
    rintro e u' w5 ⟨rfl, rfl, h1, h2, h3⟩
    obtain ⟨hz0, hf0⟩ := bz1_ ⟨h1⟩
    obtain ⟨hy0, hg0⟩ := bz1_ ⟨h2⟩
    simp [Leaves, settle, results, Try.results18, go_sem, hz0, hy0]
    exact ⟨Kd.R_nil _ _ _ _ _, below_comp hb4 (h3 _ GL.out GE.out hb4.size)⟩
  | some q =>
    obtain ⟨l, bs⟩ := q
    rw [ha] at h
    obtain ⟨⟨p1, p2⟩, hw, h⟩ := Option.bind_eq_some_iff.mp h
    dsimp only at h
    by_cases c1 : p2 = 0
    · rw [if_pos c1] at h
      have c1b0 : (p2 == 0) = true := beq_iff_eq.mpr c1
      have c1b1 : (p2 != 0) = false := bne_eq_false_iff_eq.mpr c1
      by_cases c2 : (bs.length : Int) > 0
      · rw [if_pos c2] at h
        have c2b0 : decide (0 < (bs.length : Int)) = true := decide_eq_true c2
        have c2b1 : decide (0 < bs.length) = true := decide_eq_true (by omega)
        simp only [Option.some.injEq, Prod.mk.injEq] at h
        obtain ⟨rfl, rfl⟩ := h
        go_enter_defers Try.func18, Try.ntmps18
        go_wp2_with (first
          | ((with_reducible refine gate_dst (N := 2) rfl ?_); refine box_event ?hg (N := 2) ?hd (cs := #[.slice none 0 0]) (t := 22) ?hr ?_; (case hd => rfl); (case hg => rfl); (case hr => first | (go_simp; done) | (go_simp; rfl)); intro gl hgl w1 hbox hb1; have GL := ak (show w.heap.size ≤ gl by rw [hgl]; exact HB.out.size); have HL1 := ak hbox; have HB1 := ak (below_step HB.out hb1); clear hgl hbox hb1)
          | ((with_reducible refine gate_dst (N := 3) rfl ?_); refine box_event ?hg (N := 3) ?hd (cs := #[.int .i64 0]) (t := 26) ?hr ?_; (case hd => rfl); (case hg => rfl); (case hr => first | (go_simp; done) | (go_simp; rfl)); intro ge hge w2 hbox hb1; have GE := ak (show w.heap.size ≤ ge by rw [hge]; exact HB1.out.size); have HE2 := ak hbox; have HL2 := ak (blk_below HL1.out hb1); have HB2 := ak (below_step HB1.out hb1); clear hge hbox hb1)
          | ((with_reducible refine gate_dst (N := 10) rfl ?_); refine box_event ?hg (N := 10) ?hd (cs := #[.slice A0 l0.length c0]) (t := 72) ?hr ?_; (case hd => rfl); (case hg => rfl); (case hr => first | (go_simp; done) | (go_simp; rfl)); intro gi hgi w3 hbox hb1; have GI := ak (show w.heap.size ≤ gi by rw [hgi]; exact HB2.out.size); have HE3 := ak (blk_below HE2.out hb1); have HL3 := ak (blk_below HL2.out hb1); have HI3 := ak (show In gi A0 c0 l0 w w3 from ⟨hbox, hr0, hc0, below_step HB2.out hb1⟩); clear hgi hbox hb1)
          | (go_at_call 30; refine (in_codes gi _ _ l0 w _ GI.out HI3.out hb).mono ?_; rintro e w4 hE; rw [ha] at hE; obtain ⟨v, rfl, hv, ⟨A4, c4, hI4⟩, hT⟩ := hE; obtain ⟨Av, cv, ev⟩ := Kd.R_slice hv; subst ev; have HV4 := ak (Kd.R_lower hv HI3.out.below.size); have HL4 := ak (hT.blk HL3.out (blk_ne HL3.out HI3.out.blk (by decide))); have HE4 := ak (hT.blk HE3.out (blk_ne HE3.out HI3.out.blk (by decide))); have HI4 := ak hI4; clear hv hI4 hT; obtain ⟨hz0, hf0⟩ := bz1_ HL4)
          | ((with_reducible refine gate_callee (f := 11) rfl ?_); refine goesL_ (some 15) rfl rfl Try.func11 (by kernel_rfl) rfl #[.slice Av l.length cv] rfl mp_ ?_; have HL5 := ak (blk_put HL4.out 0 (.slice Av l.length cv) rfl); have HE5 := ak (blk_far (p := ⟨gl, 0, none⟩) HE4.out (blk_ne HE4.out HL4.out (by decide)) (.slice Av l.length cv)); have HI5 := ak (HI4.out.set (j := 0) GL.out (blk_ne HI4.out.blk HL4.out (by decide)) (.slice Av l.length cv)); have HV5 := ak (Kd.R_mono (Kd.R_far (p := ⟨gl, 0, none⟩) (Kd.R_types HV4.out HL4.out (by decide)) (fun _ hk => hk.2) (.slice Av l.length cv)) (fun _ hk => hk.1)); refine (shape_Write.calls k Av cv l p1 p2 _ (Kd.R_reads' HV5.out).2.2 (Kd.R_reads' HV5.out).2.1 hw).mono ?_; rintro e w6 ⟨vb, rfl, hrb, hb6⟩; refine ⟨_, rfl, ?_⟩; have hrb2 := hrb; have HL6 := ak (blk_below HL5.out hb6); have HE6 := ak (blk_below HE5.out hb6); have HI6 := ak (HI5.out.on hb6); have HV6 := ak (Kd.R_below HV5.out hb6); clear hrb hb6 hz0 hf0; obtain ⟨Ab, cb, eb⟩ := Kd.R_slice hrb2; subst eb; clear hrb2; obtain ⟨hz0, hf0⟩ := bz1_ HL6; obtain ⟨hy0, hg0⟩ := bz1_ HE6; obtain ⟨hx0, hxf0⟩ := bz1_ (ak HI6.out.blk); have NE := ak (blk_ne HL6.out HE6.out (by decide)); obtain ⟨hy1, hg1⟩ := bz1_ (ak (blk_far (p := ⟨gl, 0, none⟩) HE6.out NE.out.symm (.slice none 0 0))); obtain ⟨hy2, hg2⟩ := bz1_ (ak (blk_far (p := ⟨gl, 0, none⟩) HE6.out NE.out.symm (.slice Av l.length cv)))))
        have f1 := blk_far (p := ⟨ge, 0, none⟩) (blk_put HL6.out 0 (.slice none 0 0) rfl) NE.out (.int .i64 2)
        have f2 := blk_put (blk_far (p := ⟨gl, 0, none⟩) HE6.out NE.out.symm (.slice none 0 0)) 0 (.int .i64 2) rfl
        have f3 := below_set (v := .int .i64 2) (j := 0) (below_set (v := .slice none 0 0) (j := 0) HI6.out.below GL.out) GE.out
        generalize (w6.setCell ⟨gl, 0, none⟩ (.slice none 0 0)).setCell ⟨ge, 0, none⟩ (.int .i64 2) = w7 at *
        refine leaves_cons (f := 29) (args := #[.pointer (some ⟨gl, 0, none⟩), .pointer (some ⟨ge, 0, none⟩)]) (by simp) (by simp [go_sem]) ?_
        refine (catch_idle gl ge _).mono ?_
        rintro e u' w8 ⟨rfl, rfl, rfl⟩
        obtain ⟨hz3, hf3⟩ := bz1_ ⟨f1⟩
        obtain ⟨hy3, hg3⟩ := bz1_ ⟨f2⟩
        simp [Leaves, settle, results, Try.results18, go_sem, hz3, hy3]
        exact ⟨Kd.R_nil _ _ _ _ _, f3⟩
      · rw [if_neg c2] at h
        have c2b0 : decide (0 < (bs.length : Int)) = false := decide_eq_false c2
        have c2b1 : decide (0 < bs.length) = false := decide_eq_false (by omega)
        simp only [Option.some.injEq, Prod.mk.injEq] at h
        obtain ⟨rfl, rfl⟩ := h
        go_enter_defers Try.func18, Try.ntmps18
        go_wp2_with (first
          | ((with_reducible refine gate_dst (N := 2) rfl ?_); refine box_event ?hg (N := 2) ?hd (cs := #[.slice none 0 0]) (t := 22) ?hr ?_; (case hd => rfl); (case hg => rfl); (case hr => first | (go_simp; done) | (go_simp; rfl)); intro gl hgl w1 hbox hb1; have GL := ak (show w.heap.size ≤ gl by rw [hgl]; exact HB.out.size); have HL1 := ak hbox; have HB1 := ak (below_step HB.out hb1); clear hgl hbox hb1)
          | ((with_reducible refine gate_dst (N := 3) rfl ?_); refine box_event ?hg (N := 3) ?hd (cs := #[.int .i64 0]) (t := 26) ?hr ?_; (case hd => rfl); (case hg => rfl); (case hr => first | (go_simp; done) | (go_simp; rfl)); intro ge hge w2 hbox hb1; have GE := ak (show w.heap.size ≤ ge by rw [hge]; exact HB1.out.size); have HE2 := ak hbox; have HL2 := ak (blk_below HL1.out hb1); have HB2 := ak (below_step HB1.out hb1); clear hge hbox hb1)
          | ((with_reducible refine gate_dst (N := 10) rfl ?_); refine box_event ?hg (N := 10) ?hd (cs := #[.slice A0 l0.length c0]) (t := 72) ?hr ?_; (case hd => rfl); (case hg => rfl); (case hr => first | (go_simp; done) | (go_simp; rfl)); intro gi hgi w3 hbox hb1; have GI := ak (show w.heap.size ≤ gi by rw [hgi]; exact HB2.out.size); have HE3 := ak (blk_below HE2.out hb1); have HL3 := ak (blk_below HL2.out hb1); have HI3 := ak (show In gi A0 c0 l0 w w3 from ⟨hbox, hr0, hc0, below_step HB2.out hb1⟩); clear hgi hbox hb1)
          | (go_at_call 30; refine (in_codes gi _ _ l0 w _ GI.out HI3.out hb).mono ?_; rintro e w4 hE; rw [ha] at hE; obtain ⟨v, rfl, hv, ⟨A4, c4, hI4⟩, hT⟩ := hE; obtain ⟨Av, cv, ev⟩ := Kd.R_slice hv; subst ev; have HV4 := ak (Kd.R_lower hv HI3.out.below.size); have HL4 := ak (hT.blk HL3.out (blk_ne HL3.out HI3.out.blk (by decide))); have HE4 := ak (hT.blk HE3.out (blk_ne HE3.out HI3.out.blk (by decide))); have HI4 := ak hI4; clear hv hI4 hT; obtain ⟨hz0, hf0⟩ := bz1_ HL4)
          | ((with_reducible refine gate_callee (f := 11) rfl ?_); refine goesL_ (some 15) rfl rfl Try.func11 (by kernel_rfl) rfl #[.slice Av l.length cv] rfl mp_ ?_; have HL5 := ak (blk_put HL4.out 0 (.slice Av l.length cv) rfl); have HE5 := ak (blk_far (p := ⟨gl, 0, none⟩) HE4.out (blk_ne HE4.out HL4.out (by decide)) (.slice Av l.length cv)); have HI5 := ak (HI4.out.set (j := 0) GL.out (blk_ne HI4.out.blk HL4.out (by decide)) (.slice Av l.length cv)); have HV5 := ak (Kd.R_mono (Kd.R_far (p := ⟨gl, 0, none⟩) (Kd.R_types HV4.out HL4.out (by decide)) (fun _ hk => hk.2) (.slice Av l.length cv)) (fun _ hk => hk.1)); refine (shape_Write.calls k Av cv l p1 p2 _ (Kd.R_reads' HV5.out).2.2 (Kd.R_reads' HV5.out).2.1 hw).mono ?_; rintro e w6 ⟨vb, rfl, hrb, hb6⟩; refine ⟨_, rfl, ?_⟩; have hrb2 := hrb; have HL6 := ak (blk_below HL5.out hb6); have HE6 := ak (blk_below HE5.out hb6); have HI6 := ak (HI5.out.on hb6); have HV6 := ak (Kd.R_below HV5.out hb6); clear hrb hb6 hz0 hf0; obtain ⟨Ab, cb, eb⟩ := Kd.R_slice hrb2; subst eb; clear hrb2; obtain ⟨hz0, hf0⟩ := bz1_ HL6; obtain ⟨hy0, hg0⟩ := bz1_ HE6; obtain ⟨hx0, hxf0⟩ := bz1_ (ak HI6.out.blk); have NE := ak (blk_ne HL6.out HE6.out (by decide)); obtain ⟨hy1, hg1⟩ := bz1_ (ak (blk_far (p := ⟨gl, 0, none⟩) HE6.out NE.out.symm (.slice none 0 0))); obtain ⟨hy2, hg2⟩ := bz1_ (ak (blk_far (p := ⟨gl, 0, none⟩) HE6.out NE.out.symm (.slice Av l.length cv)))))
        have f1 := blk_far (p := ⟨ge, 0, none⟩) (blk_put HL6.out 0 (.slice Av l.length cv) rfl) NE.out (.int .i64 0)
        have f2 := blk_put (blk_far (p := ⟨gl, 0, none⟩) HE6.out NE.out.symm (.slice Av l.length cv)) 0 (.int .i64 0) rfl
        have f3 := below_set (v := .int .i64 0) (j := 0) (below_set (v := .slice Av l.length cv) (j := 0) HI6.out.below GL.out) GE.out
        have f4 := Kd.R_mono (Kd.R_far (p := ⟨ge, 0, none⟩) (Kd.R_far (p := ⟨gl, 0, none⟩) (Kd.R_types (Kd.R_types HV6.out HL6.out (by decide)) HE6.out (by decide)) (fun _ hk => hk.1.2) (.slice Av l.length cv)) (fun _ hk => hk.2) (.int .i64 0)) (fun _ _ => trivial)
        generalize (w6.setCell ⟨gl, 0, none⟩ (.slice Av l.length cv)).setCell ⟨ge, 0, none⟩ (.int .i64 0) = w7 at *
        refine leaves_cons (f := 29) (args := #[.pointer (some ⟨gl, 0, none⟩), .pointer (some ⟨ge, 0, none⟩)]) (by simp) (by simp [go_sem]) ?_
        refine (catch_idle gl ge _).mono ?_
        rintro e u' w8 ⟨rfl, rfl, rfl⟩
        obtain ⟨hz3, hf3⟩ := bz1_ ⟨f1⟩
        obtain ⟨hy3, hg3⟩ := bz1_ ⟨f2⟩
        simp [Leaves, settle, results, Try.results18, go_sem, hz3, hy3]
        exact ⟨f4, f3⟩
    · rw [if_neg c1] at h
      have c1b0 : (p2 == 0) = false := beq_eq_false_iff_ne.mpr c1
      have c1b1 : (p2 != 0) = true := bne_iff_ne.mpr c1
      simp only [Option.some.injEq, Prod.mk.injEq] at h
      obtain ⟨rfl, rfl⟩ := h
      go_enter_defers Try.func18, Try.ntmps18
      go_wp2_with (first
        | ((with_reducible refine gate_dst (N := 2) rfl ?_); refine box_event ?hg (N := 2) ?hd (cs := #[.slice none 0 0]) (t := 22) ?hr ?_; (case hd => rfl); (case hg => rfl); (case hr => first | (go_simp; done) | (go_simp; rfl)); intro gl hgl w1 hbox hb1; have GL := ak (show w.heap.size ≤ gl by rw [hgl]; exact HB.out.size); have HL1 := ak hbox; have HB1 := ak (below_step HB.out hb1); clear hgl hbox hb1)
        | ((with_reducible refine gate_dst (N := 3) rfl ?_); refine box_event ?hg (N := 3) ?hd (cs := #[.int .i64 0]) (t := 26) ?hr ?_; (case hd => rfl); (case hg => rfl); (case hr => first | (go_simp; done) | (go_simp; rfl)); intro ge hge w2 hbox hb1; have GE := ak (show w.heap.size ≤ ge by rw [hge]; exact HB1.out.size); have HE2 := ak hbox; have HL2 := ak (blk_below HL1.out hb1); have HB2 := ak (below_step HB1.out hb1); clear hge hbox hb1)
        | ((with_reducible refine gate_dst (N := 10) rfl ?_); refine box_event ?hg (N := 10) ?hd (cs := #[.slice A0 l0.length c0]) (t := 72) ?hr ?_; (case hd => rfl); (case hg => rfl); (case hr => first | (go_simp; done) | (go_simp; rfl)); intro gi hgi w3 hbox hb1; have GI := ak (show w.heap.size ≤ gi by rw [hgi]; exact HB2.out.size); have HE3 := ak (blk_below HE2.out hb1); have HL3 := ak (blk_below HL2.out hb1); have HI3 := ak (show In gi A0 c0 l0 w w3 from ⟨hbox, hr0, hc0, below_step HB2.out hb1⟩); clear hgi hbox hb1)
        | (go_at_call 30; refine (in_codes gi _ _ l0 w _ GI.out HI3.out hb).mono ?_; rintro e w4 hE; rw [ha] at hE; obtain ⟨v, rfl, hv, ⟨A4, c4, hI4⟩, hT⟩ := hE; obtain ⟨Av, cv, ev⟩ := Kd.R_slice hv; subst ev; have HV4 := ak (Kd.R_lower hv HI3.out.below.size); have HL4 := ak (hT.blk HL3.out (blk_ne HL3.out HI3.out.blk (by decide))); have HE4 := ak (hT.blk HE3.out (blk_ne HE3.out HI3.out.blk (by decide))); have HI4 := ak hI4; clear hv hI4 hT; obtain ⟨hz0, hf0⟩ := bz1_ HL4)
        | ((with_reducible refine gate_callee (f := 11) rfl ?_); refine goesL_ (some 15) rfl rfl Try.func11 (by kernel_rfl) rfl #[.slice Av l.length cv] rfl mp_ ?_; have HL5 := ak (blk_put HL4.out 0 (.slice Av l.length cv) rfl); have HE5 := ak (blk_far (p := ⟨gl, 0, none⟩) HE4.out (blk_ne HE4.out HL4.out (by decide)) (.slice Av l.length cv)); have HI5 := ak (HI4.out.set (j := 0) GL.out (blk_ne HI4.out.blk HL4.out (by decide)) (.slice Av l.length cv)); have HV5 := ak (Kd.R_mono (Kd.R_far (p := ⟨gl, 0, none⟩) (Kd.R_types HV4.out HL4.out (by decide)) (fun _ hk => hk.2) (.slice Av l.length cv)) (fun _ hk => hk.1)); refine (shape_Write.calls k Av cv l p1 p2 _ (Kd.R_reads' HV5.out).2.2 (Kd.R_reads' HV5.out).2.1 hw).mono ?_; rintro e w6 ⟨vb, rfl, hrb, hb6⟩; refine ⟨_, rfl, ?_⟩; have hrb2 := hrb; have HL6 := ak (blk_below HL5.out hb6); have HE6 := ak (blk_below HE5.out hb6); have HI6 := ak (HI5.out.on hb6); have HV6 := ak (Kd.R_below HV5.out hb6); clear hrb hb6 hz0 hf0; obtain ⟨Ab, cb, eb⟩ := Kd.R_slice hrb2; subst eb; clear hrb2; obtain ⟨hz0, hf0⟩ := bz1_ HL6; obtain ⟨hy0, hg0⟩ := bz1_ HE6; obtain ⟨hx0, hxf0⟩ := bz1_ (ak HI6.out.blk); have NE := ak (blk_ne HL6.out HE6.out (by decide)); obtain ⟨hy1, hg1⟩ := bz1_ (ak (blk_far (p := ⟨gl, 0, none⟩) HE6.out NE.out.symm (.slice none 0 0))); obtain ⟨hy2, hg2⟩ := bz1_ (ak (blk_far (p := ⟨gl, 0, none⟩) HE6.out NE.out.symm (.slice Av l.length cv)))))
      have f1 := blk_far (p := ⟨ge, 0, none⟩) (blk_put HL6.out 0 (.slice none 0 0) rfl) NE.out (.int .i64 2)
      have f2 := blk_put (blk_far (p := ⟨gl, 0, none⟩) HE6.out NE.out.symm (.slice none 0 0)) 0 (.int .i64 2) rfl
      have f3 := below_set (v := .int .i64 2) (j := 0) (below_set (v := .slice none 0 0) (j := 0) HI6.out.below GL.out) GE.out
      generalize (w6.setCell ⟨gl, 0, none⟩ (.slice none 0 0)).setCell ⟨ge, 0, none⟩ (.int .i64 2) = w7 at *
      refine leaves_cons (f := 29) (args := #[.pointer (some ⟨gl, 0, none⟩), .pointer (some ⟨ge, 0, none⟩)]) (by simp) (by simp [go_sem]) ?_
      refine (catch_idle gl ge _).mono ?_
      rintro e u' w8 ⟨rfl, rfl, rfl⟩
      obtain ⟨hz3, hf3⟩ := bz1_ ⟨f1⟩
      obtain ⟨hy3, hg3⟩ := bz1_ ⟨f2⟩
      simp [Leaves, settle, results, Try.results18, go_sem, hz3, hy3]
      exact ⟨Kd.R_nil _ _ _ _ _, f3⟩
end Go.Proofs.Ytpeblomhhofhkaa.H
