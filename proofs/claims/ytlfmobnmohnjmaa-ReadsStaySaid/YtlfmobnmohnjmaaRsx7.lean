-- PRINTED by print.py (a twelfth state) out of the translation. Not trusted: Lean checks it.
import Derived.Test.YtlfmobnmohnjmaaRsx0
import Derived.Test.YtlfmobnmohnjmaaRsx4
import Derived.Test.YtlfmobnmohnjmaaRsx6
namespace Go.Proofs.Ytlfmobnmohnjmaa.Rs
open Go.Proofs.Ytlfmobnmohnjmaa.Ho
open Go.RowKit Go.Proofs.YtlfmobnmohnjmaaW.PrintWords Go.Proofs.YtlfmobnmohnjmaaW.PrintLast Go.Proofs.YtlfmobnmohnjmaaW.PrintMore
attribute [local go_sem] max2_int min2_int max_two min_two max_three min_three max_four min_four   -- for this text's walks alone
set_option linter.unusedVariables false
set_option linter.unusedSimpArgs false

/-! ### stripe_Stamp: function 32 -/
mutual
def stripe_Stamp.j0 : Nat → List Int → Bool → List (S67) → Int → Option ((List (S67)) × Int)
 | 0, _, _, _, _ => none
 | k + 1, x8, x15, x245000, x246000 => if x15 = true then (some (x245000, 1)) else (if x246000 < 0 then (some (x245000, 6)) else (if x246000 > 2147483647 then (some (x245000, 6)) else ((any_at_stripe_Stamp_1.f x8 x245000 x246000).bind fun t251 => (if t251 = true then (some (x245000, 6)) else ((slices_Clone_61.f x245000).bind fun t252 => (stripe_Stamp.l0 k t252 x8 (x8.length : Int) 0 x246000))))))
def stripe_Stamp.l0 : Nat → List (S67) → List Int → Int → Int → Int → Option ((List (S67)) × Int)
 | 0, _, _, _, _, _ => none
 | k + 1, x9, x40, x41, x42, x246000 => if x42 < x41 then (if 0 ≤ x42 then (if x42 < (x40.length : Int) then (if 0 ≤ (rd x40 x42) then (if (rd x40 x42) < (x9.length : Int) then (stripe_Stamp.l0 k (x9.set ((rd x40 x42) : Int).toNat (⟨x246000, 0⟩ : S67)) x40 x41 (wrap64 (x42 + 1)) x246000) else (none)) else (none)) else (none)) else (none)) else (some (x9, 0))
end
def stripe_Stamp.f (k : Nat) (l0 : List (S67)) (a1 : Int) (a2 : Int) : Option ((List (S67)) × Int) := (stripe_Held.f k l0 a1).bind fun t246 => ((stripe_Right.f l0).bind fun t249 => (if t249 = true then ((stripe_somebody.f a1).bind fun t250 => (stripe_Stamp.j0 k t246 (!t250) l0 a2)) else (stripe_Stamp.j0 k t246 true l0 a2)))
theorem stripe_Stamp.mono_l : ∀ k, (∀ y0 y1 y2 y3, LeO (stripe_Stamp.j0 k y0 y1 y2 y3) (stripe_Stamp.j0 (k + 1) y0 y1 y2 y3)) ∧ (∀ y0 y1 y2 y3 y4, LeO (stripe_Stamp.l0 k y0 y1 y2 y3 y4) (stripe_Stamp.l0 (k + 1) y0 y1 y2 y3 y4))
 | 0 => ⟨fun _ _ _ _ r h => by simp [stripe_Stamp.j0] at h, fun _ _ _ _ _ r h => by simp [stripe_Stamp.l0] at h⟩
 | k + 1 => by
  obtain ⟨ih0, ih1⟩ := stripe_Stamp.mono_l k
  refine ⟨?_, ?_⟩
  · intro y0 y1 y2 y3
    unfold stripe_Stamp.j0
    repeat' first
    | (with_reducible exact ih0 _ _ _ _)
    | (with_reducible exact ih1 _ _ _ _ _)
    | (with_reducible exact stripe_Held.mono _ _ _)
    | (with_reducible exact LeO.refl _)
    | (with_reducible exact LeO.none _)
    | (with_reducible refine LeO.ite ?_ ?_)
    | (with_reducible refine LeO.bind ?_ (fun _ => ?_))
    | exact ih0 _ _ _ _
    | exact ih1 _ _ _ _ _
    | exact stripe_Held.mono _ _ _
    | exact LeO.none _
    | refine LeO.ite ?_ ?_
    | refine LeO.bind ?_ (fun _ => ?_)
  · intro y0 y1 y2 y3 y4
    unfold stripe_Stamp.l0
    repeat' first
    | (with_reducible exact ih0 _ _ _ _)
    | (with_reducible exact ih1 _ _ _ _ _)
    | (with_reducible exact stripe_Held.mono _ _ _)
    | (with_reducible exact LeO.refl _)
    | (with_reducible exact LeO.none _)
    | (with_reducible refine LeO.ite ?_ ?_)
    | (with_reducible refine LeO.bind ?_ (fun _ => ?_))
    | exact ih0 _ _ _ _
    | exact ih1 _ _ _ _ _
    | exact stripe_Held.mono _ _ _
    | exact LeO.none _
    | refine LeO.ite ?_ ?_
    | refine LeO.bind ?_ (fun _ => ?_)
theorem stripe_Stamp.mono : ∀ a0 a1 a2 k, LeO (stripe_Stamp.f k a0 a1 a2) (stripe_Stamp.f (k + 1) a0 a1 a2) := by
 intro a0 a1 a2 k
 obtain ⟨ih0, ih1⟩ := stripe_Stamp.mono_l k
 unfold stripe_Stamp.f
 repeat' first
  | (with_reducible exact ih0 _ _ _ _)
  | (with_reducible exact ih1 _ _ _ _ _)
  | (with_reducible exact stripe_Held.mono _ _ _)
  | (with_reducible exact LeO.refl _)
  | (with_reducible exact LeO.none _)
  | (with_reducible refine LeO.ite ?_ ?_)
  | (with_reducible refine LeO.bind ?_ (fun _ => ?_))
  | exact ih0 _ _ _ _
  | exact ih1 _ _ _ _ _
  | exact stripe_Held.mono _ _ _
  | exact LeO.none _
  | refine LeO.ite ?_ ?_
  | refine LeO.bind ?_ (fun _ => ?_)
set_option maxHeartbeats 8000000 in
set_option maxRecDepth 100000 in
theorem stripe_Stamp.calls (k : Nat) (P0_ : Nat → Prop) (A0 : Option Addr) (c0 : Nat) (l0 : List (S67)) (a1 : Int) (a2 : Int) (r1 : List (S67)) (r2 : Int) (w : World) (hs0 : Kd.V k67 67 w w.heap.size (fun k_ => P0_ k_) (.slice A0 l0.length c0) l0) (h : stripe_Stamp.f k l0 a1 a2 = some (r1, r2)) :
 Calls Try.prog 32 #[.slice A0 l0.length c0, .int .i64 a1, .int .i64 a2] w fun e w' => ∃ v0_ : Value, e = .returned (.tuple #[v0_, .int .i64 r2]) ∧ Kd.V k67 67 w' w.heap.size (fun k_ => (P0_ k_ ∨ w.heap.size ≤ k_)) v0_ r1 ∧ Below w.heap.size w w' := by
 have hu67 := Try.underlying67
 have HO0 := Aside0.mk (show Kd.V k67 67 w w.heap.size (fun k_ => (P0_ k_ ∨ w.heap.size ≤ k_)) (.slice A0 l0.length c0) l0 from Kd.V_mono hs0 (fun k_ hk => .inl hk))
 have HB := Aside0.mk (Below.refl w.heap.size w)
 have H : ((stripe_Held.f k l0 a1).bind fun t246 => ((stripe_Right.f l0).bind fun t249 => (if t249 = true then ((stripe_somebody.f a1).bind fun t250 => (stripe_Stamp.j0 k t246 (!t250) l0 a2)) else (stripe_Stamp.j0 k t246 true l0 a2)))) = some (r1, r2) := h
 clear h
 replace H := Option.bind_eq_some_iff.mp H
 obtain ⟨t246, A40, H⟩ := H
 replace H : ((stripe_Right.f l0).bind fun t249 => (if t249 = true then ((stripe_somebody.f a1).bind fun t250 => (stripe_Stamp.j0 k t246 (!t250) l0 a2)) else (stripe_Stamp.j0 k t246 true l0 a2))) = some (r1, r2) := H
 have A4 := Aside0.mk A40
 clear A40
 have HC5 := Aside0.mk H
 clear H
 go_enter Try.func32, Try.ntmps32
 go_upto_region 2 with (first | ((with_reducible refine gate_dst (N := 3) rfl ?_); refine box_event ?hg (N := 3) ?hd (cs := #[.slice A0 l0.length c0]) (t := 40) ?hr ?_; (case hd => rfl); (case hg => rfl); (case hr => first | (go_simp; done) | (go_simp; rfl)); intro gb244 hg w6 hbox hb; have n0_ := Aside0.mk (Kd.V_below (Kd.V_elderB (by (with_reducible repeat (first | apply Kd.V_alloc | apply Kd.V_drewN | apply Kd.V_drew)); exact HO0.out) gb244 (Nat.le_of_eq hg.symm)) hb); have n1_ := Aside0.mk (bst_ hb); have n2_ := Aside0.mk (hbox); have n3_ := Aside0.mk ((by rw [hg]; exact bsz_ : w.heap.size ≤ gb244)); have n4_ := n3_; clear HO0; clear HB; have HO0 := n0_; have HB := n1_; have BK244 := n2_; have GW244 := n3_; have GE244 := n4_; clear n0_ n1_ n2_ n3_ n4_; clear hb hbox hg) | ((with_reducible refine gate_dst (N := 5) rfl ?_); refine box_event ?hg (N := 5) ?hd (cs := #[.int .i64 a2]) (t := 3) ?hr ?_; (case hd => rfl); (case hg => rfl); (case hr => first | (go_simp; done) | (go_simp; rfl)); intro gb245 hg w7 hbox hb; have n0_ := Aside0.mk (Kd.V_below (Kd.V_elderB (by (with_reducible repeat (first | apply Kd.V_alloc | apply Kd.V_drewN | apply Kd.V_drew)); exact HO0.out) gb245 (Nat.le_of_eq hg.symm)) hb); have n1_ := Aside0.mk (blk_below (g := gb244) (o := .cells #[.slice A0 l0.length c0] 40 (0, 0)) (by (with_reducible repeat (first | refine blk_drewN ?_ _ | refine blk_drew ?_ | refine blk_alloc ?_ _)); exact BK244.out) hb); have n2_ := Aside0.mk (below_step (by repeat (with_reducible first | exact HB.out | apply below_alloc | apply pw_below_drewN | apply below_drew1 | refine below_set ?_ GE244.out)) hb); have n3_ := Aside0.mk (hbox); have n4_ := Aside0.mk ((by rw [hg]; exact (below_size (by repeat (with_reducible first | exact HB.out | apply below_alloc | apply pw_below_drewN | apply below_drew1 | refine below_set ?_ GE244.out))) : w.heap.size ≤ gb245)); have n5_ := n4_; have n6_ := Aside0.mk ((by rw [hg]; exact Nat.ne_of_lt (blk_lt (g := gb244) (o := .cells #[.slice A0 l0.length c0] 40 (0, 0)) (by (with_reducible repeat (first | refine blk_drewN ?_ _ | refine blk_drew ?_ | refine blk_alloc ?_ _)); exact BK244.out)) : gb244 ≠ gb245)); have n7_ := Aside0.mk ((by rw [hg]; exact Nat.ne_of_gt (blk_lt (g := gb244) (o := .cells #[.slice A0 l0.length c0] 40 (0, 0)) (by (with_reducible repeat (first | refine blk_drewN ?_ _ | refine blk_drew ?_ | refine blk_alloc ?_ _)); exact BK244.out)) : gb245 ≠ gb244)); clear HO0; clear BK244; clear HB; have HO0 := n0_; have BK244 := n1_; have HB := n2_; have BK245 := n3_; have GW245 := n4_; have GE245 := n5_; have NB244_245 := n6_; have NB245_244 := n7_; clear n0_ n1_ n2_ n3_ n4_ n5_ n6_ n7_; clear hb hbox hg; have hnb8 := NB244_245.out; have hnc8 := NB245_244.out; have hcz9_0 : w7.cell? ⟨gb244, 0, none⟩ = some (.slice A0 l0.length c0) := (blk_cell BK244.out 0).trans rfl; have hfz9_0 := blk_frozen BK244.out 0) | ((with_reducible refine gate_callee (f := 40) rfl ?_); refine goesL_ (some 14) rfl rfl Try.func40 (by kernel_rfl) rfl #[.slice A0 l0.length c0, .int .i64 a1] rfl (by (try simp only [List.map_toArray, List.map_cons, List.map_nil]); first | done | rfl) ?_; (with_reducible refine (stripe_Held.calls k _ _ l0 a1 t246 _ ?side1 ?side2 A4.out).mono ?_); (case side1 => repeat (first | exact (Kd.V_reads' HO0.out).2.2 | with_reducible first | refine Kd.C_alloc ?_ _ | refine Kd.C_drewN ?_ _ | refine Kd.C_drew ?_)); (case side2 => exact (Kd.V_reads' HO0.out).2.1); rintro e w10 ⟨v247, rfl, ho0, hb⟩; refine ⟨_, rfl, ?_⟩; have n0_ := Aside0.mk (Kd.V_elder' (by (with_reducible repeat (first | apply Kd.V_alloc | apply Kd.V_drewN | apply Kd.V_drew)); exact HO0.out) (Kd.R_base ho0) hb); have n1_ := Aside0.mk (Kd.R_lower (Kd.R_newB (Kd.R_newM (M := fun k_ => (w.heap.size ≤ k_)) ho0 (below_size (by repeat (first | (with_reducible first | exact HB.out | apply below_alloc | apply pw_below_drewN | apply below_drew1 | refine below_set ?_ GE244.out | refine below_set ?_ GE245.out) | exact HB.out))) (fun k_ h_ => h_)) (g := gb245) (o := .cells #[.int .i64 a2] 3 (0, 0)) (by (with_reducible repeat (first | refine blk_drewN ?_ _ | refine blk_drew ?_ | refine blk_alloc ?_ _)); exact BK245.out)) (below_size (by repeat (first | (with_reducible first | exact HB.out | apply below_alloc | apply pw_below_drewN | apply below_drew1 | refine below_set ?_ GE244.out | refine below_set ?_ GE245.out) | exact HB.out)))); have n2_ := Aside0.mk (blk_below (g := gb244) (o := .cells #[.slice A0 l0.length c0] 40 (0, 0)) (by (with_reducible repeat (first | refine blk_drewN ?_ _ | refine blk_drew ?_ | refine blk_alloc ?_ _)); exact BK244.out) hb); have n3_ := Aside0.mk (blk_below (g := gb245) (o := .cells #[.int .i64 a2] 3 (0, 0)) (by (with_reducible repeat (first | refine blk_drewN ?_ _ | refine blk_drew ?_ | refine blk_alloc ?_ _)); exact BK245.out) hb); have n4_ := Aside0.mk (below_step (by repeat (first | (with_reducible first | exact HB.out | apply below_alloc | apply pw_below_drewN | apply below_drew1 | refine below_set ?_ GE244.out | refine below_set ?_ GE245.out) | exact HB.out)) hb); clear HO0; clear BK244; clear BK245; clear HB; have HO0 := n0_; have HO248 := n1_; have BK244 := n2_; have BK245 := n3_; have HB := n4_; clear n0_ n1_ n2_ n3_ n4_; (try clear hb); (try clear hb2); (try clear hk); (try clear hi); (try clear ho0)))
 (try simp only [Act.put, List.setIfInBounds_toArray, List.set_cons_zero, List.set_cons_succ])
 go_cut [15] (fun v15 wc => ∃ (kq : Nat) (x15_4 : Bool), v15 = .bool x15_4 ∧ Aside0 (stripe_Stamp.j0 kq t246 x15_4 l0 a2 = some (r1, r2)) ∧ Aside0 (kq ≤ k) ∧ Aside0 (Kd.R (Kd.int .i64) 3 wc w.heap.size (fun k_ => (w.heap.size ≤ k_) ∧ k_ ≠ gb245) v247 t246) ∧ Aside0 (Kd.V k67 67 wc w.heap.size (fun k_ => (P0_ k_ ∨ w.heap.size ≤ k_) ∧ some k_ ≠ (v247 : Value).ownBlock ∧ k_ ≠ gb244 ∧ k_ ≠ gb245) (.slice A0 l0.length c0) l0) ∧ Aside0 (wc.heap[gb244]? = some (.cells #[(.slice A0 l0.length c0)] 40 (0, 0))) ∧ Aside0 (wc.heap[gb245]? = some (.cells #[.int .i64 a2] 3 (0, 0))) ∧ Aside0 (Below w.heap.size w wc))
 case first =>
  have H := HC5.out
  clear HC5
  replace H := Option.bind_eq_some_iff.mp H
  obtain ⟨t249, A110, H⟩ := H
  replace H : (if t249 = true then ((stripe_somebody.f a1).bind fun t250 => (stripe_Stamp.j0 k t246 (!t250) l0 a2)) else (stripe_Stamp.j0 k t246 true l0 a2)) = some (r1, r2) := H
  have A11 := Aside0.mk A110
  clear A110
  by_cases c12 : t249 = true
  · subst c12
    have H1 : ((stripe_somebody.f a1).bind fun t250 => (stripe_Stamp.j0 k t246 (!t250) l0 a2)) = some (r1, r2) := by rw [if_pos rfl] at H; exact H
    clear H
    have H := H1
    clear H1
    replace H := Option.bind_eq_some_iff.mp H
    obtain ⟨t250, A130, H⟩ := H
    replace H : (stripe_Stamp.j0 k t246 (!t250) l0 a2) = some (r1, r2) := H
    have A13 := Aside0.mk A130
    clear A130
    have H' := Aside0.mk H
    clear H
    have hnb14 := NB244_245.out
    have hnc14 := NB245_244.out
    have hcz15_0 : w10.cell? ⟨gb244, 0, none⟩ = some (.slice A0 l0.length c0) := (blk_cell BK244.out 0).trans rfl
    have hfz15_0 := blk_frozen BK244.out 0
    go_wp2_with (first | ((with_reducible refine gate_callee (f := 37) rfl ?_); refine goesL_ (some 17) rfl rfl Try.func37 (by kernel_rfl) rfl #[.slice A0 l0.length c0] rfl (by (try simp only [List.map_toArray, List.map_cons, List.map_nil]); first | done | rfl) ?_; (with_reducible refine (stripe_Right.calls _ _ l0 true _ ?side1 ?side2 A11.out).mono ?_); (case side1 => repeat (first | exact (Kd.V_reads' HO0.out).2.2 | with_reducible first | refine Kd.C_alloc ?_ _ | refine Kd.C_drewN ?_ _ | refine Kd.C_drew ?_)); (case side2 => exact (Kd.V_reads' HO0.out).2.1); rintro e w16 ⟨rfl, hb⟩; refine ⟨_, rfl, ?_⟩; have n0_ := Aside0.mk (Kd.V_below (by (with_reducible repeat (first | apply Kd.V_alloc | apply Kd.V_drewN | apply Kd.V_drew)); exact HO0.out) hb); have n1_ := Aside0.mk (Kd.R_below (by (with_reducible repeat (first | apply Kd.R_alloc | apply Kd.R_drewN | apply Kd.R_drew)); exact HO248.out) hb); have n2_ := Aside0.mk (blk_below (g := gb244) (o := .cells #[.slice A0 l0.length c0] 40 (0, 0)) (by (with_reducible repeat (first | refine blk_drewN ?_ _ | refine blk_drew ?_ | refine blk_alloc ?_ _)); exact BK244.out) hb); have n3_ := Aside0.mk (blk_below (g := gb245) (o := .cells #[.int .i64 a2] 3 (0, 0)) (by (with_reducible repeat (first | refine blk_drewN ?_ _ | refine blk_drew ?_ | refine blk_alloc ?_ _)); exact BK245.out) hb); have n4_ := Aside0.mk (below_step (by repeat (first | (with_reducible first | exact HB.out | apply below_alloc | apply pw_below_drewN | apply below_drew1 | refine below_set ?_ GE244.out | refine below_set ?_ GE245.out) | exact HB.out)) hb); clear HO0; clear HO248; clear BK244; clear BK245; clear HB; have HO0 := n0_; have HO248 := n1_; have BK244 := n2_; have BK245 := n3_; have HB := n4_; clear n0_ n1_ n2_ n3_ n4_; (try clear hb); (try clear hb2); (try clear hk); (try clear hi)) | (go_at_call 58; (with_reducible refine (stripe_somebody.calls a1 t250 _ A13.out).mono ?_); rintro e w' ⟨rfl, ⟨nd, rfl⟩⟩))
    go_meet
    case rel => exact ⟨_, (!t250), (by first | rfl | (simp; done) | (simp [*]; done)), H', ⟨by first | omega | exact Nat.le_refl _⟩, ⟨by (with_reducible repeat (first | apply Kd.R_alloc | apply Kd.R_drewN | apply Kd.R_drew)); exact Kd.R_mono HO248.out (fun _ hk => ⟨hk.1.1, hk.2⟩)⟩, ⟨by (with_reducible repeat (first | apply Kd.V_alloc | apply Kd.V_drewN | apply Kd.V_drew)); exact Kd.V_mono HO0.out (fun _ hk => ⟨hk.1.1.1, ⟨hk.2, ⟨hk.1.1.2, hk.1.2⟩⟩⟩)⟩, ⟨by (with_reducible repeat (first | refine blk_drewN ?_ _ | refine blk_drew ?_ | refine blk_alloc ?_ _)); exact BK244.out⟩, ⟨by (with_reducible repeat (first | refine blk_drewN ?_ _ | refine blk_drew ?_ | refine blk_alloc ?_ _)); exact BK245.out⟩, ⟨by repeat (first | (with_reducible first | exact HB.out | apply below_alloc | apply pw_below_drewN | apply below_drew1 | refine below_set ?_ GE244.out | refine below_set ?_ GE245.out) | exact HB.out)⟩⟩
  · replace c12 := Bool.eq_false_iff.mpr c12
    subst c12
    have H1 : (stripe_Stamp.j0 k t246 true l0 a2) = some (r1, r2) := by rw [if_neg (show ¬ (false = true) by decide)] at H; exact H
    clear H
    have H := H1
    clear H1
    have H' := Aside0.mk H
    clear H
    have hnb17 := NB244_245.out
    have hnc17 := NB245_244.out
    have hcz18_0 : w10.cell? ⟨gb244, 0, none⟩ = some (.slice A0 l0.length c0) := (blk_cell BK244.out 0).trans rfl
    have hfz18_0 := blk_frozen BK244.out 0
    go_wp2_with (first | ((with_reducible refine gate_callee (f := 37) rfl ?_); refine goesL_ (some 17) rfl rfl Try.func37 (by kernel_rfl) rfl #[.slice A0 l0.length c0] rfl (by (try simp only [List.map_toArray, List.map_cons, List.map_nil]); first | done | rfl) ?_; (with_reducible refine (stripe_Right.calls _ _ l0 false _ ?side1 ?side2 A11.out).mono ?_); (case side1 => repeat (first | exact (Kd.V_reads' HO0.out).2.2 | with_reducible first | refine Kd.C_alloc ?_ _ | refine Kd.C_drewN ?_ _ | refine Kd.C_drew ?_)); (case side2 => exact (Kd.V_reads' HO0.out).2.1); rintro e w19 ⟨rfl, hb⟩; refine ⟨_, rfl, ?_⟩; have n0_ := Aside0.mk (Kd.V_below (by (with_reducible repeat (first | apply Kd.V_alloc | apply Kd.V_drewN | apply Kd.V_drew)); exact HO0.out) hb); have n1_ := Aside0.mk (Kd.R_below (by (with_reducible repeat (first | apply Kd.R_alloc | apply Kd.R_drewN | apply Kd.R_drew)); exact HO248.out) hb); have n2_ := Aside0.mk (blk_below (g := gb244) (o := .cells #[.slice A0 l0.length c0] 40 (0, 0)) (by (with_reducible repeat (first | refine blk_drewN ?_ _ | refine blk_drew ?_ | refine blk_alloc ?_ _)); exact BK244.out) hb); have n3_ := Aside0.mk (blk_below (g := gb245) (o := .cells #[.int .i64 a2] 3 (0, 0)) (by (with_reducible repeat (first | refine blk_drewN ?_ _ | refine blk_drew ?_ | refine blk_alloc ?_ _)); exact BK245.out) hb); have n4_ := Aside0.mk (below_step (by repeat (first | (with_reducible first | exact HB.out | apply below_alloc | apply pw_below_drewN | apply below_drew1 | refine below_set ?_ GE244.out | refine below_set ?_ GE245.out) | exact HB.out)) hb); clear HO0; clear HO248; clear BK244; clear BK245; clear HB; have HO0 := n0_; have HO248 := n1_; have BK244 := n2_; have BK245 := n3_; have HB := n4_; clear n0_ n1_ n2_ n3_ n4_; (try clear hb); (try clear hb2); (try clear hk); (try clear hi)))
    go_meet
    case rel => exact ⟨_, (true), (by first | rfl | (simp; done) | (simp [*]; done)), H', ⟨by first | omega | exact Nat.le_refl _⟩, ⟨by (with_reducible repeat (first | apply Kd.R_alloc | apply Kd.R_drewN | apply Kd.R_drew)); exact Kd.R_mono HO248.out (fun _ hk => ⟨hk.1.1, hk.2⟩)⟩, ⟨by (with_reducible repeat (first | apply Kd.V_alloc | apply Kd.V_drewN | apply Kd.V_drew)); exact Kd.V_mono HO0.out (fun _ hk => ⟨hk.1.1.1, ⟨hk.2, ⟨hk.1.1.2, hk.1.2⟩⟩⟩)⟩, ⟨by (with_reducible repeat (first | refine blk_drewN ?_ _ | refine blk_drew ?_ | refine blk_alloc ?_ _)); exact BK244.out⟩, ⟨by (with_reducible repeat (first | refine blk_drewN ?_ _ | refine blk_drew ?_ | refine blk_alloc ?_ _)); exact BK245.out⟩, ⟨by repeat (first | (with_reducible first | exact HB.out | apply below_alloc | apply pw_below_drewN | apply below_drew1 | refine below_set ?_ GE244.out | refine below_set ?_ GE245.out) | exact HB.out)⟩⟩
 case rest =>
  clear HC5
  try clear c1
  try clear p2
  try clear c3
  try clear c4
  try clear c8
  try clear c12
  try clear c14
  try clear c17
  try clear hcz15_0
  try clear hcz18_0
  try clear hcz9_0
  try clear hfz15_0
  try clear hfz18_0
  try clear hfz9_0
  obtain ⟨kq, x15_4, rfl, HA, HJ4, HO_8, HO_245000, BK244, BK245, HB⟩ := hcut
  cases kq with
  | zero => exact absurd HA.out (by simp [stripe_Stamp.j0])
  | succ kj4 =>
   have H := HA.out
   clear HA
   simp only [stripe_Stamp.j0] at H
   by_cases c20 : x15_4 = true
   · subst c20
     have H1 : (some (l0, 1)) = some (r1, r2) := by rw [if_pos rfl] at H; exact H
     clear H
     have H := H1
     clear H1
     simp only [Option.some.injEq, Prod.mk.injEq] at H
     obtain ⟨rfl, rfl⟩ := H
     have hnb21 := NB244_245.out
     have hnc21 := NB245_244.out
     have hcz22_0 : wc.cell? ⟨gb244, 0, none⟩ = some (.slice A0 l0.length c0) := (blk_cell BK244.out 0).trans rfl
     have hfz22_0 := blk_frozen BK244.out 0
     go_wp2
     go_ret2
     exact ⟨_, by first | rfl | (simp [errW_none, errW_some] <;> rfl) | (simp [*, errW_none, errW_some] <;> rfl), by (with_reducible repeat (first | apply Kd.V_alloc | apply Kd.V_drewN | apply Kd.V_drew)); exact Kd.V_mono HO_245000.out (fun _ hk => hk.1), by repeat (first | (with_reducible first | exact HB.out | apply below_alloc | apply pw_below_drewN | apply below_drew1 | refine below_set ?_ GE244.out | refine below_set ?_ GE245.out) | exact HB.out)⟩
   · replace c20 := Bool.eq_false_iff.mpr c20
     subst c20
     have H1 : (if a2 < 0 then (some (l0, 6)) else (if a2 > 2147483647 then (some (l0, 6)) else ((any_at_stripe_Stamp_1.f t246 l0 a2).bind fun t251 => (if t251 = true then (some (l0, 6)) else ((slices_Clone_61.f l0).bind fun t252 => (stripe_Stamp.l0 kj4 t252 t246 (t246.length : Int) 0 a2)))))) = some (r1, r2) := by rw [if_neg (show ¬ (false = true) by decide)] at H; exact H
     clear H
     have H := H1
     clear H1
     by_cases c23 : a2 < 0
     · rw [if_pos c23] at H
       have c23b0 : decide (a2 < 0) = true := decide_eq_true c23
       clear c23
       simp only [Option.some.injEq, Prod.mk.injEq] at H
       obtain ⟨rfl, rfl⟩ := H
       have hnb24 := NB245_244.out
       have hnc24 := NB244_245.out
       have hcz25_0 : wc.cell? ⟨gb245, 0, none⟩ = some (.int .i64 a2) := (blk_cell BK245.out 0).trans rfl
       have hfz25_0 := blk_frozen BK245.out 0
       have hcz26_0 : wc.cell? ⟨gb244, 0, none⟩ = some (.slice A0 l0.length c0) := (blk_cell BK244.out 0).trans rfl
       have hfz26_0 := blk_frozen BK244.out 0
       go_wp2
       go_ret2
       exact ⟨_, by first | rfl | (simp [errW_none, errW_some] <;> rfl) | (simp [*, errW_none, errW_some] <;> rfl), by (with_reducible repeat (first | apply Kd.V_alloc | apply Kd.V_drewN | apply Kd.V_drew)); exact Kd.V_mono HO_245000.out (fun _ hk => hk.1), by repeat (first | (with_reducible first | exact HB.out | apply below_alloc | apply pw_below_drewN | apply below_drew1 | refine below_set ?_ GE244.out | refine below_set ?_ GE245.out) | exact HB.out)⟩
     · rw [if_neg c23] at H
       have c23b0 : decide (a2 < 0) = false := decide_eq_false c23
       clear c23
       by_cases c27 : a2 > 2147483647
       · rw [if_pos c27] at H
         have c27b0 : decide (2147483647 < a2) = true := decide_eq_true c27
         clear c27
         simp only [Option.some.injEq, Prod.mk.injEq] at H
         obtain ⟨rfl, rfl⟩ := H
         have hnb28 := NB245_244.out
         have hnc28 := NB244_245.out
         have hcz29_0 : wc.cell? ⟨gb245, 0, none⟩ = some (.int .i64 a2) := (blk_cell BK245.out 0).trans rfl
         have hfz29_0 := blk_frozen BK245.out 0
         have hcz30_0 : wc.cell? ⟨gb244, 0, none⟩ = some (.slice A0 l0.length c0) := (blk_cell BK244.out 0).trans rfl
         have hfz30_0 := blk_frozen BK244.out 0
         go_wp2
         go_ret2
         exact ⟨_, by first | rfl | (simp [errW_none, errW_some] <;> rfl) | (simp [*, errW_none, errW_some] <;> rfl), by (with_reducible repeat (first | apply Kd.V_alloc | apply Kd.V_drewN | apply Kd.V_drew)); exact Kd.V_mono HO_245000.out (fun _ hk => hk.1), by repeat (first | (with_reducible first | exact HB.out | apply below_alloc | apply pw_below_drewN | apply below_drew1 | refine below_set ?_ GE244.out | refine below_set ?_ GE245.out) | exact HB.out)⟩
       · rw [if_neg c27] at H
         have c27b0 : decide (2147483647 < a2) = false := decide_eq_false c27
         clear c27
         replace H := Option.bind_eq_some_iff.mp H
         obtain ⟨t251, A310, H⟩ := H
         replace H : (if t251 = true then (some (l0, 6)) else ((slices_Clone_61.f l0).bind fun t252 => (stripe_Stamp.l0 kj4 t252 t246 (t246.length : Int) 0 a2))) = some (r1, r2) := H
         have A31 := Aside0.mk A310
         clear A310
         by_cases c32 : t251 = true
         · subst c32
           have H1 : (some (l0, 6)) = some (r1, r2) := by rw [if_pos rfl] at H; exact H
           clear H
           have H := H1
           clear H1
           simp only [Option.some.injEq, Prod.mk.injEq] at H
           obtain ⟨rfl, rfl⟩ := H
           have hnb33 := NB245_244.out
           have hnc33 := NB244_245.out
           have hcz34_0 : wc.cell? ⟨gb245, 0, none⟩ = some (.int .i64 a2) := (blk_cell BK245.out 0).trans rfl
           have hfz34_0 := blk_frozen BK245.out 0
           obtain ⟨Ao35, co35, eo35⟩ := Kd.R_slice HO_8.out
           subst eo35
           go_wp2_with (first | (go_at_call 59; (with_reducible refine (any_at_stripe_Stamp_1.calls _ _ t246 gb244 A0 c0 l0 gb245 a2 true _ ?side1 ?side2 ?side3 ?side4 ?side5 ?side6 A31.out).mono ?_); (case side1 => repeat (first | exact (Kd.R_reads' HO_8.out).2.2 | with_reducible first | refine Kd.C_alloc ?_ _ | refine Kd.C_drewN ?_ _ | refine Kd.C_drew ?_)); (case side2 => exact (Kd.R_reads' HO_8.out).2.1); (case side3 => repeat (first | exact (Kd.V_reads' HO_245000.out).2.2 | with_reducible first | refine Kd.C_alloc ?_ _ | refine Kd.C_drewN ?_ _ | refine Kd.C_drew ?_)); (case side4 => exact (Kd.V_reads' HO_245000.out).2.1); (case side5 => exact (by (with_reducible repeat (first | refine blk_drewN ?_ _ | refine blk_drew ?_ | refine blk_alloc ?_ _)); exact BK244.out)); (case side6 => exact (by (with_reducible repeat (first | refine blk_drewN ?_ _ | refine blk_drew ?_ | refine blk_alloc ?_ _)); exact BK245.out)); rintro e w36 ⟨rfl, hb⟩; have n0_ := Aside0.mk (Kd.R_below (by (with_reducible repeat (first | apply Kd.R_alloc | apply Kd.R_drewN | apply Kd.R_drew)); exact HO_8.out) hb); have n1_ := Aside0.mk (Kd.V_below (by (with_reducible repeat (first | apply Kd.V_alloc | apply Kd.V_drewN | apply Kd.V_drew)); exact HO_245000.out) hb); have n2_ := Aside0.mk (blk_below (g := gb244) (o := .cells #[.slice A0 l0.length c0] 40 (0, 0)) (by (with_reducible repeat (first | refine blk_drewN ?_ _ | refine blk_drew ?_ | refine blk_alloc ?_ _)); exact BK244.out) hb); have n3_ := Aside0.mk (blk_below (g := gb245) (o := .cells #[.int .i64 a2] 3 (0, 0)) (by (with_reducible repeat (first | refine blk_drewN ?_ _ | refine blk_drew ?_ | refine blk_alloc ?_ _)); exact BK245.out) hb); have n4_ := Aside0.mk (below_step (by repeat (first | (with_reducible first | exact HB.out | apply below_alloc | apply pw_below_drewN | apply below_drew1 | refine below_set ?_ GE244.out | refine below_set ?_ GE245.out) | exact HB.out)) hb); clear HO_8; clear HO_245000; clear BK244; clear BK245; clear HB; have HO_8 := n0_; have HO_245000 := n1_; have BK244 := n2_; have BK245 := n3_; have HB := n4_; clear n0_ n1_ n2_ n3_ n4_; (try clear hb); (try clear hb2); (try clear hk); (try clear hi); have hcz37_0 : w36.cell? ⟨gb244, 0, none⟩ = some (.slice A0 l0.length c0) := (blk_cell BK244.out 0).trans rfl; have hfz37_0 := blk_frozen BK244.out 0))
           go_ret2
           exact ⟨_, by first | rfl | (simp [errW_none, errW_some] <;> rfl) | (simp [*, errW_none, errW_some] <;> rfl), by (with_reducible repeat (first | apply Kd.V_alloc | apply Kd.V_drewN | apply Kd.V_drew)); exact Kd.V_mono HO_245000.out (fun _ hk => hk.1), by repeat (first | (with_reducible first | exact HB.out | apply below_alloc | apply pw_below_drewN | apply below_drew1 | refine below_set ?_ GE244.out | refine below_set ?_ GE245.out) | exact HB.out)⟩
         · replace c32 := Bool.eq_false_iff.mpr c32
           subst c32
           have H1 : ((slices_Clone_61.f l0).bind fun t252 => (stripe_Stamp.l0 kj4 t252 t246 (t246.length : Int) 0 a2)) = some (r1, r2) := by rw [if_neg (show ¬ (false = true) by decide)] at H; exact H
           clear H
           have H := H1
           clear H1
           replace H := Option.bind_eq_some_iff.mp H
           obtain ⟨t252, A380, H⟩ := H
           replace H : (stripe_Stamp.l0 kj4 t252 t246 (t246.length : Int) 0 a2) = some (r1, r2) := H
           have A38 := Aside0.mk A380
           clear A380
           have H' := Aside0.mk H
           clear H
           have hnb39 := NB245_244.out
           have hnc39 := NB244_245.out
           have hcz40_0 : wc.cell? ⟨gb245, 0, none⟩ = some (.int .i64 a2) := (blk_cell BK245.out 0).trans rfl
           have hfz40_0 := blk_frozen BK245.out 0
           obtain ⟨Ao41, co41, eo41⟩ := Kd.R_slice HO_8.out
           subst eo41
           go_wp2_with (first | (go_at_call 59; (with_reducible refine (any_at_stripe_Stamp_1.calls _ _ t246 gb244 A0 c0 l0 gb245 a2 false _ ?side1 ?side2 ?side3 ?side4 ?side5 ?side6 A31.out).mono ?_); (case side1 => repeat (first | exact (Kd.R_reads' HO_8.out).2.2 | with_reducible first | refine Kd.C_alloc ?_ _ | refine Kd.C_drewN ?_ _ | refine Kd.C_drew ?_)); (case side2 => exact (Kd.R_reads' HO_8.out).2.1); (case side3 => repeat (first | exact (Kd.V_reads' HO_245000.out).2.2 | with_reducible first | refine Kd.C_alloc ?_ _ | refine Kd.C_drewN ?_ _ | refine Kd.C_drew ?_)); (case side4 => exact (Kd.V_reads' HO_245000.out).2.1); (case side5 => exact (by (with_reducible repeat (first | refine blk_drewN ?_ _ | refine blk_drew ?_ | refine blk_alloc ?_ _)); exact BK244.out)); (case side6 => exact (by (with_reducible repeat (first | refine blk_drewN ?_ _ | refine blk_drew ?_ | refine blk_alloc ?_ _)); exact BK245.out)); rintro e w42 ⟨rfl, hb⟩; have n0_ := Aside0.mk (Kd.R_below (by (with_reducible repeat (first | apply Kd.R_alloc | apply Kd.R_drewN | apply Kd.R_drew)); exact HO_8.out) hb); have n1_ := Aside0.mk (Kd.V_below (by (with_reducible repeat (first | apply Kd.V_alloc | apply Kd.V_drewN | apply Kd.V_drew)); exact HO_245000.out) hb); have n2_ := Aside0.mk (blk_below (g := gb244) (o := .cells #[.slice A0 l0.length c0] 40 (0, 0)) (by (with_reducible repeat (first | refine blk_drewN ?_ _ | refine blk_drew ?_ | refine blk_alloc ?_ _)); exact BK244.out) hb); have n3_ := Aside0.mk (blk_below (g := gb245) (o := .cells #[.int .i64 a2] 3 (0, 0)) (by (with_reducible repeat (first | refine blk_drewN ?_ _ | refine blk_drew ?_ | refine blk_alloc ?_ _)); exact BK245.out) hb); have n4_ := Aside0.mk (below_step (by repeat (first | (with_reducible first | exact HB.out | apply below_alloc | apply pw_below_drewN | apply below_drew1 | refine below_set ?_ GE244.out | refine below_set ?_ GE245.out) | exact HB.out)) hb); clear HO_8; clear HO_245000; clear BK244; clear BK245; clear HB; have HO_8 := n0_; have HO_245000 := n1_; have BK244 := n2_; have BK245 := n3_; have HB := n4_; clear n0_ n1_ n2_ n3_ n4_; (try clear hb); (try clear hb2); (try clear hk); (try clear hi); have hcz43_0 : w42.cell? ⟨gb244, 0, none⟩ = some (.slice A0 l0.length c0) := (blk_cell BK244.out 0).trans rfl; have hfz43_0 := blk_frozen BK244.out 0) | ((with_reducible refine gate_callee (f := 61) rfl ?_); refine goesL_ (some 39) rfl rfl Try.func61 (by kernel_rfl) rfl #[.slice A0 l0.length c0] rfl (by (try simp only [List.map_toArray, List.map_cons, List.map_nil]); first | done | rfl) ?_; (with_reducible refine (slices_Clone_61.calls _ _ l0 t252 _ ?side1 ?side2 A38.out).mono ?_); (case side1 => repeat (first | exact (Kd.V_reads' HO_245000.out).2.2 | with_reducible first | refine Kd.C_alloc ?_ _ | refine Kd.C_drewN ?_ _ | refine Kd.C_drew ?_)); (case side2 => exact (Kd.V_reads' HO_245000.out).2.1); rintro e w44 ⟨v253, rfl, ho0, hb⟩; refine ⟨_, rfl, ?_⟩; have n0_ := Aside0.mk (Kd.R_below (by (with_reducible repeat (first | apply Kd.R_alloc | apply Kd.R_drewN | apply Kd.R_drew)); exact HO_8.out) hb); have n1_ := Aside0.mk (Kd.V_elder' (by (with_reducible repeat (first | apply Kd.V_alloc | apply Kd.V_drewN | apply Kd.V_drew)); exact HO_245000.out) (Kd.R_base ho0) hb); have n2_ := Aside0.mk (Kd.R_lower (Kd.R_newM (M := fun k_ => (w.heap.size ≤ k_)) ho0 (below_size (by repeat (first | (with_reducible first | exact HB.out | apply below_alloc | apply pw_below_drewN | apply below_drew1 | refine below_set ?_ GE244.out | refine below_set ?_ GE245.out) | exact HB.out))) (fun k_ h_ => h_)) (below_size (by repeat (first | (with_reducible first | exact HB.out | apply below_alloc | apply pw_below_drewN | apply below_drew1 | refine below_set ?_ GE244.out | refine below_set ?_ GE245.out) | exact HB.out)))); have n3_ := Aside0.mk (blk_below (g := gb244) (o := .cells #[.slice A0 l0.length c0] 40 (0, 0)) (by (with_reducible repeat (first | refine blk_drewN ?_ _ | refine blk_drew ?_ | refine blk_alloc ?_ _)); exact BK244.out) hb); have n4_ := Aside0.mk (blk_below (g := gb245) (o := .cells #[.int .i64 a2] 3 (0, 0)) (by (with_reducible repeat (first | refine blk_drewN ?_ _ | refine blk_drew ?_ | refine blk_alloc ?_ _)); exact BK245.out) hb); have n5_ := Aside0.mk (below_step (by repeat (first | (with_reducible first | exact HB.out | apply below_alloc | apply pw_below_drewN | apply below_drew1 | refine below_set ?_ GE244.out | refine below_set ?_ GE245.out) | exact HB.out)) hb); clear HO_8; clear HO_245000; clear BK244; clear BK245; clear HB; have HO_8 := n0_; have HO_245000 := n1_; have HO254 := n2_; have BK244 := n3_; have BK245 := n4_; have HB := n5_; clear n0_ n1_ n2_ n3_ n4_ n5_; (try clear hb); (try clear hb2); (try clear hk); (try clear hi); (try clear ho0)))
           go_loopg [42] kj4 (fun kq v42 w' => ∃ (x9_2 : List (S67)) (x42_2 : Int), v42 = .int .i64 x42_2 ∧ Aside0 (stripe_Stamp.l0 kq x9_2 t246 (t246.length : Int) x42_2 a2 = some (r1, r2)) ∧ Aside0 (kq ≤ kj4) ∧ Aside0 (Kd.R k67 67 w' w.heap.size (fun k_ => (w.heap.size ≤ k_)) v253 x9_2) ∧ Aside0 (Kd.R (Kd.int .i64) 3 w' w.heap.size (fun k_ => (w.heap.size ≤ k_) ∧ k_ ≠ gb245) (.slice Ao41 t246.length co41) t246) ∧ Aside0 (Kd.V k67 67 w' w.heap.size (fun k_ => (P0_ k_ ∨ w.heap.size ≤ k_) ∧ some k_ ≠ (v253 : Value).ownBlock ∧ some k_ ≠ ((.slice Ao41 t246.length co41) : Value).ownBlock ∧ k_ ≠ gb244 ∧ k_ ≠ gb245) (.slice A0 l0.length c0) l0) ∧ Aside0 (w'.heap[gb244]? = some (.cells #[(.slice A0 l0.length c0)] 40 (0, 0))) ∧ Aside0 (w'.heap[gb245]? = some (.cells #[.int .i64 a2] 3 (0, 0))) ∧ Aside0 (Below w.heap.size w w'))
           case atStart => exact ⟨(t252), (0), (by first | rfl | (simp; done) | (simp [*]; done)), H', ⟨Nat.le_refl _⟩, ⟨by (with_reducible repeat (first | apply Kd.R_alloc | apply Kd.R_drewN | apply Kd.R_drew)); exact Kd.R_mono HO254.out (fun _ hk => hk.1)⟩, ⟨by (with_reducible repeat (first | apply Kd.R_alloc | apply Kd.R_drewN | apply Kd.R_drew)); exact HO_8.out⟩, ⟨by (with_reducible repeat (first | apply Kd.V_alloc | apply Kd.V_drewN | apply Kd.V_drew)); exact Kd.V_mono HO_245000.out (fun _ hk => ⟨hk.1.1, ⟨hk.2, ⟨hk.1.2.1, ⟨hk.1.2.2.1, hk.1.2.2.2⟩⟩⟩⟩)⟩, ⟨by (with_reducible repeat (first | refine blk_drewN ?_ _ | refine blk_drew ?_ | refine blk_alloc ?_ _)); exact BK244.out⟩, ⟨by (with_reducible repeat (first | refine blk_drewN ?_ _ | refine blk_drew ?_ | refine blk_alloc ?_ _)); exact BK245.out⟩, ⟨by repeat (first | (with_reducible first | exact HB.out | apply below_alloc | apply pw_below_drewN | apply below_drew1 | refine below_set ?_ GE244.out | refine below_set ?_ GE245.out) | exact HB.out)⟩⟩
           case round =>
            clear H'
            try clear c1
            try clear c2
            try clear p2
            try clear c3
            try clear c4
            try clear c6
            try clear c8
            try clear c12
            try clear c14
            try clear c17
            try clear c20
            try clear c21
            try clear c23
            try clear c23b0
            try clear c24
            try clear c27
            try clear c27b0
            try clear c28
            try clear c32
            try clear c33
            try clear c37
            try clear c39
            try clear c40
            try clear hcz15_0
            try clear hcz18_0
            try clear hcz22_0
            try clear hcz25_0
            try clear hcz26_0
            try clear hcz29_0
            try clear hcz30_0
            try clear hcz34_0
            try clear hcz37_0
            try clear hcz40_0
            try clear hcz43_0
            try clear hcz9_0
            try clear hfz15_0
            try clear hfz18_0
            try clear hfz22_0
            try clear hfz25_0
            try clear hfz26_0
            try clear hfz29_0
            try clear hfz30_0
            try clear hfz34_0
            try clear hfz37_0
            try clear hfz40_0
            try clear hfz43_0
            try clear hfz9_0
            try clear p2
            obtain ⟨x9_2, x42_2, rfl, HA, HK2, HO_9, HO_40, HO_245000, BK244, BK245, HB⟩ := hrel
            cases gk with
            | zero => exact absurd HA.out (by simp [stripe_Stamp.l0])
            | succ k2 =>
             have H := HA.out
             clear HA
             simp only [stripe_Stamp.l0] at H
             by_cases c45 : x42_2 < (t246.length : Int)
             · rw [if_pos c45] at H
               have c45b0 : decide (x42_2 < (t246.length : Int)) = true := decide_eq_true c45
               clear c45
               by_cases c46 : 0 ≤ x42_2
               · rw [if_pos c46] at H
                 have c46b0 : decide (0 ≤ x42_2) = true := decide_eq_true c46
                 clear c46
                 by_cases c47 : x42_2 < (t246.length : Int)
                 · rw [if_pos c47] at H
                   have c47b0 : decide (x42_2 < (t246.length : Int)) = true := decide_eq_true c47
                   clear c47
                   by_cases c48 : 0 ≤ (rd t246 x42_2)
                   · rw [if_pos c48] at H
                     have c48b0 : decide (0 ≤ (rd t246 x42_2)) = true := decide_eq_true c48
                     clear c48
                     by_cases c49 : (rd t246 x42_2) < (x9_2.length : Int)
                     · rw [if_pos c49] at H
                       have c49b0 : decide ((rd t246 x42_2) < (x9_2.length : Int)) = true := decide_eq_true c49
                       clear c49
                       obtain ⟨y256, hy256⟩ : ∃ y_ : List (S67), y_ = (x9_2.set ((rd t246 x42_2) : Int).toNat (⟨a2, 0⟩ : S67)) := ⟨_, rfl⟩
                       replace H : (stripe_Stamp.l0 k2 y256 t246 (t246.length : Int) (wrap64 (x42_2 + 1)) a2) = some (r1, r2) := by first | (rw [hy256]; with_reducible exact H) | (have H2_ := (Option.bind_some _ _).symm.trans H; rw [hy256]; with_reducible exact H2_) | (have H2_ := (Option.bind_some _ _).symm.trans H; with_reducible exact H2_) | with_reducible exact H | (rw [hy256]; exact H) | exact H
                       have Ny256 := Aside0.mk hy256
                       clear hy256
                       have H' := Aside0.mk H
                       clear H
                       have p255 : 0 ≤ (x42_2 : Int) := of_decide_eq_true (by first | (with_reducible assumption) | assumption)
                       have q255 : x42_2 < (t246.length : Int) := of_decide_eq_true (by first | (with_reducible assumption) | assumption)
                       obtain ⟨ad255, e255, hx255_0⟩ := Kd.at_int (Kd.R_reads' HO_40.out).2.2 x42_2 p255 q255
                       cases e255
                       replace p255 := eq_true p255
                       replace q255 := eq_true q255
                       have hnb51 := NB245_244.out
                       have hnc51 := NB244_245.out
                       have hcz52_0 : wr.cell? ⟨gb245, 0, none⟩ = some (.int .i64 a2) := (blk_cell BK245.out 0).trans rfl
                       have hfz52_0 := blk_frozen BK245.out 0
                       have p50 : 0 ≤ ((rd t246 x42_2) : Int) := of_decide_eq_true (by first | (with_reducible assumption) | assumption)
                       have q50 : ((rd t246 x42_2) : Int) < ((x9_2.length : Int) : Int) := of_decide_eq_true (by first | (with_reducible assumption) | assumption)
                       obtain ⟨go50, co50, eo50, gb50, gl50, cl50, HG50⟩ := Kd.R_form HO_9.out (by omega)
                       (first | cases eo50 | (injection eo50 with ea_ en_ ec_; (first | subst ea_ | (injection ea_ with ea_; subst ea_)); subst ec_; clear en_))
                       have GB50 := Aside0.mk gb50
                       have GG50 := Aside0.mk HG50
                       clear gb50 gl50 HG50
                       obtain ⟨ce50, hcl50, hM50, hcc50, hfr50⟩ := Kd.R_elem HO_9.out z67 ((rd t246 x42_2) : Int) p50 q50
                       obtain rfl := k67_openM hM50
                       have hx50_0 : wr.cell? ⟨go50, ((rd t246 x42_2) : Int).toNat * 2, none⟩ = some (.int .i64 ((rd_T67 x9_2 (rd t246 x42_2)).f0)) := hcc50 0 _ rfl
                       have hx50_1 : wr.cell? ⟨go50, ((rd t246 x42_2) : Int).toNat * 2 + 1, none⟩ = some (.int .i64 ((rd_T67 x9_2 (rd t246 x42_2)).f1)) := hcc50 1 _ rfl
                       have hf50_0 : wr.frozen? ⟨go50, ((rd t246 x42_2) : Int).toNat * 2, none⟩ = false := hfr50 0
                       have hf50_1 : wr.frozen? ⟨go50, ((rd t246 x42_2) : Int).toNat * 2 + 1, none⟩ = false := hfr50 1
                       clear hcl50 hcc50 hfr50 hM50
                       replace p50 := eq_true p50
                       replace q50 := eq_true q50
                       have HX53 := Aside0.mk (show Kd.R k67 67 wr w.heap.size (fun k_ => (w.heap.size ≤ k_)) (.slice (some ⟨go50, 0, none⟩) x9_2.length co50) x9_2 from (by (with_reducible repeat (first | apply Kd.R_alloc | apply Kd.R_drewN | apply Kd.R_drew)); exact HO_9.out))
                       obtain ⟨ce53, hcl53, hM53, hcc53, hfr53⟩ := Kd.R_elem HX53.out z67 ((rd t246 x42_2) : Int) (of_decide_eq_true (by first | (with_reducible assumption) | assumption)) (by have h_ : ((rd t246 x42_2) : Int) < ((x9_2.length : Int) : Int) := of_decide_eq_true (by first | (with_reducible assumption) | assumption); first | exact h_ | (have e_ := (Kd.R_reads' HO_9.out).1; omega) | simpa using h_)
                       obtain rfl := k67_openM hM53
                       have HP53 := Kd.R_seg HX53.out ((rd t246 x42_2) : Int) (of_decide_eq_true (by first | (with_reducible assumption) | assumption)) (by have h_ : ((rd t246 x42_2) : Int) < ((x9_2.length : Int) : Int) := of_decide_eq_true (by first | (with_reducible assumption) | assumption); first | exact h_ | (have e_ := (Kd.R_reads' HO_9.out).1; omega) | simpa using h_) (seg := [.int .i64 a2, .int .i64 0]) (j := 0) hcl53 hcc53 (show 2 ≤ 2 from by decide) (x' := (⟨a2, 0⟩ : S67)) (k67_mkM _ _ _ (⟨a2, 0⟩ : S67) ) (fun _ hk => hk)
                       have hx53_0 := hcc53 0 _ rfl
                       (try simp only [show (k67).sz = 2 from rfl, Nat.mul_one, Nat.add_zero] at hx53_0)
                       have hf53_0 := hfr53 0
                       (try simp only [show (k67).sz = 2 from rfl, Nat.mul_one, Nat.add_zero] at hf53_0)
                       have hx53_1 := hcc53 1 _ rfl
                       (try simp only [show (k67).sz = 2 from rfl, Nat.mul_one, Nat.add_zero] at hx53_1)
                       have hf53_1 := hfr53 1
                       (try simp only [show (k67).sz = 2 from rfl, Nat.mul_one, Nat.add_zero] at hf53_1)
                       clear hcl53 hcc53 hfr53 hM53
                       go_wp2_with (first | ((with_reducible refine gate_store (t := 67) (p := 50) rfl ?_); refine store_event (t := 67) (p := 50) (v := ?vo_w54) (w1 := ((wr.setCell ⟨go50, ((rd t246 x42_2) : Int).toNat * 2, none⟩ (.int .i64 a2)).setCell ⟨go50, ((rd t246 x42_2) : Int).toNat * 2 + 1, none⟩ (.int .i64 0))) ?hg ?ho ?hn ?hr ?_; (case ho => rfl); (case hg => rfl); (case hn => rfl); (case hr => first | (go_simp; done) | (go_simp; rfl)); intro w54 hw; have hg : wr.grownBy w54 (some go50) := (by rw [hw]; exact HP53.2); have hp_ : Kd.R k67 67 w54 w.heap.size (fun k_ => (w.heap.size ≤ k_)) (.slice (some ⟨go50, 0, none⟩) x9_2.length co50) y256 := (by rw [hw, Ny256.out]; exact HP53.1); clear HP53; have n0_ := Aside0.mk (hp_); have n1_ := Aside0.mk (Kd.R_over' (v := (.slice (some ⟨go50, 0, none⟩) x9_2.length co50)) (by (with_reducible repeat (first | apply Kd.R_alloc | apply Kd.R_drewN | apply Kd.R_drew)); exact HO_40.out) (Kd.R_typed HO_9.out) (by decide) hg); have n2_ := Aside0.mk (Kd.V_afterv (v := (.slice (some ⟨go50, 0, none⟩) x9_2.length co50)) (v1 := (.slice (some ⟨go50, 0, none⟩) x9_2.length co50)) (ok := (fun k_ => (P0_ k_ ∨ w.heap.size ≤ k_) ∧ some k_ ≠ (.slice (some ad255) t246.length co41 : Value).ownBlock ∧ k_ ≠ gb244 ∧ k_ ≠ gb245)) (by (with_reducible repeat (first | apply Kd.V_alloc | apply Kd.V_drewN | apply Kd.V_drew)); exact Kd.V_mono HO_245000.out (fun _ hk => ⟨⟨hk.1, ⟨hk.2.2.1, ⟨hk.2.2.2.1, hk.2.2.2.2⟩⟩⟩, hk.2.1⟩)) hg (.inl rfl)); have n3_ := Aside0.mk (blk_grown (g := gb244) (o := .cells #[.slice A0 l0.length c0] 40 (0, 0)) (by (with_reducible repeat (first | refine blk_drewN ?_ _ | refine blk_drew ?_ | refine blk_alloc ?_ _)); exact BK244.out) hg (Kd.R_ne HO_9.out BK244.out (by decide))); have n4_ := Aside0.mk (blk_grown (g := gb245) (o := .cells #[.int .i64 a2] 3 (0, 0)) (by (with_reducible repeat (first | refine blk_drewN ?_ _ | refine blk_drew ?_ | refine blk_alloc ?_ _)); exact BK245.out) hg (Kd.R_ne HO_9.out BK245.out (by decide))); have n5_ := Aside0.mk ((by rw [hw]; exact below_set (below_set (HB.out) GB50.out) GB50.out : Below w.heap.size w w54)); clear HO_9; clear HO_40; clear HO_245000; clear BK244; clear BK245; clear HB; have HO_9 := n0_; have HO_40 := n1_; have HO_245000 := n2_; have BK244 := n3_; have BK245 := n4_; have HB := n5_; clear n0_ n1_ n2_ n3_ n4_ n5_; clear hg hw hp_))
                       go_roundg k2
                       case measure => have := HJ4.out; have := HK2.out; omega
                       case rel => exact ⟨(y256), (wrap64 (x42_2 + 1)), (by first | rfl | (simp; done) | (simp [*]; done)), H', ⟨by have := HJ4.out; have := HK2.out; omega⟩, ⟨by (with_reducible repeat (first | apply Kd.R_alloc | apply Kd.R_drewN | apply Kd.R_drew)); exact HO_9.out⟩, ⟨by (with_reducible repeat (first | apply Kd.R_alloc | apply Kd.R_drewN | apply Kd.R_drew)); exact HO_40.out⟩, ⟨by (with_reducible repeat (first | apply Kd.V_alloc | apply Kd.V_drewN | apply Kd.V_drew)); exact Kd.V_mono HO_245000.out (fun _ hk => ⟨hk.1.1, ⟨hk.2, ⟨hk.1.2.1, ⟨hk.1.2.2.1, hk.1.2.2.2⟩⟩⟩⟩)⟩, ⟨by (with_reducible repeat (first | refine blk_drewN ?_ _ | refine blk_drew ?_ | refine blk_alloc ?_ _)); exact BK244.out⟩, ⟨by (with_reducible repeat (first | refine blk_drewN ?_ _ | refine blk_drew ?_ | refine blk_alloc ?_ _)); exact BK245.out⟩, ⟨by repeat (first | (with_reducible first | exact HB.out | apply below_alloc | apply pw_below_drewN | apply below_drew1 | refine below_set ?_ GE244.out | refine below_set ?_ GE245.out) | exact HB.out)⟩⟩
                     · rw [if_neg c49] at H
                       exact absurd H (by simp)
                   · rw [if_neg c48] at H
                     exact absurd H (by simp)
                 · rw [if_neg c47] at H
                   exact absurd H (by simp)
               · rw [if_neg c46] at H
                 exact absurd H (by simp)
             · rw [if_neg c45] at H
               have c45b0 : decide (x42_2 < (t246.length : Int)) = false := decide_eq_false c45
               clear c45
               simp only [Option.some.injEq, Prod.mk.injEq] at H
               obtain ⟨rfl, rfl⟩ := H
               go_wp2
               go_ret2
               exact ⟨_, by first | rfl | (simp [errW_none, errW_some] <;> rfl) | (simp [*, errW_none, errW_some] <;> rfl), Kd.V_mono (Kd.R_V (by (with_reducible repeat (first | apply Kd.R_alloc | apply Kd.R_drewN | apply Kd.R_drew)); exact HO_9.out)) (fun k_ hk => by first | exact ⟨(.inr (hk.1)), hk.2⟩ | exact (.inr (hk))), by repeat (first | (with_reducible first | exact HB.out | apply below_alloc | apply pw_below_drewN | apply below_drew1 | refine below_set ?_ GE244.out | refine below_set ?_ GE245.out) | exact HB.out)⟩

/-! ### wfS24 -/
def wfS24 (x : S24) : Prop := (Lit.int .i64 x.f0).wf = true ∧ (Lit.int .i64 x.f1).wf = true ∧ (Lit.int .i64 x.f2).wf = true

/-! ### wfS67 -/
def wfS67 (x : S67) : Prop := (Lit.int .i64 x.f0).wf = true ∧ (Lit.int .i64 x.f1).wf = true

end Go.Proofs.Ytlfmobnmohnjmaa.Rs
