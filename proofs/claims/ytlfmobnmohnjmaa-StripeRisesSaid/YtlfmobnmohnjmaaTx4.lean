-- PRINTED by print.py (a twelfth state) out of the translation. Not trusted: Lean checks it.
import Derived.Test.YtlfmobnmohnjmaaTx0
import Derived.Test.YtlfmobnmohnjmaaTx1
import Derived.Test.YtlfmobnmohnjmaaTx2
import Derived.Test.YtlfmobnmohnjmaaTx3
namespace Go.Proofs.Ytlfmobnmohnjmaa.T
open Go.Proofs.Ytlfmobnmohnjmaa.Ho
open Go.RowKit Go.Proofs.YtlfmobnmohnjmaaW.PrintWords Go.Proofs.YtlfmobnmohnjmaaW.PrintLast Go.Proofs.YtlfmobnmohnjmaaW.PrintMore
attribute [local go_sem] max2_int min2_int max_two min_two max_three min_three max_four min_four   -- for this text's walks alone
set_option linter.unusedVariables false
set_option linter.unusedSimpArgs false

attribute [local go_sem high] eqA67
/-! ### stripe_Stamp: function 32 -/
mutual
def stripe_Stamp.j0 : Nat → List Int → Bool → List (S67) → Int → Option ((List (S67)) × Int)
 | 0, _, _, _, _ => none
 | k + 1, x8, x15, x145000, x146000 => if x15 = true then (some (x145000, 1)) else (if x146000 < 0 then (some (x145000, 6)) else (if x146000 > 2147483647 then (some (x145000, 6)) else ((any_at_stripe_Stamp_1.f x8 x145000 x146000).bind fun t151 => (if t151 = true then (some (x145000, 6)) else ((slices_Clone.f x145000).bind fun t152 => (stripe_Stamp.l0 k t152 x8 (x8.length : Int) 0 x146000))))))
def stripe_Stamp.l0 : Nat → List (S67) → List Int → Int → Int → Int → Option ((List (S67)) × Int)
 | 0, _, _, _, _, _ => none
 | k + 1, x9, x40, x41, x42, x146000 => if x42 < x41 then (if 0 ≤ x42 then (if x42 < (x40.length : Int) then (if 0 ≤ (rd x40 x42) then (if (rd x40 x42) < (x9.length : Int) then (stripe_Stamp.l0 k (x9.set ((rd x40 x42) : Int).toNat (⟨x146000, 0⟩ : S67)) x40 x41 (wrap64 (x42 + 1)) x146000) else (none)) else (none)) else (none)) else (none)) else (some (x9, 0))
end
def stripe_Stamp.f (k : Nat) (l0 : List (S67)) (a1 : Int) (a2 : Int) : Option ((List (S67)) × Int) := (stripe_Held.f k l0 a1).bind fun t146 => ((stripe_Right.f l0).bind fun t149 => (if t149 = true then ((stripe_somebody.f a1).bind fun t150 => (stripe_Stamp.j0 k t146 (!t150) l0 a2)) else (stripe_Stamp.j0 k t146 true l0 a2)))
theorem stripe_Stamp.mono_l : ∀ k, (∀ y0 y1 y2 y3, LeO (stripe_Stamp.j0 k y0 y1 y2 y3) (stripe_Stamp.j0 (k + 1) y0 y1 y2 y3)) ∧ (∀ y0 y1 y2 y3 y4, LeO (stripe_Stamp.l0 k y0 y1 y2 y3 y4) (stripe_Stamp.l0 (k + 1) y0 y1 y2 y3 y4))
 | 0 => ⟨fun _ _ _ _ r h => by simp [stripe_Stamp.j0] at h, fun _ _ _ _ _ r h => by simp [stripe_Stamp.l0] at h⟩
 | k + 1 => by
  obtain ⟨ih0, ih1⟩ := stripe_Stamp.mono_l k
  refine ⟨?_, ?_⟩
  · intro y0 y1 y2 y3
    unfold stripe_Stamp.j0
    repeat' first
    | (with_reducible exact ih0 _ _ _ _)
    | (with_reducible exact ih1 _ _ _ _ _)
    | (with_reducible exact stripe_Held.mono _ _ _)
    | (with_reducible exact LeO.refl _)
    | (with_reducible exact LeO.none _)
    | (with_reducible refine LeO.ite ?_ ?_)
    | (with_reducible refine LeO.bind ?_ (fun _ => ?_))
    | exact ih0 _ _ _ _
    | exact ih1 _ _ _ _ _
    | exact stripe_Held.mono _ _ _
    | exact LeO.none _
    | refine LeO.ite ?_ ?_
    | refine LeO.bind ?_ (fun _ => ?_)
  · intro y0 y1 y2 y3 y4
    unfold stripe_Stamp.l0
    repeat' first
    | (with_reducible exact ih0 _ _ _ _)
    | (with_reducible exact ih1 _ _ _ _ _)
    | (with_reducible exact stripe_Held.mono _ _ _)
    | (with_reducible exact LeO.refl _)
    | (with_reducible exact LeO.none _)
    | (with_reducible refine LeO.ite ?_ ?_)
    | (with_reducible refine LeO.bind ?_ (fun _ => ?_))
    | exact ih0 _ _ _ _
    | exact ih1 _ _ _ _ _
    | exact stripe_Held.mono _ _ _
    | exact LeO.none _
    | refine LeO.ite ?_ ?_
    | refine LeO.bind ?_ (fun _ => ?_)
theorem stripe_Stamp.mono : ∀ a0 a1 a2 k, LeO (stripe_Stamp.f k a0 a1 a2) (stripe_Stamp.f (k + 1) a0 a1 a2) := by
 intro a0 a1 a2 k
 obtain ⟨ih0, ih1⟩ := stripe_Stamp.mono_l k
 unfold stripe_Stamp.f
 repeat' first
  | (with_reducible exact ih0 _ _ _ _)
  | (with_reducible exact ih1 _ _ _ _ _)
  | (with_reducible exact stripe_Held.mono _ _ _)
  | (with_reducible exact LeO.refl _)
  | (with_reducible exact LeO.none _)
  | (with_reducible refine LeO.ite ?_ ?_)
  | (with_reducible refine LeO.bind ?_ (fun _ => ?_))
  | exact ih0 _ _ _ _
  | exact ih1 _ _ _ _ _
  | exact stripe_Held.mono _ _ _
  | exact LeO.none _
  | refine LeO.ite ?_ ?_
  | refine LeO.bind ?_ (fun _ => ?_)
set_option maxHeartbeats 8000000 in
set_option maxRecDepth 100000 in
theorem stripe_Stamp.calls (k : Nat) (P0_ : Nat → Prop) (A0 : Option Addr) (c0 : Nat) (l0 : List (S67)) (a1 : Int) (a2 : Int) (r1 : List (S67)) (r2 : Int) (w : World) (hs0 : Kd.V k67 67 w w.heap.size (fun k_ => P0_ k_) (.slice A0 l0.length c0) l0) (h : stripe_Stamp.f k l0 a1 a2 = some (r1, r2)) :
 Calls Try.prog 32 #[.slice A0 l0.length c0, .int .i64 a1, .int .i64 a2] w fun e w' => ∃ v0_ : Value, e = .returned (.tuple #[v0_, .int .i64 r2]) ∧ Kd.V k67 67 w' w.heap.size (fun k_ => (P0_ k_ ∨ w.heap.size ≤ k_)) v0_ r1 ∧ Below w.heap.size w w' := by
 have hu67 := Try.underlying67
 have HO0 := Aside0.mk (show Kd.V k67 67 w w.heap.size (fun k_ => (P0_ k_ ∨ w.heap.size ≤ k_)) (.slice A0 l0.length c0) l0 from Kd.V_mono hs0 (fun k_ hk => .inl hk))
 have HB := Aside0.mk (Below.refl w.heap.size w)
 have H : ((stripe_Held.f k l0 a1).bind fun t146 => ((stripe_Right.f l0).bind fun t149 => (if t149 = true then ((stripe_somebody.f a1).bind fun t150 => (stripe_Stamp.j0 k t146 (!t150) l0 a2)) else (stripe_Stamp.j0 k t146 true l0 a2)))) = some (r1, r2) := h
 clear h
 replace H := Option.bind_eq_some_iff.mp H
 obtain ⟨t146, A40, H⟩ := H
 replace H : ((stripe_Right.f l0).bind fun t149 => (if t149 = true then ((stripe_somebody.f a1).bind fun t150 => (stripe_Stamp.j0 k t146 (!t150) l0 a2)) else (stripe_Stamp.j0 k t146 true l0 a2))) = some (r1, r2) := H
 have A4 := Aside0.mk A40
 clear A40
 have HC5 := Aside0.mk H
 clear H
 go_enter Try.func32, Try.ntmps32
 go_upto_region 2 with (first | ((with_reducible refine gate_dst (N := 3) rfl ?_); refine box_event ?hg (N := 3) ?hd (cs := #[.slice A0 l0.length c0]) (t := 40) ?hr ?_; (case hd => rfl); (case hg => rfl); (case hr => first | (go_simp; done) | (go_simp; rfl)); intro gb144 hg w6 hbox hb; have n0_ := Aside0.mk (Kd.V_below (Kd.V_elderB (by (with_reducible repeat (first | apply Kd.V_alloc | apply Kd.V_drewN | apply Kd.V_drew)); exact HO0.out) gb144 (Nat.le_of_eq hg.symm)) hb); have n1_ := Aside0.mk (bst_ hb); have n2_ := Aside0.mk (hbox); have n3_ := Aside0.mk ((by rw [hg]; exact bsz_ : w.heap.size ≤ gb144)); have n4_ := n3_; clear HO0; clear HB; have HO0 := n0_; have HB := n1_; have BK144 := n2_; have GW144 := n3_; have GE144 := n4_; clear n0_ n1_ n2_ n3_ n4_; clear hb hbox hg) | ((with_reducible refine gate_dst (N := 5) rfl ?_); refine box_event ?hg (N := 5) ?hd (cs := #[.int .i64 a2]) (t := 3) ?hr ?_; (case hd => rfl); (case hg => rfl); (case hr => first | (go_simp; done) | (go_simp; rfl)); intro gb145 hg w7 hbox hb; have n0_ := Aside0.mk (Kd.V_below (Kd.V_elderB (by (with_reducible repeat (first | apply Kd.V_alloc | apply Kd.V_drewN | apply Kd.V_drew)); exact HO0.out) gb145 (Nat.le_of_eq hg.symm)) hb); have n1_ := Aside0.mk (blk_below (g := gb144) (o := .cells #[.slice A0 l0.length c0] 40 (0, 0)) (by (with_reducible repeat (first | refine blk_drewN ?_ _ | refine blk_drew ?_ | refine blk_alloc ?_ _)); exact BK144.out) hb); have n2_ := Aside0.mk (below_step (by repeat (with_reducible first | exact HB.out | apply below_alloc | apply pw_below_drewN | apply below_drew1 | refine below_set ?_ GE144.out)) hb); have n3_ := Aside0.mk (hbox); have n4_ := Aside0.mk ((by rw [hg]; exact (below_size (by repeat (with_reducible first | exact HB.out | apply below_alloc | apply pw_below_drewN | apply below_drew1 | refine below_set ?_ GE144.out))) : w.heap.size ≤ gb145)); have n5_ := n4_; have n6_ := Aside0.mk ((by rw [hg]; exact Nat.ne_of_lt (blk_lt (g := gb144) (o := .cells #[.slice A0 l0.length c0] 40 (0, 0)) (by (with_reducible repeat (first | refine blk_drewN ?_ _ | refine blk_drew ?_ | refine blk_alloc ?_ _)); exact BK144.out)) : gb144 ≠ gb145)); have n7_ := Aside0.mk ((by rw [hg]; exact Nat.ne_of_gt (blk_lt (g := gb144) (o := .cells #[.slice A0 l0.length c0] 40 (0, 0)) (by (with_reducible repeat (first | refine blk_drewN ?_ _ | refine blk_drew ?_ | refine blk_alloc ?_ _)); exact BK144.out)) : gb145 ≠ gb144)); clear HO0; clear BK144; clear HB; have HO0 := n0_; have BK144 := n1_; have HB := n2_; have BK145 := n3_; have GW145 := n4_; have GE145 := n5_; have NB144_145 := n6_; have NB145_144 := n7_; clear n0_ n1_ n2_ n3_ n4_ n5_ n6_ n7_; clear hb hbox hg; have hnb8 := NB144_145.out; have hnc8 := NB145_144.out; have hcz9_0 : w7.cell? ⟨gb144, 0, none⟩ = some (.slice A0 l0.length c0) := (blk_cell BK144.out 0).trans rfl; have hfz9_0 := blk_frozen BK144.out 0) | ((with_reducible refine gate_callee (f := 40) rfl ?_); refine goesL_ (some 14) rfl rfl Try.func40 (by kernel_rfl) rfl #[.slice A0 l0.length c0, .int .i64 a1] rfl (by (try simp only [List.map_toArray, List.map_cons, List.map_nil]); first | done | rfl) ?_; (with_reducible refine (stripe_Held.calls k _ _ l0 a1 t146 _ ?side1 ?side2 A4.out).mono ?_); (case side1 => repeat (first | exact (Kd.V_reads' HO0.out).2.2 | with_reducible first | refine Kd.C_alloc ?_ _ | refine Kd.C_drewN ?_ _ | refine Kd.C_drew ?_)); (case side2 => exact (Kd.V_reads' HO0.out).2.1); rintro e w10 ⟨v147, rfl, ho0, hb⟩; refine ⟨_, rfl, ?_⟩; have n0_ := Aside0.mk (Kd.V_elder' (by (with_reducible repeat (first | apply Kd.V_alloc | apply Kd.V_drewN | apply Kd.V_drew)); exact HO0.out) (Kd.R_base ho0) hb); have n1_ := Aside0.mk (Kd.R_lower (Kd.R_newB (Kd.R_newM (M := fun k_ => (w.heap.size ≤ k_)) ho0 (below_size (by repeat (first | (with_reducible first | exact HB.out | apply below_alloc | apply pw_below_drewN | apply below_drew1 | refine below_set ?_ GE144.out | refine below_set ?_ GE145.out) | exact HB.out))) (fun k_ h_ => h_)) (g := gb145) (o := .cells #[.int .i64 a2] 3 (0, 0)) (by (with_reducible repeat (first | refine blk_drewN ?_ _ | refine blk_drew ?_ | refine blk_alloc ?_ _)); exact BK145.out)) (below_size (by repeat (first | (with_reducible first | exact HB.out | apply below_alloc | apply pw_below_drewN | apply below_drew1 | refine below_set ?_ GE144.out | refine below_set ?_ GE145.out) | exact HB.out)))); have n2_ := Aside0.mk (blk_below (g := gb144) (o := .cells #[.slice A0 l0.length c0] 40 (0, 0)) (by (with_reducible repeat (first | refine blk_drewN ?_ _ | refine blk_drew ?_ | refine blk_alloc ?_ _)); exact BK144.out) hb); have n3_ := Aside0.mk (blk_below (g := gb145) (o := .cells #[.int .i64 a2] 3 (0, 0)) (by (with_reducible repeat (first | refine blk_drewN ?_ _ | refine blk_drew ?_ | refine blk_alloc ?_ _)); exact BK145.out) hb); have n4_ := Aside0.mk (below_step (by repeat (first | (with_reducible first | exact HB.out | apply below_alloc | apply pw_below_drewN | apply below_drew1 | refine below_set ?_ GE144.out | refine below_set ?_ GE145.out) | exact HB.out)) hb); clear HO0; clear BK144; clear BK145; clear HB; have HO0 := n0_; have HO148 := n1_; have BK144 := n2_; have BK145 := n3_; have HB := n4_; clear n0_ n1_ n2_ n3_ n4_; (try clear hb); (try clear hb2); (try clear hk); (try clear hi); (try clear ho0)))
 (try simp only [Act.put, List.setIfInBounds_toArray, List.set_cons_zero, List.set_cons_succ])
 go_cut [15] (fun v15 wc => ∃ (kq : Nat) (x15_4 : Bool), v15 = .bool x15_4 ∧ Aside0 (stripe_Stamp.j0 kq t146 x15_4 l0 a2 = some (r1, r2)) ∧ Aside0 (kq ≤ k) ∧ Aside0 (Kd.R (Kd.int .i64) 3 wc w.heap.size (fun k_ => (w.heap.size ≤ k_) ∧ k_ ≠ gb145) v147 t146) ∧ Aside0 (Kd.V k67 67 wc w.heap.size (fun k_ => (P0_ k_ ∨ w.heap.size ≤ k_) ∧ some k_ ≠ (v147 : Value).ownBlock ∧ k_ ≠ gb144 ∧ k_ ≠ gb145) (.slice A0 l0.length c0) l0) ∧ Aside0 (wc.heap[gb144]? = some (.cells #[(.slice A0 l0.length c0)] 40 (0, 0))) ∧ Aside0 (wc.heap[gb145]? = some (.cells #[.int .i64 a2] 3 (0, 0))) ∧ Aside0 (Below w.heap.size w wc))
 case first =>
  have H := HC5.out
  clear HC5
  replace H := Option.bind_eq_some_iff.mp H
  obtain ⟨t149, A110, H⟩ := H
  replace H : (if t149 = true then ((stripe_somebody.f a1).bind fun t150 => (stripe_Stamp.j0 k t146 (!t150) l0 a2)) else (stripe_Stamp.j0 k t146 true l0 a2)) = some (r1, r2) := H
  have A11 := Aside0.mk A110
  clear A110
  by_cases c12 : t149 = true
  · subst c12
    have H1 : ((stripe_somebody.f a1).bind fun t150 => (stripe_Stamp.j0 k t146 (!t150) l0 a2)) = some (r1, r2) := by rw [if_pos rfl] at H; exact H
    clear H
    have H := H1
    clear H1
    replace H := Option.bind_eq_some_iff.mp H
    obtain ⟨t150, A130, H⟩ := H
    replace H : (stripe_Stamp.j0 k t146 (!t150) l0 a2) = some (r1, r2) := H
    have A13 := Aside0.mk A130
    clear A130
    have H' := Aside0.mk H
    clear H
    have hnb14 := NB144_145.out
    have hnc14 := NB145_144.out
    have hcz15_0 : w10.cell? ⟨gb144, 0, none⟩ = some (.slice A0 l0.length c0) := (blk_cell BK144.out 0).trans rfl
    have hfz15_0 := blk_frozen BK144.out 0
    go_wp2_with (first | ((with_reducible refine gate_callee (f := 37) rfl ?_); refine goesL_ (some 17) rfl rfl Try.func37 (by kernel_rfl) rfl #[.slice A0 l0.length c0] rfl (by (try simp only [List.map_toArray, List.map_cons, List.map_nil]); first | done | rfl) ?_; (with_reducible refine (stripe_Right.calls _ _ l0 true _ ?side1 ?side2 A11.out).mono ?_); (case side1 => repeat (first | exact (Kd.V_reads' HO0.out).2.2 | with_reducible first | refine Kd.C_alloc ?_ _ | refine Kd.C_drewN ?_ _ | refine Kd.C_drew ?_)); (case side2 => exact (Kd.V_reads' HO0.out).2.1); rintro e w16 ⟨rfl, hb⟩; refine ⟨_, rfl, ?_⟩; have n0_ := Aside0.mk (Kd.V_below (by (with_reducible repeat (first | apply Kd.V_alloc | apply Kd.V_drewN | apply Kd.V_drew)); exact HO0.out) hb); have n1_ := Aside0.mk (Kd.R_below (by (with_reducible repeat (first | apply Kd.R_alloc | apply Kd.R_drewN | apply Kd.R_drew)); exact HO148.out) hb); have n2_ := Aside0.mk (blk_below (g := gb144) (o := .cells #[.slice A0 l0.length c0] 40 (0, 0)) (by (with_reducible repeat (first | refine blk_drewN ?_ _ | refine blk_drew ?_ | refine blk_alloc ?_ _)); exact BK144.out) hb); have n3_ := Aside0.mk (blk_below (g := gb145) (o := .cells #[.int .i64 a2] 3 (0, 0)) (by (with_reducible repeat (first | refine blk_drewN ?_ _ | refine blk_drew ?_ | refine blk_alloc ?_ _)); exact BK145.out) hb); have n4_ := Aside0.mk (below_step (by repeat (first | (with_reducible first | exact HB.out | apply below_alloc | apply pw_below_drewN | apply below_drew1 | refine below_set ?_ GE144.out | refine below_set ?_ GE145.out) | exact HB.out)) hb); clear HO0; clear HO148; clear BK144; clear BK145; clear HB; have HO0 := n0_; have HO148 := n1_; have BK144 := n2_; have BK145 := n3_; have HB := n4_; clear n0_ n1_ n2_ n3_ n4_; (try clear hb); (try clear hb2); (try clear hk); (try clear hi)) | (go_at_call 58; (with_reducible refine (stripe_somebody.calls a1 t150 _ A13.out).mono ?_); rintro e w' ⟨rfl, ⟨nd, rfl⟩⟩))
    go_meet
    case rel => exact ⟨_, (!t150), (by first | rfl | (simp; done) | (simp [*]; done)), H', ⟨by first | omega | exact Nat.le_refl _⟩, ⟨by (with_reducible repeat (first | apply Kd.R_alloc | apply Kd.R_drewN | apply Kd.R_drew)); exact Kd.R_mono HO148.out (fun _ hk => ⟨hk.1.1, hk.2⟩)⟩, ⟨by (with_reducible repeat (first | apply Kd.V_alloc | apply Kd.V_drewN | apply Kd.V_drew)); exact Kd.V_mono HO0.out (fun _ hk => ⟨hk.1.1.1, ⟨hk.2, ⟨hk.1.1.2, hk.1.2⟩⟩⟩)⟩, ⟨by (with_reducible repeat (first | refine blk_drewN ?_ _ | refine blk_drew ?_ | refine blk_alloc ?_ _)); exact BK144.out⟩, ⟨by (with_reducible repeat (first | refine blk_drewN ?_ _ | refine blk_drew ?_ | refine blk_alloc ?_ _)); exact BK145.out⟩, ⟨by repeat (first | (with_reducible first | exact HB.out | apply below_alloc | apply pw_below_drewN | apply below_drew1 | refine below_set ?_ GE144.out | refine below_set ?_ GE145.out) | exact HB.out)⟩⟩
  · replace c12 := Bool.eq_false_iff.mpr c12
    subst c12
    have H1 : (stripe_Stamp.j0 k t146 true l0 a2) = some (r1, r2) := by rw [if_neg (show ¬ (false = true) by decide)] at H; exact H
    clear H
    have H := H1
    clear H1
    have H' := Aside0.mk H
    clear H
    have hnb17 := NB144_145.out
    have hnc17 := NB145_144.out
    have hcz18_0 : w10.cell? ⟨gb144, 0, none⟩ = some (.slice A0 l0.length c0) := (blk_cell BK144.out 0).trans rfl
    have hfz18_0 := blk_frozen BK144.out 0
    go_wp2_with (first | ((with_reducible refine gate_callee (f := 37) rfl ?_); refine goesL_ (some 17) rfl rfl Try.func37 (by kernel_rfl) rfl #[.slice A0 l0.length c0] rfl (by (try simp only [List.map_toArray, List.map_cons, List.map_nil]); first | done | rfl) ?_; (with_reducible refine (stripe_Right.calls _ _ l0 false _ ?side1 ?side2 A11.out).mono ?_); (case side1 => repeat (first | exact (Kd.V_reads' HO0.out).2.2 | with_reducible first | refine Kd.C_alloc ?_ _ | refine Kd.C_drewN ?_ _ | refine Kd.C_drew ?_)); (case side2 => exact (Kd.V_reads' HO0.out).2.1); rintro e w19 ⟨rfl, hb⟩; refine ⟨_, rfl, ?_⟩; have n0_ := Aside0.mk (Kd.V_below (by (with_reducible repeat (first | apply Kd.V_alloc | apply Kd.V_drewN | apply Kd.V_drew)); exact HO0.out) hb); have n1_ := Aside0.mk (Kd.R_below (by (with_reducible repeat (first | apply Kd.R_alloc | apply Kd.R_drewN | apply Kd.R_drew)); exact HO148.out) hb); have n2_ := Aside0.mk (blk_below (g := gb144) (o := .cells #[.slice A0 l0.length c0] 40 (0, 0)) (by (with_reducible repeat (first | refine blk_drewN ?_ _ | refine blk_drew ?_ | refine blk_alloc ?_ _)); exact BK144.out) hb); have n3_ := Aside0.mk (blk_below (g := gb145) (o := .cells #[.int .i64 a2] 3 (0, 0)) (by (with_reducible repeat (first | refine blk_drewN ?_ _ | refine blk_drew ?_ | refine blk_alloc ?_ _)); exact BK145.out) hb); have n4_ := Aside0.mk (below_step (by repeat (first | (with_reducible first | exact HB.out | apply below_alloc | apply pw_below_drewN | apply below_drew1 | refine below_set ?_ GE144.out | refine below_set ?_ GE145.out) | exact HB.out)) hb); clear HO0; clear HO148; clear BK144; clear BK145; clear HB; have HO0 := n0_; have HO148 := n1_; have BK144 := n2_; have BK145 := n3_; have HB := n4_; clear n0_ n1_ n2_ n3_ n4_; (try clear hb); (try clear hb2); (try clear hk); (try clear hi)))
    go_meet
    case rel => exact ⟨_, (true), (by first | rfl | (simp; done) | (simp [*]; done)), H', ⟨by first | omega | exact Nat.le_refl _⟩, ⟨by (with_reducible repeat (first | apply Kd.R_alloc | apply Kd.R_drewN | apply Kd.R_drew)); exact Kd.R_mono HO148.out (fun _ hk => ⟨hk.1.1, hk.2⟩)⟩, ⟨by (with_reducible repeat (first | apply Kd.V_alloc | apply Kd.V_drewN | apply Kd.V_drew)); exact Kd.V_mono HO0.out (fun _ hk => ⟨hk.1.1.1, ⟨hk.2, ⟨hk.1.1.2, hk.1.2⟩⟩⟩)⟩, ⟨by (with_reducible repeat (first | refine blk_drewN ?_ _ | refine blk_drew ?_ | refine blk_alloc ?_ _)); exact BK144.out⟩, ⟨by (with_reducible repeat (first | refine blk_drewN ?_ _ | refine blk_drew ?_ | refine blk_alloc ?_ _)); exact BK145.out⟩, ⟨by repeat (first | (with_reducible first | exact HB.out | apply below_alloc | apply pw_below_drewN | apply below_drew1 | refine below_set ?_ GE144.out | refine below_set ?_ GE145.out) | exact HB.out)⟩⟩
 case rest =>
  clear HC5
  try clear c1
  try clear p2
  try clear c3
  try clear c4
  try clear c8
  try clear c12
  try clear c14
  try clear c17
  try clear hcz15_0
  try clear hcz18_0
  try clear hcz9_0
  try clear hfz15_0
  try clear hfz18_0
  try clear hfz9_0
  obtain ⟨kq, x15_4, rfl, HA, HJ4, HO_8, HO_145000, BK144, BK145, HB⟩ := hcut
  cases kq with
  | zero => exact absurd HA.out (by simp [stripe_Stamp.j0])
  | succ kj4 =>
   have H := HA.out
   clear HA
   simp only [stripe_Stamp.j0] at H
   by_cases c20 : x15_4 = true
   · subst c20
     have H1 : (some (l0, 1)) = some (r1, r2) := by rw [if_pos rfl] at H; exact H
     clear H
     have H := H1
     clear H1
     simp only [Option.some.injEq, Prod.mk.injEq] at H
     obtain ⟨rfl, rfl⟩ := H
     have hnb21 := NB144_145.out
     have hnc21 := NB145_144.out
     have hcz22_0 : wc.cell? ⟨gb144, 0, none⟩ = some (.slice A0 l0.length c0) := (blk_cell BK144.out 0).trans rfl
     have hfz22_0 := blk_frozen BK144.out 0
     go_wp2
     go_ret2
     exact ⟨_, by first | rfl | (simp [errW_none, errW_some] <;> rfl) | (simp [*, errW_none, errW_some] <;> rfl), by (with_reducible repeat (first | apply Kd.V_alloc | apply Kd.V_drewN | apply Kd.V_drew)); exact Kd.V_mono HO_145000.out (fun _ hk => hk.1), by repeat (first | (with_reducible first | exact HB.out | apply below_alloc | apply pw_below_drewN | apply below_drew1 | refine below_set ?_ GE144.out | refine below_set ?_ GE145.out) | exact HB.out)⟩
   · replace c20 := Bool.eq_false_iff.mpr c20
     subst c20
     have H1 : (if a2 < 0 then (some (l0, 6)) else (if a2 > 2147483647 then (some (l0, 6)) else ((any_at_stripe_Stamp_1.f t146 l0 a2).bind fun t151 => (if t151 = true then (some (l0, 6)) else ((slices_Clone.f l0).bind fun t152 => (stripe_Stamp.l0 kj4 t152 t146 (t146.length : Int) 0 a2)))))) = some (r1, r2) := by rw [if_neg (show ¬ (false = true) by decide)] at H; exact H
     clear H
     have H := H1
     clear H1
     by_cases c23 : a2 < 0
     · rw [if_pos c23] at H
       have c23b0 : decide (a2 < 0) = true := decide_eq_true c23
       clear c23
       simp only [Option.some.injEq, Prod.mk.injEq] at H
       obtain ⟨rfl, rfl⟩ := H
       have hnb24 := NB145_144.out
       have hnc24 := NB144_145.out
       have hcz25_0 : wc.cell? ⟨gb145, 0, none⟩ = some (.int .i64 a2) := (blk_cell BK145.out 0).trans rfl
       have hfz25_0 := blk_frozen BK145.out 0
       have hcz26_0 : wc.cell? ⟨gb144, 0, none⟩ = some (.slice A0 l0.length c0) := (blk_cell BK144.out 0).trans rfl
       have hfz26_0 := blk_frozen BK144.out 0
       go_wp2
       go_ret2
       exact ⟨_, by first | rfl | (simp [errW_none, errW_some] <;> rfl) | (simp [*, errW_none, errW_some] <;> rfl), by (with_reducible repeat (first | apply Kd.V_alloc | apply Kd.V_drewN | apply Kd.V_drew)); exact Kd.V_mono HO_145000.out (fun _ hk => hk.1), by repeat (first | (with_reducible first | exact HB.out | apply below_alloc | apply pw_below_drewN | apply below_drew1 | refine below_set ?_ GE144.out | refine below_set ?_ GE145.out) | exact HB.out)⟩
     · rw [if_neg c23] at H
       have c23b0 : decide (a2 < 0) = false := decide_eq_false c23
       clear c23
       by_cases c27 : a2 > 2147483647
       · rw [if_pos c27] at H
         have c27b0 : decide (2147483647 < a2) = true := decide_eq_true c27
         clear c27
         simp only [Option.some.injEq, Prod.mk.injEq] at H
         obtain ⟨rfl, rfl⟩ := H
         have hnb28 := NB145_144.out
         have hnc28 := NB144_145.out
         have hcz29_0 : wc.cell? ⟨gb145, 0, none⟩ = some (.int .i64 a2) := (blk_cell BK145.out 0).trans rfl
         have hfz29_0 := blk_frozen BK145.out 0
         have hcz30_0 : wc.cell? ⟨gb144, 0, none⟩ = some (.slice A0 l0.length c0) := (blk_cell BK144.out 0).trans rfl
         have hfz30_0 := blk_frozen BK144.out 0
         go_wp2
         go_ret2
         exact ⟨_, by first | rfl | (simp [errW_none, errW_some] <;> rfl) | (simp [*, errW_none, errW_some] <;> rfl), by (with_reducible repeat (first | apply Kd.V_alloc | apply Kd.V_drewN | apply Kd.V_drew)); exact Kd.V_mono HO_145000.out (fun _ hk => hk.1), by repeat (first | (with_reducible first | exact HB.out | apply below_alloc | apply pw_below_drewN | apply below_drew1 | refine below_set ?_ GE144.out | refine below_set ?_ GE145.out) | exact HB.out)⟩
       · rw [if_neg c27] at H
         have c27b0 : decide (2147483647 < a2) = false := decide_eq_false c27
         clear c27
         replace H := Option.bind_eq_some_iff.mp H
         obtain ⟨t151, A310, H⟩ := H
         replace H : (if t151 = true then (some (l0, 6)) else ((slices_Clone.f l0).bind fun t152 => (stripe_Stamp.l0 kj4 t152 t146 (t146.length : Int) 0 a2))) = some (r1, r2) := H
         have A31 := Aside0.mk A310
         clear A310
         by_cases c32 : t151 = true
         · subst c32
           have H1 : (some (l0, 6)) = some (r1, r2) := by rw [if_pos rfl] at H; exact H
           clear H
           have H := H1
           clear H1
           simp only [Option.some.injEq, Prod.mk.injEq] at H
           obtain ⟨rfl, rfl⟩ := H
           have hnb33 := NB145_144.out
           have hnc33 := NB144_145.out
           have hcz34_0 : wc.cell? ⟨gb145, 0, none⟩ = some (.int .i64 a2) := (blk_cell BK145.out 0).trans rfl
           have hfz34_0 := blk_frozen BK145.out 0
           obtain ⟨Ao35, co35, eo35⟩ := Kd.R_slice HO_8.out
           subst eo35
           go_wp2_with (first | (go_at_call 59; (with_reducible refine (any_at_stripe_Stamp_1.calls _ _ t146 gb144 A0 c0 l0 gb145 a2 true _ ?side1 ?side2 ?side3 ?side4 ?side5 ?side6 A31.out).mono ?_); (case side1 => repeat (first | exact (Kd.R_reads' HO_8.out).2.2 | with_reducible first | refine Kd.C_alloc ?_ _ | refine Kd.C_drewN ?_ _ | refine Kd.C_drew ?_)); (case side2 => exact (Kd.R_reads' HO_8.out).2.1); (case side3 => repeat (first | exact (Kd.V_reads' HO_145000.out).2.2 | with_reducible first | refine Kd.C_alloc ?_ _ | refine Kd.C_drewN ?_ _ | refine Kd.C_drew ?_)); (case side4 => exact (Kd.V_reads' HO_145000.out).2.1); (case side5 => exact (by (with_reducible repeat (first | refine blk_drewN ?_ _ | refine blk_drew ?_ | refine blk_alloc ?_ _)); exact BK144.out)); (case side6 => exact (by (with_reducible repeat (first | refine blk_drewN ?_ _ | refine blk_drew ?_ | refine blk_alloc ?_ _)); exact BK145.out)); rintro e w36 ⟨rfl, hb⟩; have n0_ := Aside0.mk (Kd.R_below (by (with_reducible repeat (first | apply Kd.R_alloc | apply Kd.R_drewN | apply Kd.R_drew)); exact HO_8.out) hb); have n1_ := Aside0.mk (Kd.V_below (by (with_reducible repeat (first | apply Kd.V_alloc | apply Kd.V_drewN | apply Kd.V_drew)); exact HO_145000.out) hb); have n2_ := Aside0.mk (blk_below (g := gb144) (o := .cells #[.slice A0 l0.length c0] 40 (0, 0)) (by (with_reducible repeat (first | refine blk_drewN ?_ _ | refine blk_drew ?_ | refine blk_alloc ?_ _)); exact BK144.out) hb); have n3_ := Aside0.mk (blk_below (g := gb145) (o := .cells #[.int .i64 a2] 3 (0, 0)) (by (with_reducible repeat (first | refine blk_drewN ?_ _ | refine blk_drew ?_ | refine blk_alloc ?_ _)); exact BK145.out) hb); have n4_ := Aside0.mk (below_step (by repeat (first | (with_reducible first | exact HB.out | apply below_alloc | apply pw_below_drewN | apply below_drew1 | refine below_set ?_ GE144.out | refine below_set ?_ GE145.out) | exact HB.out)) hb); clear HO_8; clear HO_145000; clear BK144; clear BK145; clear HB; have HO_8 := n0_; have HO_145000 := n1_; have BK144 := n2_; have BK145 := n3_; have HB := n4_; clear n0_ n1_ n2_ n3_ n4_; (try clear hb); (try clear hb2); (try clear hk); (try clear hi); have hcz37_0 : w36.cell? ⟨gb144, 0, none⟩ = some (.slice A0 l0.length c0) := (blk_cell BK144.out 0).trans rfl; have hfz37_0 := blk_frozen BK144.out 0))
           go_ret2
           exact ⟨_, by first | rfl | (simp [errW_none, errW_some] <;> rfl) | (simp [*, errW_none, errW_some] <;> rfl), by (with_reducible repeat (first | apply Kd.V_alloc | apply Kd.V_drewN | apply Kd.V_drew)); exact Kd.V_mono HO_145000.out (fun _ hk => hk.1), by repeat (first | (with_reducible first | exact HB.out | apply below_alloc | apply pw_below_drewN | apply below_drew1 | refine below_set ?_ GE144.out | refine below_set ?_ GE145.out) | exact HB.out)⟩
         · replace c32 := Bool.eq_false_iff.mpr c32
           subst c32
           have H1 : ((slices_Clone.f l0).bind fun t152 => (stripe_Stamp.l0 kj4 t152 t146 (t146.length : Int) 0 a2)) = some (r1, r2) := by rw [if_neg (show ¬ (false = true) by decide)] at H; exact H
           clear H
           have H := H1
           clear H1
           replace H := Option.bind_eq_some_iff.mp H
           obtain ⟨t152, A380, H⟩ := H
           replace H : (stripe_Stamp.l0 kj4 t152 t146 (t146.length : Int) 0 a2) = some (r1, r2) := H
           have A38 := Aside0.mk A380
           clear A380
           have H' := Aside0.mk H
           clear H
           have hnb39 := NB145_144.out
           have hnc39 := NB144_145.out
           have hcz40_0 : wc.cell? ⟨gb145, 0, none⟩ = some (.int .i64 a2) := (blk_cell BK145.out 0).trans rfl
           have hfz40_0 := blk_frozen BK145.out 0
           obtain ⟨Ao41, co41, eo41⟩ := Kd.R_slice HO_8.out
           subst eo41
           go_wp2_with (first | (go_at_call 59; (with_reducible refine (any_at_stripe_Stamp_1.calls _ _ t146 gb144 A0 c0 l0 gb145 a2 false _ ?side1 ?side2 ?side3 ?side4 ?side5 ?side6 A31.out).mono ?_); (case side1 => repeat (first | exact (Kd.R_reads' HO_8.out).2.2 | with_reducible first | refine Kd.C_alloc ?_ _ | refine Kd.C_drewN ?_ _ | refine Kd.C_drew ?_)); (case side2 => exact (Kd.R_reads' HO_8.out).2.1); (case side3 => repeat (first | exact (Kd.V_reads' HO_145000.out).2.2 | with_reducible first | refine Kd.C_alloc ?_ _ | refine Kd.C_drewN ?_ _ | refine Kd.C_drew ?_)); (case side4 => exact (Kd.V_reads' HO_145000.out).2.1); (case side5 => exact (by (with_reducible repeat (first | refine blk_drewN ?_ _ | refine blk_drew ?_ | refine blk_alloc ?_ _)); exact BK144.out)); (case side6 => exact (by (with_reducible repeat (first | refine blk_drewN ?_ _ | refine blk_drew ?_ | refine blk_alloc ?_ _)); exact BK145.out)); rintro e w42 ⟨rfl, hb⟩; have n0_ := Aside0.mk (Kd.R_below (by (with_reducible repeat (first | apply Kd.R_alloc | apply Kd.R_drewN | apply Kd.R_drew)); exact HO_8.out) hb); have n1_ := Aside0.mk (Kd.V_below (by (with_reducible repeat (first | apply Kd.V_alloc | apply Kd.V_drewN | apply Kd.V_drew)); exact HO_145000.out) hb); have n2_ := Aside0.mk (blk_below (g := gb144) (o := .cells #[.slice A0 l0.length c0] 40 (0, 0)) (by (with_reducible repeat (first | refine blk_drewN ?_ _ | refine blk_drew ?_ | refine blk_alloc ?_ _)); exact BK144.out) hb); have n3_ := Aside0.mk (blk_below (g := gb145) (o := .cells #[.int .i64 a2] 3 (0, 0)) (by (with_reducible repeat (first | refine blk_drewN ?_ _ | refine blk_drew ?_ | refine blk_alloc ?_ _)); exact BK145.out) hb); have n4_ := Aside0.mk (below_step (by repeat (first | (with_reducible first | exact HB.out | apply below_alloc | apply pw_below_drewN | apply below_drew1 | refine below_set ?_ GE144.out | refine below_set ?_ GE145.out) | exact HB.out)) hb); clear HO_8; clear HO_145000; clear BK144; clear BK145; clear HB; have HO_8 := n0_; have HO_145000 := n1_; have BK144 := n2_; have BK145 := n3_; have HB := n4_; clear n0_ n1_ n2_ n3_ n4_; (try clear hb); (try clear hb2); (try clear hk); (try clear hi); have hcz43_0 : w42.cell? ⟨gb144, 0, none⟩ = some (.slice A0 l0.length c0) := (blk_cell BK144.out 0).trans rfl; have hfz43_0 := blk_frozen BK144.out 0) | ((with_reducible refine gate_callee (f := 61) rfl ?_); refine goesL_ (some 39) rfl rfl Try.func61 (by kernel_rfl) rfl #[.slice A0 l0.length c0] rfl (by (try simp only [List.map_toArray, List.map_cons, List.map_nil]); first | done | rfl) ?_; (with_reducible refine (slices_Clone.calls _ _ l0 t152 _ ?side1 ?side2 A38.out).mono ?_); (case side1 => repeat (first | exact (Kd.V_reads' HO_145000.out).2.2 | with_reducible first | refine Kd.C_alloc ?_ _ | refine Kd.C_drewN ?_ _ | refine Kd.C_drew ?_)); (case side2 => exact (Kd.V_reads' HO_145000.out).2.1); rintro e w44 ⟨v153, rfl, ho0, hb⟩; refine ⟨_, rfl, ?_⟩; have n0_ := Aside0.mk (Kd.R_below (by (with_reducible repeat (first | apply Kd.R_alloc | apply Kd.R_drewN | apply Kd.R_drew)); exact HO_8.out) hb); have n1_ := Aside0.mk (Kd.V_elder' (by (with_reducible repeat (first | apply Kd.V_alloc | apply Kd.V_drewN | apply Kd.V_drew)); exact HO_145000.out) (Kd.R_base ho0) hb); have n2_ := Aside0.mk (Kd.R_lower (Kd.R_newM (M := fun k_ => (w.heap.size ≤ k_)) ho0 (below_size (by repeat (first | (with_reducible first | exact HB.out | apply below_alloc | apply pw_below_drewN | apply below_drew1 | refine below_set ?_ GE144.out | refine below_set ?_ GE145.out) | exact HB.out))) (fun k_ h_ => h_)) (below_size (by repeat (first | (with_reducible first | exact HB.out | apply below_alloc | apply pw_below_drewN | apply below_drew1 | refine below_set ?_ GE144.out | refine below_set ?_ GE145.out) | exact HB.out)))); have n3_ := Aside0.mk (blk_below (g := gb144) (o := .cells #[.slice A0 l0.length c0] 40 (0, 0)) (by (with_reducible repeat (first | refine blk_drewN ?_ _ | refine blk_drew ?_ | refine blk_alloc ?_ _)); exact BK144.out) hb); have n4_ := Aside0.mk (blk_below (g := gb145) (o := .cells #[.int .i64 a2] 3 (0, 0)) (by (with_reducible repeat (first | refine blk_drewN ?_ _ | refine blk_drew ?_ | refine blk_alloc ?_ _)); exact BK145.out) hb); have n5_ := Aside0.mk (below_step (by repeat (first | (with_reducible first | exact HB.out | apply below_alloc | apply pw_below_drewN | apply below_drew1 | refine below_set ?_ GE144.out | refine below_set ?_ GE145.out) | exact HB.out)) hb); clear HO_8; clear HO_145000; clear BK144; clear BK145; clear HB; have HO_8 := n0_; have HO_145000 := n1_; have HO154 := n2_; have BK144 := n3_; have BK145 := n4_; have HB := n5_; clear n0_ n1_ n2_ n3_ n4_ n5_; (try clear hb); (try clear hb2); (try clear hk); (try clear hi); (try clear ho0)))
           go_loopg [42] kj4 (fun kq v42 w' => ∃ (x9_2 : List (S67)) (x42_2 : Int), v42 = .int .i64 x42_2 ∧ Aside0 (stripe_Stamp.l0 kq x9_2 t146 (t146.length : Int) x42_2 a2 = some (r1, r2)) ∧ Aside0 (kq ≤ kj4) ∧ Aside0 (Kd.R k67 67 w' w.heap.size (fun k_ => (w.heap.size ≤ k_)) v153 x9_2) ∧ Aside0 (Kd.R (Kd.int .i64) 3 w' w.heap.size (fun k_ => (w.heap.size ≤ k_) ∧ k_ ≠ gb145) (.slice Ao41 t146.length co41) t146) ∧ Aside0 (Kd.V k67 67 w' w.heap.size (fun k_ => (P0_ k_ ∨ w.heap.size ≤ k_) ∧ some k_ ≠ (v153 : Value).ownBlock ∧ some k_ ≠ ((.slice Ao41 t146.length co41) : Value).ownBlock ∧ k_ ≠ gb144 ∧ k_ ≠ gb145) (.slice A0 l0.length c0) l0) ∧ Aside0 (w'.heap[gb144]? = some (.cells #[(.slice A0 l0.length c0)] 40 (0, 0))) ∧ Aside0 (w'.heap[gb145]? = some (.cells #[.int .i64 a2] 3 (0, 0))) ∧ Aside0 (Below w.heap.size w w'))
           case atStart => exact ⟨(t152), (0), (by first | rfl | (simp; done) | (simp [*]; done)), H', ⟨Nat.le_refl _⟩, ⟨by (with_reducible repeat (first | apply Kd.R_alloc | apply Kd.R_drewN | apply Kd.R_drew)); exact Kd.R_mono HO154.out (fun _ hk => hk.1)⟩, ⟨by (with_reducible repeat (first | apply Kd.R_alloc | apply Kd.R_drewN | apply Kd.R_drew)); exact HO_8.out⟩, ⟨by (with_reducible repeat (first | apply Kd.V_alloc | apply Kd.V_drewN | apply Kd.V_drew)); exact Kd.V_mono HO_145000.out (fun _ hk => ⟨hk.1.1, ⟨hk.2, ⟨hk.1.2.1, ⟨hk.1.2.2.1, hk.1.2.2.2⟩⟩⟩⟩)⟩, ⟨by (with_reducible repeat (first | refine blk_drewN ?_ _ | refine blk_drew ?_ | refine blk_alloc ?_ _)); exact BK144.out⟩, ⟨by (with_reducible repeat (first | refine blk_drewN ?_ _ | refine blk_drew ?_ | refine blk_alloc ?_ _)); exact BK145.out⟩, ⟨by repeat (first | (with_reducible first | exact HB.out | apply below_alloc | apply pw_below_drewN | apply below_drew1 | refine below_set ?_ GE144.out | refine below_set ?_ GE145.out) | exact HB.out)⟩⟩
           case round =>
            clear H'
            try clear c1
            try clear c2
            try clear p2
            try clear c3
            try clear c4
            try clear c6
            try clear c8
            try clear c12
            try clear c14
            try clear c17
            try clear c20
            try clear c21
            try clear c23
            try clear c23b0
            try clear c24
            try clear c27
            try clear c27b0
            try clear c28
            try clear c32
            try clear c33
            try clear c37
            try clear c39
            try clear c40
            try clear hcz15_0
            try clear hcz18_0
            try clear hcz22_0
            try clear hcz25_0
            try clear hcz26_0
            try clear hcz29_0
            try clear hcz30_0
            try clear hcz34_0
            try clear hcz37_0
            try clear hcz40_0
            try clear hcz43_0
            try clear hcz9_0
            try clear hfz15_0
            try clear hfz18_0
            try clear hfz22_0
            try clear hfz25_0
            try clear hfz26_0
            try clear hfz29_0
            try clear hfz30_0
            try clear hfz34_0
            try clear hfz37_0
            try clear hfz40_0
            try clear hfz43_0
            try clear hfz9_0
            try clear p2
            obtain ⟨x9_2, x42_2, rfl, HA, HK2, HO_9, HO_40, HO_145000, BK144, BK145, HB⟩ := hrel
            cases gk with
            | zero => exact absurd HA.out (by simp [stripe_Stamp.l0])
            | succ k2 =>
             have H := HA.out
             clear HA
             simp only [stripe_Stamp.l0] at H
             by_cases c45 : x42_2 < (t146.length : Int)
             · rw [if_pos c45] at H
               have c45b0 : decide (x42_2 < (t146.length : Int)) = true := decide_eq_true c45
               clear c45
               by_cases c46 : 0 ≤ x42_2
               · rw [if_pos c46] at H
                 have c46b0 : decide (0 ≤ x42_2) = true := decide_eq_true c46
                 clear c46
                 by_cases c47 : x42_2 < (t146.length : Int)
                 · rw [if_pos c47] at H
                   have c47b0 : decide (x42_2 < (t146.length : Int)) = true := decide_eq_true c47
                   clear c47
                   by_cases c48 : 0 ≤ (rd t146 x42_2)
                   · rw [if_pos c48] at H
                     have c48b0 : decide (0 ≤ (rd t146 x42_2)) = true := decide_eq_true c48
                     clear c48
                     by_cases c49 : (rd t146 x42_2) < (x9_2.length : Int)
                     · rw [if_pos c49] at H
                       have c49b0 : decide ((rd t146 x42_2) < (x9_2.length : Int)) = true := decide_eq_true c49
                       clear c49
                       obtain ⟨y156, hy156⟩ : ∃ y_ : List (S67), y_ = (x9_2.set ((rd t146 x42_2) : Int).toNat (⟨a2, 0⟩ : S67)) := ⟨_, rfl⟩
                       replace H : (stripe_Stamp.l0 k2 y156 t146 (t146.length : Int) (wrap64 (x42_2 + 1)) a2) = some (r1, r2) := by first | (rw [hy156]; with_reducible exact H) | (have H2_ := (Option.bind_some _ _).symm.trans H; rw [hy156]; with_reducible exact H2_) | (have H2_ := (Option.bind_some _ _).symm.trans H; with_reducible exact H2_) | with_reducible exact H | (rw [hy156]; exact H) | exact H
                       have Ny156 := Aside0.mk hy156
                       clear hy156
                       have H' := Aside0.mk H
                       clear H
                       have p155 : 0 ≤ (x42_2 : Int) := of_decide_eq_true (by first | (with_reducible assumption) | assumption)
                       have q155 : x42_2 < (t146.length : Int) := of_decide_eq_true (by first | (with_reducible assumption) | assumption)
                       obtain ⟨ad155, e155, hx155_0⟩ := Kd.at_int (Kd.R_reads' HO_40.out).2.2 x42_2 p155 q155
                       cases e155
                       replace p155 := eq_true p155
                       replace q155 := eq_true q155
                       have hnb51 := NB145_144.out
                       have hnc51 := NB144_145.out
                       have hcz52_0 : wr.cell? ⟨gb145, 0, none⟩ = some (.int .i64 a2) := (blk_cell BK145.out 0).trans rfl
                       have hfz52_0 := blk_frozen BK145.out 0
                       have p50 : 0 ≤ ((rd t146 x42_2) : Int) := of_decide_eq_true (by first | (with_reducible assumption) | assumption)
                       have q50 : ((rd t146 x42_2) : Int) < ((x9_2.length : Int) : Int) := of_decide_eq_true (by first | (with_reducible assumption) | assumption)
                       obtain ⟨go50, co50, eo50, gb50, gl50, cl50, HG50⟩ := Kd.R_form HO_9.out (by omega)
                       (first | cases eo50 | (injection eo50 with ea_ en_ ec_; (first | subst ea_ | (injection ea_ with ea_; subst ea_)); subst ec_; clear en_))
                       have GB50 := Aside0.mk gb50
                       have GG50 := Aside0.mk HG50
                       clear gb50 gl50 HG50
                       obtain ⟨ce50, hcl50, hM50, hcc50, hfr50⟩ := Kd.R_elem HO_9.out z67 ((rd t146 x42_2) : Int) p50 q50
                       obtain rfl := k67_openM hM50
                       have hx50_0 : wr.cell? ⟨go50, ((rd t146 x42_2) : Int).toNat * 2, none⟩ = some (.int .i64 ((rd_T67 x9_2 (rd t146 x42_2)).f0)) := hcc50 0 _ rfl
                       have hx50_1 : wr.cell? ⟨go50, ((rd t146 x42_2) : Int).toNat * 2 + 1, none⟩ = some (.int .i64 ((rd_T67 x9_2 (rd t146 x42_2)).f1)) := hcc50 1 _ rfl
                       have hf50_0 : wr.frozen? ⟨go50, ((rd t146 x42_2) : Int).toNat * 2, none⟩ = false := hfr50 0
                       have hf50_1 : wr.frozen? ⟨go50, ((rd t146 x42_2) : Int).toNat * 2 + 1, none⟩ = false := hfr50 1
                       clear hcl50 hcc50 hfr50 hM50
                       replace p50 := eq_true p50
                       replace q50 := eq_true q50
                       have HX53 := Aside0.mk (show Kd.R k67 67 wr w.heap.size (fun k_ => (w.heap.size ≤ k_)) (.slice (some ⟨go50, 0, none⟩) x9_2.length co50) x9_2 from (by (with_reducible repeat (first | apply Kd.R_alloc | apply Kd.R_drewN | apply Kd.R_drew)); exact HO_9.out))
                       obtain ⟨ce53, hcl53, hM53, hcc53, hfr53⟩ := Kd.R_elem HX53.out z67 ((rd t146 x42_2) : Int) (of_decide_eq_true (by first | (with_reducible assumption) | assumption)) (by have h_ : ((rd t146 x42_2) : Int) < ((x9_2.length : Int) : Int) := of_decide_eq_true (by first | (with_reducible assumption) | assumption); first | exact h_ | (have e_ := (Kd.R_reads' HO_9.out).1; omega) | simpa using h_)
                       obtain rfl := k67_openM hM53
                       have HP53 := Kd.R_seg HX53.out ((rd t146 x42_2) : Int) (of_decide_eq_true (by first | (with_reducible assumption) | assumption)) (by have h_ : ((rd t146 x42_2) : Int) < ((x9_2.length : Int) : Int) := of_decide_eq_true (by first | (with_reducible assumption) | assumption); first | exact h_ | (have e_ := (Kd.R_reads' HO_9.out).1; omega) | simpa using h_) (seg := [.int .i64 a2, .int .i64 0]) (j := 0) hcl53 hcc53 (show 2 ≤ 2 from by decide) (x' := (⟨a2, 0⟩ : S67)) (k67_mkM _ _ _ (⟨a2, 0⟩ : S67) ) (fun _ hk => hk)
                       have hx53_0 := hcc53 0 _ rfl
                       (try simp only [show (k67).sz = 2 from rfl, Nat.mul_one, Nat.add_zero] at hx53_0)
                       have hf53_0 := hfr53 0
                       (try simp only [show (k67).sz = 2 from rfl, Nat.mul_one, Nat.add_zero] at hf53_0)
                       have hx53_1 := hcc53 1 _ rfl
                       (try simp only [show (k67).sz = 2 from rfl, Nat.mul_one, Nat.add_zero] at hx53_1)
                       have hf53_1 := hfr53 1
                       (try simp only [show (k67).sz = 2 from rfl, Nat.mul_one, Nat.add_zero] at hf53_1)
                       clear hcl53 hcc53 hfr53 hM53
                       go_wp2_with (first | ((with_reducible refine gate_store (t := 67) (p := 50) rfl ?_); refine store_event (t := 67) (p := 50) (v := ?vo_w54) (w1 := ((wr.setCell ⟨go50, ((rd t146 x42_2) : Int).toNat * 2, none⟩ (.int .i64 a2)).setCell ⟨go50, ((rd t146 x42_2) : Int).toNat * 2 + 1, none⟩ (.int .i64 0))) ?hg ?ho ?hn ?hr ?_; (case ho => rfl); (case hg => rfl); (case hn => rfl); (case hr => first | (go_simp; done) | (go_simp; rfl)); intro w54 hw; have hg : wr.grownBy w54 (some go50) := (by rw [hw]; exact HP53.2); have hp_ : Kd.R k67 67 w54 w.heap.size (fun k_ => (w.heap.size ≤ k_)) (.slice (some ⟨go50, 0, none⟩) x9_2.length co50) y156 := (by rw [hw, Ny156.out]; exact HP53.1); clear HP53; have n0_ := Aside0.mk (hp_); have n1_ := Aside0.mk (Kd.R_over' (v := (.slice (some ⟨go50, 0, none⟩) x9_2.length co50)) (by (with_reducible repeat (first | apply Kd.R_alloc | apply Kd.R_drewN | apply Kd.R_drew)); exact HO_40.out) (Kd.R_typed HO_9.out) (by decide) hg); have n2_ := Aside0.mk (Kd.V_afterv (v := (.slice (some ⟨go50, 0, none⟩) x9_2.length co50)) (v1 := (.slice (some ⟨go50, 0, none⟩) x9_2.length co50)) (ok := (fun k_ => (P0_ k_ ∨ w.heap.size ≤ k_) ∧ some k_ ≠ (.slice (some ad155) t146.length co41 : Value).ownBlock ∧ k_ ≠ gb144 ∧ k_ ≠ gb145)) (by (with_reducible repeat (first | apply Kd.V_alloc | apply Kd.V_drewN | apply Kd.V_drew)); exact Kd.V_mono HO_145000.out (fun _ hk => ⟨⟨hk.1, ⟨hk.2.2.1, ⟨hk.2.2.2.1, hk.2.2.2.2⟩⟩⟩, hk.2.1⟩)) hg (.inl rfl)); have n3_ := Aside0.mk (blk_grown (g := gb144) (o := .cells #[.slice A0 l0.length c0] 40 (0, 0)) (by (with_reducible repeat (first | refine blk_drewN ?_ _ | refine blk_drew ?_ | refine blk_alloc ?_ _)); exact BK144.out) hg (Kd.R_ne HO_9.out BK144.out (by decide))); have n4_ := Aside0.mk (blk_grown (g := gb145) (o := .cells #[.int .i64 a2] 3 (0, 0)) (by (with_reducible repeat (first | refine blk_drewN ?_ _ | refine blk_drew ?_ | refine blk_alloc ?_ _)); exact BK145.out) hg (Kd.R_ne HO_9.out BK145.out (by decide))); have n5_ := Aside0.mk ((by rw [hw]; exact below_set (below_set (HB.out) GB50.out) GB50.out : Below w.heap.size w w54)); clear HO_9; clear HO_40; clear HO_145000; clear BK144; clear BK145; clear HB; have HO_9 := n0_; have HO_40 := n1_; have HO_145000 := n2_; have BK144 := n3_; have BK145 := n4_; have HB := n5_; clear n0_ n1_ n2_ n3_ n4_ n5_; clear hg hw hp_))
                       go_roundg k2
                       case measure => have := HJ4.out; have := HK2.out; omega
                       case rel => exact ⟨(y156), (wrap64 (x42_2 + 1)), (by first | rfl | (simp; done) | (simp [*]; done)), H', ⟨by have := HJ4.out; have := HK2.out; omega⟩, ⟨by (with_reducible repeat (first | apply Kd.R_alloc | apply Kd.R_drewN | apply Kd.R_drew)); exact HO_9.out⟩, ⟨by (with_reducible repeat (first | apply Kd.R_alloc | apply Kd.R_drewN | apply Kd.R_drew)); exact HO_40.out⟩, ⟨by (with_reducible repeat (first | apply Kd.V_alloc | apply Kd.V_drewN | apply Kd.V_drew)); exact Kd.V_mono HO_145000.out (fun _ hk => ⟨hk.1.1, ⟨hk.2, ⟨hk.1.2.1, ⟨hk.1.2.2.1, hk.1.2.2.2⟩⟩⟩⟩)⟩, ⟨by (with_reducible repeat (first | refine blk_drewN ?_ _ | refine blk_drew ?_ | refine blk_alloc ?_ _)); exact BK144.out⟩, ⟨by (with_reducible repeat (first | refine blk_drewN ?_ _ | refine blk_drew ?_ | refine blk_alloc ?_ _)); exact BK145.out⟩, ⟨by repeat (first | (with_reducible first | exact HB.out | apply below_alloc | apply pw_below_drewN | apply below_drew1 | refine below_set ?_ GE144.out | refine below_set ?_ GE145.out) | exact HB.out)⟩⟩
                     · rw [if_neg c49] at H
                       exact absurd H (by simp)
                   · rw [if_neg c48] at H
                     exact absurd H (by simp)
                 · rw [if_neg c47] at H
                   exact absurd H (by simp)
               · rw [if_neg c46] at H
                 exact absurd H (by simp)
             · rw [if_neg c45] at H
               have c45b0 : decide (x42_2 < (t146.length : Int)) = false := decide_eq_false c45
               clear c45
               simp only [Option.some.injEq, Prod.mk.injEq] at H
               obtain ⟨rfl, rfl⟩ := H
               go_wp2
               go_ret2
               exact ⟨_, by first | rfl | (simp [errW_none, errW_some] <;> rfl) | (simp [*, errW_none, errW_some] <;> rfl), Kd.V_mono (Kd.R_V (by (with_reducible repeat (first | apply Kd.R_alloc | apply Kd.R_drewN | apply Kd.R_drew)); exact HO_9.out)) (fun k_ hk => by first | exact ⟨(.inr (hk.1)), hk.2⟩ | exact (.inr (hk))), by repeat (first | (with_reducible first | exact HB.out | apply below_alloc | apply pw_below_drewN | apply below_drew1 | refine below_set ?_ GE144.out | refine below_set ?_ GE145.out) | exact HB.out)⟩

/-! ### stripe_New: function 36 -/
def stripe_New.f (a0 : Int) : Option ((List (S67)) × Int) := if a0 < 1 then (some (([] : List (S67)), 1)) else (if a0 > 16 then (some (([] : List (S67)), 1)) else (if 0 ≤ a0 then (if (a0 : Int).toNat ≤ 17592186044416 then (some ((List.replicate (a0 : Int).toNat z67), 0)) else (none)) else (none)))
set_option maxHeartbeats 8000000 in
set_option maxRecDepth 100000 in
theorem stripe_New.calls (a0 : Int) (r1 : List (S67)) (r2 : Int) (w : World) (h : stripe_New.f a0 = some (r1, r2)) :
 Calls Try.prog 36 #[.int .i64 a0] w fun e w' => ∃ v0_ : Value, e = .returned (.tuple #[v0_, .int .i64 r2]) ∧ Kd.R k67 67 w' w.heap.size (fun _ => True) v0_ r1 ∧ Below w.heap.size w w' := by
 have HB := Aside0.mk (Below.refl w.heap.size w)
 have H : (if a0 < 1 then (some (([] : List (S67)), 1)) else (if a0 > 16 then (some (([] : List (S67)), 1)) else (if 0 ≤ a0 then (if (a0 : Int).toNat ≤ 17592186044416 then (some ((List.replicate (a0 : Int).toNat z67), 0)) else (none)) else (none)))) = some (r1, r2) := h
 clear h
 by_cases c2 : a0 < 1
 · rw [if_pos c2] at H
   have c2b0 : decide (a0 < 1) = true := decide_eq_true c2
   clear c2
   simp only [Option.some.injEq, Prod.mk.injEq] at H
   obtain ⟨rfl, rfl⟩ := H
   go_enter Try.func36, Try.ntmps36
   go_wp2
   go_ret2
   exact ⟨_, by first | rfl | (simp [errW_none, errW_some] <;> rfl) | (simp [*, errW_none, errW_some] <;> rfl), by first | exact Kd.R_nil _ _ _ _ _ | exact Kd.N_nil _ _ _ _ _ | exact Kd.V_nil _ _ _ _ _ | exact Kd.Q_nil _ _ _ _ _ | exact Kd.S_nil _ _ _ _ _, by repeat (with_reducible first | exact HB.out | apply below_alloc | apply pw_below_drewN | apply below_drew1)⟩
 · rw [if_neg c2] at H
   have c2b0 : decide (a0 < 1) = false := decide_eq_false c2
   clear c2
   by_cases c3 : a0 > 16
   · rw [if_pos c3] at H
     have c3b0 : decide (16 < a0) = true := decide_eq_true c3
     clear c3
     simp only [Option.some.injEq, Prod.mk.injEq] at H
     obtain ⟨rfl, rfl⟩ := H
     go_enter Try.func36, Try.ntmps36
     go_wp2
     go_ret2
     exact ⟨_, by first | rfl | (simp [errW_none, errW_some] <;> rfl) | (simp [*, errW_none, errW_some] <;> rfl), by first | exact Kd.R_nil _ _ _ _ _ | exact Kd.N_nil _ _ _ _ _ | exact Kd.V_nil _ _ _ _ _ | exact Kd.Q_nil _ _ _ _ _ | exact Kd.S_nil _ _ _ _ _, by repeat (with_reducible first | exact HB.out | apply below_alloc | apply pw_below_drewN | apply below_drew1)⟩
   · rw [if_neg c3] at H
     have c3b0 : decide (16 < a0) = false := decide_eq_false c3
     clear c3
     by_cases c4 : 0 ≤ a0
     · rw [if_pos c4] at H
       have c4b0 := eq_true c4
       have c4b1 : decide (0 ≤ a0) = true := decide_eq_true c4
       clear c4
       by_cases c5 : (a0 : Int).toNat ≤ 17592186044416
       · rw [if_pos c5] at H
         have c5b0 := eq_true c5
         have c5b1 : decide ((a0 : Int).toNat ≤ 17592186044416) = true := decide_eq_true c5
         clear c5
         obtain ⟨y157, hy157⟩ : ∃ y_ : List (S67), y_ = (List.replicate (a0 : Int).toNat z67) := ⟨_, rfl⟩
         replace H : (some (y157, 0)) = some (r1, r2) := by first | (rw [hy157]; with_reducible exact H) | (have H2_ := (Option.bind_some _ _).symm.trans H; rw [hy157]; with_reducible exact H2_) | (have H2_ := (Option.bind_some _ _).symm.trans H; with_reducible exact H2_) | with_reducible exact H | (rw [hy157]; exact H) | exact H
         have Ny157 := Aside0.mk hy157
         clear hy157
         simp only [Option.some.injEq, Prod.mk.injEq] at H
         obtain ⟨rfl, rfl⟩ := H
         go_enter Try.func36, Try.ntmps36
         go_wp2_with (first | ((with_reducible refine gate_dst (N := 11) rfl ?_); refine Kd.R_make k67 _ 67 rfl (N := 11) rfl 40 _ _ rfl a0 rfl rfl Try.underlying40 (.agg #[(.int .i64 0), (.int .i64 0)]) 16 info67 rfl (by decide) (by omega) z67 (ok := fun _ => True) (okp := fun _ => True) (k67_mkM _ _ _ z67 ) (fun _ hk => hk) trivial (of_decide_eq_true (by first | (with_reducible assumption) | assumption)) (Nat.le_trans (Nat.mul_le_mul_right _ (of_decide_eq_true (by first | (with_reducible assumption) | assumption) : a0.toNat ≤ 17592186044416)) (by omega)) (Below.refl _ _) (Nat.le_refl _) ?_; intro v158 w6 ho7 hb hg_ hnew_; clear hg_ hnew_; (first | rw [← Ny157.out] at ho7 | (simp only [Int.reduceToNat] at ho7; rw [← Ny157.out] at ho7)); have n0_ := Aside0.mk (Kd.R_lower ho7 bsz_); have n1_ := Aside0.mk (bst_ hb); clear HB; have HO159 := n0_; have HB := n1_; clear n0_ n1_; clear hb ho7))
         go_ret2
         exact ⟨_, by first | rfl | (simp [errW_none, errW_some] <;> rfl) | (simp [*, errW_none, errW_some] <;> rfl), by (with_reducible repeat (first | apply Kd.R_alloc | apply Kd.R_drewN | apply Kd.R_drew)); exact HO159.out, by repeat (with_reducible first | exact HB.out | apply below_alloc | apply pw_below_drewN | apply below_drew1)⟩
       · rw [if_neg c5] at H
         exact absurd H (by simp)
     · rw [if_neg c4] at H
       exact absurd H (by simp)

/-! ### stripe_Let: function 43 -/
def stripe_Let.l0 : Nat → List (S67) → List Int → Int → Int → Option ((List (S67)))
 | 0, _, _, _, _ => none
 | k + 1, x5, x12, x13, x14 => if x14 < x13 then (if 0 ≤ x14 then (if x14 < (x12.length : Int) then (if 0 ≤ (rd x12 x14) then (if (rd x12 x14) < (x5.length : Int) then (stripe_Let.l0 k (x5.set ((rd x12 x14) : Int).toNat (⟨(rd_T67 x5 (rd x12 x14)).f0, 0⟩ : S67)) x12 x13 (wrap64 (x14 + 1))) else (none)) else (none)) else (none)) else (none)) else (some x5)
def stripe_Let.f (k : Nat) (l0 : List (S67)) (a1 : Int) : Option ((List (S67))) := (slices_Clone.f l0).bind fun t160 => ((stripe_Held.f k l0 a1).bind fun t163 => (stripe_Let.l0 k t160 t163 (t163.length : Int) 0))
theorem stripe_Let.mono_l : ∀ k, (∀ y0 y1 y2 y3, LeO (stripe_Let.l0 k y0 y1 y2 y3) (stripe_Let.l0 (k + 1) y0 y1 y2 y3))
 | 0 => fun _ _ _ _ r h => by simp [stripe_Let.l0] at h
 | k + 1 => by
  have ih0 := stripe_Let.mono_l k
  · intro y0 y1 y2 y3
    unfold stripe_Let.l0
    repeat' first
    | (with_reducible exact ih0 _ _ _ _)
    | (with_reducible exact stripe_Held.mono _ _ _)
    | (with_reducible exact LeO.refl _)
    | (with_reducible exact LeO.none _)
    | (with_reducible refine LeO.ite ?_ ?_)
    | (with_reducible refine LeO.bind ?_ (fun _ => ?_))
    | exact ih0 _ _ _ _
    | exact stripe_Held.mono _ _ _
    | exact LeO.none _
    | refine LeO.ite ?_ ?_
    | refine LeO.bind ?_ (fun _ => ?_)
theorem stripe_Let.mono : ∀ a0 a1 k, LeO (stripe_Let.f k a0 a1) (stripe_Let.f (k + 1) a0 a1) := by
 intro a0 a1 k
 have ih0 := stripe_Let.mono_l k
 unfold stripe_Let.f
 repeat' first
  | (with_reducible exact ih0 _ _ _ _)
  | (with_reducible exact stripe_Held.mono _ _ _)
  | (with_reducible exact LeO.refl _)
  | (with_reducible exact LeO.none _)
  | (with_reducible refine LeO.ite ?_ ?_)
  | (with_reducible refine LeO.bind ?_ (fun _ => ?_))
  | exact ih0 _ _ _ _
  | exact stripe_Held.mono _ _ _
  | exact LeO.none _
  | refine LeO.ite ?_ ?_
  | refine LeO.bind ?_ (fun _ => ?_)
set_option maxHeartbeats 8000000 in
set_option maxRecDepth 100000 in
theorem stripe_Let.calls (k : Nat) (A0 : Option Addr) (c0 : Nat) (l0 : List (S67)) (a1 : Int) (r : List (S67)) (w : World) (hr0 : Kd.C k67 w A0 l0.length l0) (hc0 : l0.length ≤ c0) (h : stripe_Let.f k l0 a1 = some r) :
 Calls Try.prog 43 #[.slice A0 l0.length c0, .int .i64 a1] w fun e w' => ∃ v0_ : Value, e = .returned (v0_) ∧ Kd.R k67 67 w' w.heap.size (fun _ => True) v0_ r ∧ Below w.heap.size w w' := by
 have HR0 := Aside0.mk hr0
 have HC0 := Aside0.mk hc0
 clear hr0 hc0
 have HB := Aside0.mk (Below.refl w.heap.size w)
 have H : ((slices_Clone.f l0).bind fun t160 => ((stripe_Held.f k l0 a1).bind fun t163 => (stripe_Let.l0 k t160 t163 (t163.length : Int) 0))) = some r := h
 clear h
 replace H := Option.bind_eq_some_iff.mp H
 obtain ⟨t160, A30, H⟩ := H
 replace H : ((stripe_Held.f k l0 a1).bind fun t163 => (stripe_Let.l0 k t160 t163 (t163.length : Int) 0)) = some r := H
 have A3 := Aside0.mk A30
 clear A30
 replace H := Option.bind_eq_some_iff.mp H
 obtain ⟨t163, A40, H⟩ := H
 replace H : (stripe_Let.l0 k t160 t163 (t163.length : Int) 0) = some r := H
 have A4 := Aside0.mk A40
 clear A40
 have H' := Aside0.mk H
 clear H
 go_enter Try.func43, Try.ntmps43
 go_wp2_with (first | ((with_reducible refine gate_callee (f := 61) rfl ?_); refine goesL_ (some 9) rfl rfl Try.func61 (by kernel_rfl) rfl #[.slice A0 l0.length c0] rfl (by (try simp only [List.map_toArray, List.map_cons, List.map_nil]); first | done | rfl) ?_; (with_reducible refine (slices_Clone.calls _ _ l0 t160 _ ?side1 ?side2 A3.out).mono ?_); (case side1 => repeat (first | exact HR0.out | with_reducible first | refine Kd.C_alloc ?_ _ | refine Kd.C_drewN ?_ _ | refine Kd.C_drew ?_)); (case side2 => exact HC0.out); rintro e w5 ⟨v161, rfl, ho0, hb⟩; refine ⟨_, rfl, ?_⟩; have n0_ := Aside0.mk (Kd.R_lower ho0 bsz_); have n1_ := Aside0.mk (bst_ hb); clear HB; have HO162 := n0_; have HB := n1_; clear n0_ n1_; (try clear hb); (try clear hb2); (try clear hk); (try clear hi); (try clear ho0)) | ((with_reducible refine gate_callee (f := 40) rfl ?_); refine goesL_ (some 12) rfl rfl Try.func40 (by kernel_rfl) rfl #[.slice A0 l0.length c0, .int .i64 a1] rfl (by (try simp only [List.map_toArray, List.map_cons, List.map_nil]); first | done | rfl) ?_; (with_reducible refine (stripe_Held.calls k _ _ l0 a1 t163 _ ?side1 ?side2 A4.out).mono ?_); (case side1 => repeat (first | exact (Kd.C_below HR0.out HB.out) | with_reducible first | refine Kd.C_alloc ?_ _ | refine Kd.C_drewN ?_ _ | refine Kd.C_drew ?_)); (case side2 => exact HC0.out); rintro e w6 ⟨v164, rfl, ho0, hb⟩; refine ⟨_, rfl, ?_⟩; have n0_ := Aside0.mk (Kd.R_below (by (with_reducible repeat (first | apply Kd.R_alloc | apply Kd.R_drewN | apply Kd.R_drew)); exact HO162.out) hb); have n1_ := Aside0.mk (Kd.R_lower ho0 bsz_); have n2_ := Aside0.mk (bst_ hb); clear HO162; clear HB; have HO162 := n0_; have HO165 := n1_; have HB := n2_; clear n0_ n1_ n2_; (try clear hb); (try clear hb2); (try clear hk); (try clear hi); (try clear ho0); obtain ⟨Ao7, co7, eo7⟩ := Kd.R_slice HO165.out; subst eo7))
 go_loopg [14] k (fun kq v14 w' => ∃ (x5_1 : List (S67)) (x14_1 : Int), v14 = .int .i64 x14_1 ∧ Aside0 (stripe_Let.l0 kq x5_1 t163 (t163.length : Int) x14_1 = some r) ∧ Aside0 (kq ≤ k) ∧ Aside0 (Kd.R k67 67 w' w.heap.size (fun _ => True) v161 x5_1) ∧ Aside0 (Kd.R (Kd.int .i64) 3 w' w.heap.size (fun _ => True) (.slice Ao7 t163.length co7) t163) ∧ Aside0 (Below w.heap.size w w'))
 case atStart => exact ⟨(t160), (0), (by first | rfl | (simp; done) | (simp [*]; done)), H', ⟨Nat.le_refl _⟩, ⟨by (with_reducible repeat (first | apply Kd.R_alloc | apply Kd.R_drewN | apply Kd.R_drew)); exact HO162.out⟩, ⟨by (with_reducible repeat (first | apply Kd.R_alloc | apply Kd.R_drewN | apply Kd.R_drew)); exact HO165.out⟩, ⟨by repeat (with_reducible first | exact HB.out | apply below_alloc | apply pw_below_drewN | apply below_drew1)⟩⟩
 case round =>
  clear H'
  try clear p2
  try clear c4
  try clear c6
  obtain ⟨x5_1, x14_1, rfl, HA, HK1, HO_5, HO_12, HB⟩ := hrel
  cases gk with
  | zero => exact absurd HA.out (by simp [stripe_Let.l0])
  | succ k1 =>
   have H := HA.out
   clear HA
   simp only [stripe_Let.l0] at H
   by_cases c8 : x14_1 < (t163.length : Int)
   · rw [if_pos c8] at H
     have c8b0 : decide (x14_1 < (t163.length : Int)) = true := decide_eq_true c8
     clear c8
     by_cases c9 : 0 ≤ x14_1
     · rw [if_pos c9] at H
       have c9b0 : decide (0 ≤ x14_1) = true := decide_eq_true c9
       clear c9
       by_cases c10 : x14_1 < (t163.length : Int)
       · rw [if_pos c10] at H
         have c10b0 : decide (x14_1 < (t163.length : Int)) = true := decide_eq_true c10
         clear c10
         by_cases c11 : 0 ≤ (rd t163 x14_1)
         · rw [if_pos c11] at H
           have c11b0 : decide (0 ≤ (rd t163 x14_1)) = true := decide_eq_true c11
           clear c11
           by_cases c12 : (rd t163 x14_1) < (x5_1.length : Int)
           · rw [if_pos c12] at H
             have c12b0 : decide ((rd t163 x14_1) < (x5_1.length : Int)) = true := decide_eq_true c12
             clear c12
             obtain ⟨y167, hy167⟩ : ∃ y_ : List (S67), y_ = (x5_1.set ((rd t163 x14_1) : Int).toNat (⟨(rd_T67 x5_1 (rd t163 x14_1)).f0, 0⟩ : S67)) := ⟨_, rfl⟩
             replace H : (stripe_Let.l0 k1 y167 t163 (t163.length : Int) (wrap64 (x14_1 + 1))) = some r := by first | (rw [hy167]; with_reducible exact H) | (have H2_ := (Option.bind_some _ _).symm.trans H; rw [hy167]; with_reducible exact H2_) | (have H2_ := (Option.bind_some _ _).symm.trans H; with_reducible exact H2_) | with_reducible exact H | (rw [hy167]; exact H) | exact H
             have Ny167 := Aside0.mk hy167
             clear hy167
             have H' := Aside0.mk H
             clear H
             have p166 : 0 ≤ (x14_1 : Int) := of_decide_eq_true (by first | (with_reducible assumption) | assumption)
             have q166 : x14_1 < (t163.length : Int) := of_decide_eq_true (by first | (with_reducible assumption) | assumption)
             obtain ⟨ad166, e166, hx166_0⟩ := Kd.at_int (Kd.R_reads' HO_12.out).2.2 x14_1 p166 q166
             cases e166
             replace p166 := eq_true p166
             replace q166 := eq_true q166
             have p13 : 0 ≤ ((rd t163 x14_1) : Int) := of_decide_eq_true (by first | (with_reducible assumption) | assumption)
             have q13 : ((rd t163 x14_1) : Int) < ((x5_1.length : Int) : Int) := of_decide_eq_true (by first | (with_reducible assumption) | assumption)
             obtain ⟨go13, co13, eo13, gb13, gl13, cl13, HG13⟩ := Kd.R_form HO_5.out (by omega)
             (first | cases eo13 | (injection eo13 with ea_ en_ ec_; (first | subst ea_ | (injection ea_ with ea_; subst ea_)); subst ec_; clear en_))
             have GB13 := Aside0.mk gb13
             have GG13 := Aside0.mk HG13
             clear gb13 gl13 HG13
             obtain ⟨ce13, hcl13, hM13, hcc13, hfr13⟩ := Kd.R_elem HO_5.out z67 ((rd t163 x14_1) : Int) p13 q13
             obtain rfl := k67_openM hM13
             have hx13_0 : wr.cell? ⟨go13, ((rd t163 x14_1) : Int).toNat * 2, none⟩ = some (.int .i64 ((rd_T67 x5_1 (rd t163 x14_1)).f0)) := hcc13 0 _ rfl
             have hx13_1 : wr.cell? ⟨go13, ((rd t163 x14_1) : Int).toNat * 2 + 1, none⟩ = some (.int .i64 ((rd_T67 x5_1 (rd t163 x14_1)).f1)) := hcc13 1 _ rfl
             have hf13_0 : wr.frozen? ⟨go13, ((rd t163 x14_1) : Int).toNat * 2, none⟩ = false := hfr13 0
             have hf13_1 : wr.frozen? ⟨go13, ((rd t163 x14_1) : Int).toNat * 2 + 1, none⟩ = false := hfr13 1
             clear hcl13 hcc13 hfr13 hM13
             replace p13 := eq_true p13
             replace q13 := eq_true q13
             have HX14 := Aside0.mk (show Kd.R k67 67 wr w.heap.size (fun _ => True) (.slice (some ⟨go13, 0, none⟩) x5_1.length co13) x5_1 from (by (with_reducible repeat (first | apply Kd.R_alloc | apply Kd.R_drewN | apply Kd.R_drew)); exact HO_5.out))
             obtain ⟨ce14, hcl14, hM14, hcc14, hfr14⟩ := Kd.R_elem HX14.out z67 ((rd t163 x14_1) : Int) (of_decide_eq_true (by first | (with_reducible assumption) | assumption)) (by have h_ : ((rd t163 x14_1) : Int) < ((x5_1.length : Int) : Int) := of_decide_eq_true (by first | (with_reducible assumption) | assumption); first | exact h_ | (have e_ := (Kd.R_reads' HO_5.out).1; omega) | simpa using h_)
             obtain rfl := k67_openM hM14
             have HP14 := Kd.R_seg HX14.out ((rd t163 x14_1) : Int) (of_decide_eq_true (by first | (with_reducible assumption) | assumption)) (by have h_ : ((rd t163 x14_1) : Int) < ((x5_1.length : Int) : Int) := of_decide_eq_true (by first | (with_reducible assumption) | assumption); first | exact h_ | (have e_ := (Kd.R_reads' HO_5.out).1; omega) | simpa using h_) (seg := [.int .i64 0]) (j := 1) hcl14 hcc14 (show 2 ≤ 2 from by decide) (x' := (⟨(rd_T67 x5_1 (rd t163 x14_1)).f0, 0⟩ : S67)) (k67_mkM _ _ _ (⟨(rd_T67 x5_1 (rd t163 x14_1)).f0, 0⟩ : S67) ) (fun _ hk => hk)
             have hx14_1 := hcc14 1 _ rfl
             (try simp only [show (k67).sz = 2 from rfl, Nat.mul_one, Nat.add_zero] at hx14_1)
             have hf14_1 := hfr14 1
             (try simp only [show (k67).sz = 2 from rfl, Nat.mul_one, Nat.add_zero] at hf14_1)
             clear hcl14 hcc14 hfr14 hM14
             go_wp2_with (first | ((with_reducible refine gate_store (t := 3) (p := 21) rfl ?_); refine store_event (t := 3) (p := 21) (v := ?vo_w15) (w1 := (wr.setCell ⟨go13, ((rd t163 x14_1) : Int).toNat * 2 + 1, none⟩ (.int .i64 0))) ?hg ?ho ?hn ?hr ?_; (case ho => rfl); (case hg => rfl); (case hn => rfl); (case hr => first | (go_simp; done) | (go_simp; rfl)); intro w15 hw; have hg : wr.grownBy w15 (some go13) := (by rw [hw]; exact HP14.2); have hp_ : Kd.R k67 67 w15 w.heap.size (fun _ => True) (.slice (some ⟨go13, 0, none⟩) x5_1.length co13) y167 := (by rw [hw, Ny167.out]; exact HP14.1); clear HP14; have n0_ := Aside0.mk (hp_); have n1_ := Aside0.mk (Kd.R_over' (v := (.slice (some ⟨go13, 0, none⟩) x5_1.length co13)) (by (with_reducible repeat (first | apply Kd.R_alloc | apply Kd.R_drewN | apply Kd.R_drew)); exact HO_12.out) (Kd.R_typed HO_5.out) (by decide) hg); have n2_ := Aside0.mk ((by rw [hw]; exact below_set (HB.out) GB13.out : Below w.heap.size w w15)); clear HO_5; clear HO_12; clear HB; have HO_5 := n0_; have HO_12 := n1_; have HB := n2_; clear n0_ n1_ n2_; clear hg hw hp_))
             go_roundg k1
             case measure => have := HK1.out; omega
             case rel => exact ⟨(y167), (wrap64 (x14_1 + 1)), (by first | rfl | (simp; done) | (simp [*]; done)), H', ⟨by have := HK1.out; omega⟩, ⟨by (with_reducible repeat (first | apply Kd.R_alloc | apply Kd.R_drewN | apply Kd.R_drew)); exact HO_5.out⟩, ⟨by (with_reducible repeat (first | apply Kd.R_alloc | apply Kd.R_drewN | apply Kd.R_drew)); exact HO_12.out⟩, ⟨by repeat (with_reducible first | exact HB.out | apply below_alloc | apply pw_below_drewN | apply below_drew1)⟩⟩
           · rw [if_neg c12] at H
             exact absurd H (by simp)
         · rw [if_neg c11] at H
           exact absurd H (by simp)
       · rw [if_neg c10] at H
         exact absurd H (by simp)
     · rw [if_neg c9] at H
       exact absurd H (by simp)
   · rw [if_neg c8] at H
     have c8b0 : decide (x14_1 < (t163.length : Int)) = false := decide_eq_false c8
     clear c8
     obtain rfl := Option.some.inj H
     go_wp2
     go_ret
     exact ⟨_, by first | rfl | (simp [errW_none, errW_some] <;> rfl) | (simp [*, errW_none, errW_some] <;> rfl), by (with_reducible repeat (first | apply Kd.R_alloc | apply Kd.R_drewN | apply Kd.R_drew)); exact HO_5.out, by repeat (with_reducible first | exact HB.out | apply below_alloc | apply pw_below_drewN | apply below_drew1)⟩

/-! ### handshakerlaw03_awake: function 33 -/
def handshakerlaw03_awake.f (k : Nat)  : Option (Bool) := (stripe_New.f 2).bind fun bt168 => ((stripe_Lock.f k bt168.1 3 (([1] : List Int))).bind fun bt175 => ((stripe_Lock.f k bt175.1 4 (([0, 3] : List Int))).bind fun bt182 => ((stripe_Stamp.f k bt175.1 3 7).bind fun bt186 => ((stripe_Stamp.f k bt175.1 3 0).bind fun bt190 => (if bt168.2 = 0 then (if bt175.2 = 0 then (if (bt175.1.length : Int) = 2 then (if 1 < (bt175.1.length : Int) then (if ((rd_T67 bt175.1 1).f1) = 3 then (if bt182.2 = 7 then (if bt186.2 = 0 then (if 1 < (bt186.1.length : Int) then (if (((rd_T67 bt186.1 1).f0) == 7 && (((rd_T67 bt186.1 1).f1) == 0)) = true then (if bt190.2 = 6 then ((stripe_Of.f k bt168.1 (([1, 3, 4] : List Int))).bind fun t199 => ((handshakerref03_Numbers.f k t199 (([0, 1] : List Int))).bind fun t205 => (if t205 = true then ((stripe_Held.f k bt175.1 3).bind fun t206 => ((handshakerref03_Numbers.f k t206 (([1] : List Int))).bind fun t212 => (if t212 = true then ((stripe_Let.f k bt175.1 3).bind fun t213 => ((stripe_Held.f k t213 3).bind fun t216 => (if (t216.length : Int) = 0 then ((stripe_Right.f bt186.1).bind fun t219 => (if t219 = true then (some true) else (some false))) else (some false)))) else (some false)))) else (some false)))) else (some false)) else (some false)) else (none)) else (some false)) else (some false)) else (some false)) else (none)) else (some false)) else (some false)) else (some false))))))
theorem handshakerlaw03_awake.mono : ∀ k, LeO (handshakerlaw03_awake.f k ) (handshakerlaw03_awake.f (k + 1) ) := by
 intro  k
 unfold handshakerlaw03_awake.f
 repeat' first
  | (with_reducible exact handshakerref03_Numbers.mono _ _ _)
  | (with_reducible exact stripe_Held.mono _ _ _)
  | (with_reducible exact stripe_Let.mono _ _ _)
  | (with_reducible exact stripe_Lock.mono _ _ _ _)
  | (with_reducible exact stripe_Of.mono _ _ _)
  | (with_reducible exact stripe_Stamp.mono _ _ _ _)
  | (with_reducible exact LeO.refl _)
  | (with_reducible exact LeO.none _)
  | (with_reducible refine LeO.ite ?_ ?_)
  | (with_reducible refine LeO.bind ?_ (fun _ => ?_))
  | exact handshakerref03_Numbers.mono _ _ _
  | exact stripe_Held.mono _ _ _
  | exact stripe_Let.mono _ _ _
  | exact stripe_Lock.mono _ _ _ _
  | exact stripe_Of.mono _ _ _
  | exact stripe_Stamp.mono _ _ _ _
  | exact LeO.none _
  | refine LeO.ite ?_ ?_
  | refine LeO.bind ?_ (fun _ => ?_)
set_option maxHeartbeats 8000000 in
set_option maxRecDepth 100000 in
theorem handshakerlaw03_awake.callsT (k : Nat)  (r : Bool) (w : World) (HT : Aside0 (r = true)) (h : handshakerlaw03_awake.f k  = some r) :
 Calls Try.prog 33 #[] w fun e w' => e = .returned (.bool r) ∧ Below w.heap.size w w' := by
 have hu67 := Try.underlying67
 have HB := Aside0.mk (Below.refl w.heap.size w)
 have H : ((stripe_New.f 2).bind fun bt168 => ((stripe_Lock.f k bt168.1 3 (([1] : List Int))).bind fun bt175 => ((stripe_Lock.f k bt175.1 4 (([0, 3] : List Int))).bind fun bt182 => ((stripe_Stamp.f k bt175.1 3 7).bind fun bt186 => ((stripe_Stamp.f k bt175.1 3 0).bind fun bt190 => (if bt168.2 = 0 then (if bt175.2 = 0 then (if (bt175.1.length : Int) = 2 then (if 1 < (bt175.1.length : Int) then (if ((rd_T67 bt175.1 1).f1) = 3 then (if bt182.2 = 7 then (if bt186.2 = 0 then (if 1 < (bt186.1.length : Int) then (if (((rd_T67 bt186.1 1).f0) == 7 && (((rd_T67 bt186.1 1).f1) == 0)) = true then (if bt190.2 = 6 then ((stripe_Of.f k bt168.1 (([1, 3, 4] : List Int))).bind fun t199 => ((handshakerref03_Numbers.f k t199 (([0, 1] : List Int))).bind fun t205 => (if t205 = true then ((stripe_Held.f k bt175.1 3).bind fun t206 => ((handshakerref03_Numbers.f k t206 (([1] : List Int))).bind fun t212 => (if t212 = true then ((stripe_Let.f k bt175.1 3).bind fun t213 => ((stripe_Held.f k t213 3).bind fun t216 => (if (t216.length : Int) = 0 then ((stripe_Right.f bt186.1).bind fun t219 => (if t219 = true then (some true) else (some false))) else (some false)))) else (some false)))) else (some false)))) else (some false)) else (some false)) else (none)) else (some false)) else (some false)) else (some false)) else (none)) else (some false)) else (some false)) else (some false))))))) = some r := h
 clear h
 replace H := Option.bind_eq_some_iff.mp H
 obtain ⟨⟨t168, t169⟩, A10, H⟩ := H
 replace H : ((stripe_Lock.f k t168 3 (([1] : List Int))).bind fun bt175 => ((stripe_Lock.f k bt175.1 4 (([0, 3] : List Int))).bind fun bt182 => ((stripe_Stamp.f k bt175.1 3 7).bind fun bt186 => ((stripe_Stamp.f k bt175.1 3 0).bind fun bt190 => (if t169 = 0 then (if bt175.2 = 0 then (if (bt175.1.length : Int) = 2 then (if 1 < (bt175.1.length : Int) then (if ((rd_T67 bt175.1 1).f1) = 3 then (if bt182.2 = 7 then (if bt186.2 = 0 then (if 1 < (bt186.1.length : Int) then (if (((rd_T67 bt186.1 1).f0) == 7 && (((rd_T67 bt186.1 1).f1) == 0)) = true then (if bt190.2 = 6 then ((stripe_Of.f k t168 (([1, 3, 4] : List Int))).bind fun t199 => ((handshakerref03_Numbers.f k t199 (([0, 1] : List Int))).bind fun t205 => (if t205 = true then ((stripe_Held.f k bt175.1 3).bind fun t206 => ((handshakerref03_Numbers.f k t206 (([1] : List Int))).bind fun t212 => (if t212 = true then ((stripe_Let.f k bt175.1 3).bind fun t213 => ((stripe_Held.f k t213 3).bind fun t216 => (if (t216.length : Int) = 0 then ((stripe_Right.f bt186.1).bind fun t219 => (if t219 = true then (some true) else (some false))) else (some false)))) else (some false)))) else (some false)))) else (some false)) else (some false)) else (none)) else (some false)) else (some false)) else (some false)) else (none)) else (some false)) else (some false)) else (some false)))))) = some r := H
 have A1 := Aside0.mk A10
 clear A10
 obtain ⟨y172, hy172⟩ : ∃ y_ : List Int, y_ = (([1] : List Int)) := ⟨_, rfl⟩
 replace H : ((stripe_Lock.f k t168 3 y172).bind fun bt175 => ((stripe_Lock.f k bt175.1 4 (([0, 3] : List Int))).bind fun bt182 => ((stripe_Stamp.f k bt175.1 3 7).bind fun bt186 => ((stripe_Stamp.f k bt175.1 3 0).bind fun bt190 => (if t169 = 0 then (if bt175.2 = 0 then (if (bt175.1.length : Int) = 2 then (if 1 < (bt175.1.length : Int) then (if ((rd_T67 bt175.1 1).f1) = 3 then (if bt182.2 = 7 then (if bt186.2 = 0 then (if 1 < (bt186.1.length : Int) then (if (((rd_T67 bt186.1 1).f0) == 7 && (((rd_T67 bt186.1 1).f1) == 0)) = true then (if bt190.2 = 6 then ((stripe_Of.f k t168 (([1, 3, 4] : List Int))).bind fun t199 => ((handshakerref03_Numbers.f k t199 (([0, 1] : List Int))).bind fun t205 => (if t205 = true then ((stripe_Held.f k bt175.1 3).bind fun t206 => ((handshakerref03_Numbers.f k t206 (([1] : List Int))).bind fun t212 => (if t212 = true then ((stripe_Let.f k bt175.1 3).bind fun t213 => ((stripe_Held.f k t213 3).bind fun t216 => (if (t216.length : Int) = 0 then ((stripe_Right.f bt186.1).bind fun t219 => (if t219 = true then (some true) else (some false))) else (some false)))) else (some false)))) else (some false)))) else (some false)) else (some false)) else (none)) else (some false)) else (some false)) else (some false)) else (none)) else (some false)) else (some false)) else (some false)))))) = some r := by first | (rw [hy172]; with_reducible exact H) | (have H2_ := (Option.bind_some _ _).symm.trans H; rw [hy172]; with_reducible exact H2_) | (have H2_ := (Option.bind_some _ _).symm.trans H; with_reducible exact H2_) | with_reducible exact H | (rw [hy172]; exact H) | exact H
 have Ny172 := Aside0.mk hy172
 clear hy172
 replace H := Option.bind_eq_some_iff.mp H
 obtain ⟨⟨t175, t178⟩, A20, H⟩ := H
 replace H : ((stripe_Lock.f k t175 4 (([0, 3] : List Int))).bind fun bt182 => ((stripe_Stamp.f k t175 3 7).bind fun bt186 => ((stripe_Stamp.f k t175 3 0).bind fun bt190 => (if t169 = 0 then (if t178 = 0 then (if (t175.length : Int) = 2 then (if 1 < (t175.length : Int) then (if ((rd_T67 t175 1).f1) = 3 then (if bt182.2 = 7 then (if bt186.2 = 0 then (if 1 < (bt186.1.length : Int) then (if (((rd_T67 bt186.1 1).f0) == 7 && (((rd_T67 bt186.1 1).f1) == 0)) = true then (if bt190.2 = 6 then ((stripe_Of.f k t168 (([1, 3, 4] : List Int))).bind fun t199 => ((handshakerref03_Numbers.f k t199 (([0, 1] : List Int))).bind fun t205 => (if t205 = true then ((stripe_Held.f k t175 3).bind fun t206 => ((handshakerref03_Numbers.f k t206 (([1] : List Int))).bind fun t212 => (if t212 = true then ((stripe_Let.f k t175 3).bind fun t213 => ((stripe_Held.f k t213 3).bind fun t216 => (if (t216.length : Int) = 0 then ((stripe_Right.f bt186.1).bind fun t219 => (if t219 = true then (some true) else (some false))) else (some false)))) else (some false)))) else (some false)))) else (some false)) else (some false)) else (none)) else (some false)) else (some false)) else (some false)) else (none)) else (some false)) else (some false)) else (some false))))) = some r := H
 have A2 := Aside0.mk A20
 clear A20
 obtain ⟨y179, hy179⟩ : ∃ y_ : List Int, y_ = (([0, 3] : List Int)) := ⟨_, rfl⟩
 replace H : ((stripe_Lock.f k t175 4 y179).bind fun bt182 => ((stripe_Stamp.f k t175 3 7).bind fun bt186 => ((stripe_Stamp.f k t175 3 0).bind fun bt190 => (if t169 = 0 then (if t178 = 0 then (if (t175.length : Int) = 2 then (if 1 < (t175.length : Int) then (if ((rd_T67 t175 1).f1) = 3 then (if bt182.2 = 7 then (if bt186.2 = 0 then (if 1 < (bt186.1.length : Int) then (if (((rd_T67 bt186.1 1).f0) == 7 && (((rd_T67 bt186.1 1).f1) == 0)) = true then (if bt190.2 = 6 then ((stripe_Of.f k t168 (([1, 3, 4] : List Int))).bind fun t199 => ((handshakerref03_Numbers.f k t199 (([0, 1] : List Int))).bind fun t205 => (if t205 = true then ((stripe_Held.f k t175 3).bind fun t206 => ((handshakerref03_Numbers.f k t206 (([1] : List Int))).bind fun t212 => (if t212 = true then ((stripe_Let.f k t175 3).bind fun t213 => ((stripe_Held.f k t213 3).bind fun t216 => (if (t216.length : Int) = 0 then ((stripe_Right.f bt186.1).bind fun t219 => (if t219 = true then (some true) else (some false))) else (some false)))) else (some false)))) else (some false)))) else (some false)) else (some false)) else (none)) else (some false)) else (some false)) else (some false)) else (none)) else (some false)) else (some false)) else (some false))))) = some r := by first | (rw [hy179]; with_reducible exact H) | (have H2_ := (Option.bind_some _ _).symm.trans H; rw [hy179]; with_reducible exact H2_) | (have H2_ := (Option.bind_some _ _).symm.trans H; with_reducible exact H2_) | with_reducible exact H | (rw [hy179]; exact H) | exact H
 have Ny179 := Aside0.mk hy179
 clear hy179
 replace H := Option.bind_eq_some_iff.mp H
 obtain ⟨⟨t182, t185⟩, A30, H⟩ := H
 replace H : ((stripe_Stamp.f k t175 3 7).bind fun bt186 => ((stripe_Stamp.f k t175 3 0).bind fun bt190 => (if t169 = 0 then (if t178 = 0 then (if (t175.length : Int) = 2 then (if 1 < (t175.length : Int) then (if ((rd_T67 t175 1).f1) = 3 then (if t185 = 7 then (if bt186.2 = 0 then (if 1 < (bt186.1.length : Int) then (if (((rd_T67 bt186.1 1).f0) == 7 && (((rd_T67 bt186.1 1).f1) == 0)) = true then (if bt190.2 = 6 then ((stripe_Of.f k t168 (([1, 3, 4] : List Int))).bind fun t199 => ((handshakerref03_Numbers.f k t199 (([0, 1] : List Int))).bind fun t205 => (if t205 = true then ((stripe_Held.f k t175 3).bind fun t206 => ((handshakerref03_Numbers.f k t206 (([1] : List Int))).bind fun t212 => (if t212 = true then ((stripe_Let.f k t175 3).bind fun t213 => ((stripe_Held.f k t213 3).bind fun t216 => (if (t216.length : Int) = 0 then ((stripe_Right.f bt186.1).bind fun t219 => (if t219 = true then (some true) else (some false))) else (some false)))) else (some false)))) else (some false)))) else (some false)) else (some false)) else (none)) else (some false)) else (some false)) else (some false)) else (none)) else (some false)) else (some false)) else (some false)))) = some r := H
 have A3 := Aside0.mk A30
 clear A30
 replace H := Option.bind_eq_some_iff.mp H
 obtain ⟨⟨t186, t189⟩, A40, H⟩ := H
 replace H : ((stripe_Stamp.f k t175 3 0).bind fun bt190 => (if t169 = 0 then (if t178 = 0 then (if (t175.length : Int) = 2 then (if 1 < (t175.length : Int) then (if ((rd_T67 t175 1).f1) = 3 then (if t185 = 7 then (if t189 = 0 then (if 1 < (t186.length : Int) then (if (((rd_T67 t186 1).f0) == 7 && (((rd_T67 t186 1).f1) == 0)) = true then (if bt190.2 = 6 then ((stripe_Of.f k t168 (([1, 3, 4] : List Int))).bind fun t199 => ((handshakerref03_Numbers.f k t199 (([0, 1] : List Int))).bind fun t205 => (if t205 = true then ((stripe_Held.f k t175 3).bind fun t206 => ((handshakerref03_Numbers.f k t206 (([1] : List Int))).bind fun t212 => (if t212 = true then ((stripe_Let.f k t175 3).bind fun t213 => ((stripe_Held.f k t213 3).bind fun t216 => (if (t216.length : Int) = 0 then ((stripe_Right.f t186).bind fun t219 => (if t219 = true then (some true) else (some false))) else (some false)))) else (some false)))) else (some false)))) else (some false)) else (some false)) else (none)) else (some false)) else (some false)) else (some false)) else (none)) else (some false)) else (some false)) else (some false))) = some r := H
 have A4 := Aside0.mk A40
 clear A40
 replace H := Option.bind_eq_some_iff.mp H
 obtain ⟨⟨t190, t193⟩, A50, H⟩ := H
 replace H : (if t169 = 0 then (if t178 = 0 then (if (t175.length : Int) = 2 then (if 1 < (t175.length : Int) then (if ((rd_T67 t175 1).f1) = 3 then (if t185 = 7 then (if t189 = 0 then (if 1 < (t186.length : Int) then (if (((rd_T67 t186 1).f0) == 7 && (((rd_T67 t186 1).f1) == 0)) = true then (if t193 = 6 then ((stripe_Of.f k t168 (([1, 3, 4] : List Int))).bind fun t199 => ((handshakerref03_Numbers.f k t199 (([0, 1] : List Int))).bind fun t205 => (if t205 = true then ((stripe_Held.f k t175 3).bind fun t206 => ((handshakerref03_Numbers.f k t206 (([1] : List Int))).bind fun t212 => (if t212 = true then ((stripe_Let.f k t175 3).bind fun t213 => ((stripe_Held.f k t213 3).bind fun t216 => (if (t216.length : Int) = 0 then ((stripe_Right.f t186).bind fun t219 => (if t219 = true then (some true) else (some false))) else (some false)))) else (some false)))) else (some false)))) else (some false)) else (some false)) else (none)) else (some false)) else (some false)) else (some false)) else (none)) else (some false)) else (some false)) else (some false)) = some r := H
 have A5 := Aside0.mk A50
 clear A50
 by_cases c6 : t169 = 0
 · rw [if_pos c6] at H
   have c6b0 : (t169 == 0) = true := beq_iff_eq.mpr c6
   have c6b1 : (t169 != 0) = false := bne_eq_false_iff_eq.mpr c6
   clear c6
   by_cases c7 : t178 = 0
   · rw [if_pos c7] at H
     have c7b0 : (t178 == 0) = true := beq_iff_eq.mpr c7
     have c7b1 : (t178 != 0) = false := bne_eq_false_iff_eq.mpr c7
     clear c7
     by_cases c8 : (t175.length : Int) = 2
     · rw [if_pos c8] at H
       have c8b0 : ((t175.length : Int) == 2) = true := beq_iff_eq.mpr c8
       have c8b1 : ((t175.length : Int) != 2) = false := bne_eq_false_iff_eq.mpr c8
       clear c8
       by_cases c9 : 1 < (t175.length : Int)
       · rw [if_pos c9] at H
         have c9b0 : decide (1 < (t175.length : Int)) = true := decide_eq_true c9
         have c9b1 : decide (1 < t175.length) = true := decide_eq_true (by omega)
         clear c9
         by_cases c10 : ((rd_T67 t175 1).f1) = 3
         · rw [if_pos c10] at H
           have c10b0 : (((rd_T67 t175 1).f1) == 3) = true := beq_iff_eq.mpr c10
           have c10b1 : (((rd_T67 t175 1).f1) != 3) = false := bne_eq_false_iff_eq.mpr c10
           clear c10
           by_cases c11 : t185 = 7
           · rw [if_pos c11] at H
             have c11b0 : (t185 == 7) = true := beq_iff_eq.mpr c11
             have c11b1 : (t185 != 7) = false := bne_eq_false_iff_eq.mpr c11
             clear c11
             by_cases c12 : t189 = 0
             · rw [if_pos c12] at H
               have c12b0 : (t189 == 0) = true := beq_iff_eq.mpr c12
               have c12b1 : (t189 != 0) = false := bne_eq_false_iff_eq.mpr c12
               clear c12
               by_cases c13 : 1 < (t186.length : Int)
               · rw [if_pos c13] at H
                 have c13b0 : decide (1 < (t186.length : Int)) = true := decide_eq_true c13
                 have c13b1 : decide (1 < t186.length) = true := decide_eq_true (by omega)
                 clear c13
                 by_cases c14 : (((rd_T67 t186 1).f0) == 7 && (((rd_T67 t186 1).f1) == 0)) = true
                 · rw [if_pos c14] at H
                   have c14b0 : (((rd_T67 t186 1).f0) == 7 && (((rd_T67 t186 1).f1) == 0)) = true := c14
                   (try (have c14b1 : decide (((rd_T67 t186 1).f0) = 7 && (((rd_T67 t186 1).f1) == 0)) = true := by simpa using c14))
                   (try (have c14b2 : (((rd_T67 t186 1).f0) == 7 && (((rd_T67 t186 1).f1) == 0)) = true := by simpa using c14))
                   clear c14
                   by_cases c15 : t193 = 6
                   · rw [if_pos c15] at H
                     have c15b0 : (t193 == 6) = true := beq_iff_eq.mpr c15
                     have c15b1 : (t193 != 6) = false := bne_eq_false_iff_eq.mpr c15
                     clear c15
                     obtain ⟨y196, hy196⟩ : ∃ y_ : List Int, y_ = (([1, 3, 4] : List Int)) := ⟨_, rfl⟩
                     replace H : ((stripe_Of.f k t168 y196).bind fun t199 => ((handshakerref03_Numbers.f k t199 (([0, 1] : List Int))).bind fun t205 => (if t205 = true then ((stripe_Held.f k t175 3).bind fun t206 => ((handshakerref03_Numbers.f k t206 (([1] : List Int))).bind fun t212 => (if t212 = true then ((stripe_Let.f k t175 3).bind fun t213 => ((stripe_Held.f k t213 3).bind fun t216 => (if (t216.length : Int) = 0 then ((stripe_Right.f t186).bind fun t219 => (if t219 = true then (some true) else (some false))) else (some false)))) else (some false)))) else (some false)))) = some r := by first | (rw [hy196]; with_reducible exact H) | (have H2_ := (Option.bind_some _ _).symm.trans H; rw [hy196]; with_reducible exact H2_) | (have H2_ := (Option.bind_some _ _).symm.trans H; with_reducible exact H2_) | with_reducible exact H | (rw [hy196]; exact H) | exact H
                     have Ny196 := Aside0.mk hy196
                     clear hy196
                     replace H := Option.bind_eq_some_iff.mp H
                     obtain ⟨t199, A160, H⟩ := H
                     replace H : ((handshakerref03_Numbers.f k t199 (([0, 1] : List Int))).bind fun t205 => (if t205 = true then ((stripe_Held.f k t175 3).bind fun t206 => ((handshakerref03_Numbers.f k t206 (([1] : List Int))).bind fun t212 => (if t212 = true then ((stripe_Let.f k t175 3).bind fun t213 => ((stripe_Held.f k t213 3).bind fun t216 => (if (t216.length : Int) = 0 then ((stripe_Right.f t186).bind fun t219 => (if t219 = true then (some true) else (some false))) else (some false)))) else (some false)))) else (some false))) = some r := H
                     have A16 := Aside0.mk A160
                     clear A160
                     obtain ⟨y202, hy202⟩ : ∃ y_ : List Int, y_ = (([0, 1] : List Int)) := ⟨_, rfl⟩
                     replace H : ((handshakerref03_Numbers.f k t199 y202).bind fun t205 => (if t205 = true then ((stripe_Held.f k t175 3).bind fun t206 => ((handshakerref03_Numbers.f k t206 (([1] : List Int))).bind fun t212 => (if t212 = true then ((stripe_Let.f k t175 3).bind fun t213 => ((stripe_Held.f k t213 3).bind fun t216 => (if (t216.length : Int) = 0 then ((stripe_Right.f t186).bind fun t219 => (if t219 = true then (some true) else (some false))) else (some false)))) else (some false)))) else (some false))) = some r := by first | (rw [hy202]; with_reducible exact H) | (have H2_ := (Option.bind_some _ _).symm.trans H; rw [hy202]; with_reducible exact H2_) | (have H2_ := (Option.bind_some _ _).symm.trans H; with_reducible exact H2_) | with_reducible exact H | (rw [hy202]; exact H) | exact H
                     have Ny202 := Aside0.mk hy202
                     clear hy202
                     replace H := Option.bind_eq_some_iff.mp H
                     obtain ⟨t205, A170, H⟩ := H
                     replace H : (if t205 = true then ((stripe_Held.f k t175 3).bind fun t206 => ((handshakerref03_Numbers.f k t206 (([1] : List Int))).bind fun t212 => (if t212 = true then ((stripe_Let.f k t175 3).bind fun t213 => ((stripe_Held.f k t213 3).bind fun t216 => (if (t216.length : Int) = 0 then ((stripe_Right.f t186).bind fun t219 => (if t219 = true then (some true) else (some false))) else (some false)))) else (some false)))) else (some false)) = some r := H
                     have A17 := Aside0.mk A170
                     clear A170
                     by_cases c18 : t205 = true
                     · subst c18
                       have H1 : ((stripe_Held.f k t175 3).bind fun t206 => ((handshakerref03_Numbers.f k t206 (([1] : List Int))).bind fun t212 => (if t212 = true then ((stripe_Let.f k t175 3).bind fun t213 => ((stripe_Held.f k t213 3).bind fun t216 => (if (t216.length : Int) = 0 then ((stripe_Right.f t186).bind fun t219 => (if t219 = true then (some true) else (some false))) else (some false)))) else (some false)))) = some r := by rw [if_pos rfl] at H; exact H
                       clear H
                       have H := H1
                       clear H1
                       replace H := Option.bind_eq_some_iff.mp H
                       obtain ⟨t206, A190, H⟩ := H
                       replace H : ((handshakerref03_Numbers.f k t206 (([1] : List Int))).bind fun t212 => (if t212 = true then ((stripe_Let.f k t175 3).bind fun t213 => ((stripe_Held.f k t213 3).bind fun t216 => (if (t216.length : Int) = 0 then ((stripe_Right.f t186).bind fun t219 => (if t219 = true then (some true) else (some false))) else (some false)))) else (some false))) = some r := H
                       have A19 := Aside0.mk A190
                       clear A190
                       obtain ⟨y209, hy209⟩ : ∃ y_ : List Int, y_ = (([1] : List Int)) := ⟨_, rfl⟩
                       replace H : ((handshakerref03_Numbers.f k t206 y209).bind fun t212 => (if t212 = true then ((stripe_Let.f k t175 3).bind fun t213 => ((stripe_Held.f k t213 3).bind fun t216 => (if (t216.length : Int) = 0 then ((stripe_Right.f t186).bind fun t219 => (if t219 = true then (some true) else (some false))) else (some false)))) else (some false))) = some r := by first | (rw [hy209]; with_reducible exact H) | (have H2_ := (Option.bind_some _ _).symm.trans H; rw [hy209]; with_reducible exact H2_) | (have H2_ := (Option.bind_some _ _).symm.trans H; with_reducible exact H2_) | with_reducible exact H | (rw [hy209]; exact H) | exact H
                       have Ny209 := Aside0.mk hy209
                       clear hy209
                       replace H := Option.bind_eq_some_iff.mp H
                       obtain ⟨t212, A200, H⟩ := H
                       replace H : (if t212 = true then ((stripe_Let.f k t175 3).bind fun t213 => ((stripe_Held.f k t213 3).bind fun t216 => (if (t216.length : Int) = 0 then ((stripe_Right.f t186).bind fun t219 => (if t219 = true then (some true) else (some false))) else (some false)))) else (some false)) = some r := H
                       have A20 := Aside0.mk A200
                       clear A200
                       by_cases c21 : t212 = true
                       · subst c21
                         have H1 : ((stripe_Let.f k t175 3).bind fun t213 => ((stripe_Held.f k t213 3).bind fun t216 => (if (t216.length : Int) = 0 then ((stripe_Right.f t186).bind fun t219 => (if t219 = true then (some true) else (some false))) else (some false)))) = some r := by rw [if_pos rfl] at H; exact H
                         clear H
                         have H := H1
                         clear H1
                         replace H := Option.bind_eq_some_iff.mp H
                         obtain ⟨t213, A220, H⟩ := H
                         replace H : ((stripe_Held.f k t213 3).bind fun t216 => (if (t216.length : Int) = 0 then ((stripe_Right.f t186).bind fun t219 => (if t219 = true then (some true) else (some false))) else (some false))) = some r := H
                         have A22 := Aside0.mk A220
                         clear A220
                         replace H := Option.bind_eq_some_iff.mp H
                         obtain ⟨t216, A230, H⟩ := H
                         replace H : (if (t216.length : Int) = 0 then ((stripe_Right.f t186).bind fun t219 => (if t219 = true then (some true) else (some false))) else (some false)) = some r := H
                         have A23 := Aside0.mk A230
                         clear A230
                         by_cases c24 : (t216.length : Int) = 0
                         · rw [if_pos c24] at H
                           have c24b0 : ((t216.length : Int) == 0) = true := beq_iff_eq.mpr c24
                           have c24b1 : ((t216.length : Int) != 0) = false := bne_eq_false_iff_eq.mpr c24
                           clear c24
                           replace H := Option.bind_eq_some_iff.mp H
                           obtain ⟨t219, A250, H⟩ := H
                           replace H : (if t219 = true then (some true) else (some false)) = some r := H
                           have A25 := Aside0.mk A250
                           clear A250
                           by_cases c26 : t219 = true
                           · subst c26
                             have H1 : (some true) = some r := by rw [if_pos rfl] at H; exact H
                             clear H
                             have H := H1
                             clear H1
                             obtain rfl := Option.some.inj H
                             go_enter Try.func33, Try.ntmps33
                             go_wp2_with (first | ((with_reducible refine gate_callee (f := 36) rfl ?_); refine goesL_ (some 12) rfl rfl Try.func36 (by kernel_rfl) rfl #[.int .i64 2] rfl (by (try simp only [List.map_toArray, List.map_cons, List.map_nil]); first | done | rfl) ?_; (with_reducible refine (stripe_New.calls 2 t168 t169 _ A1.out).mono ?_); rintro e w27 ⟨v170, rfl, ho0, hb⟩; refine ⟨_, rfl, ?_⟩; have n0_ := Aside0.mk (Kd.R_lower ho0 bsz_); have n1_ := Aside0.mk (bst_ hb); clear HB; have HO171 := n0_; have HB := n1_; clear n0_ n1_; (try clear hb); (try clear hb2); (try clear hk); (try clear hi); (try clear ho0)) | ((with_reducible refine gate_dst (N := 17) rfl ?_); (try (refine gate_guard (by rfl) ?_; dsimp only)); refine Kd.R_lit (Kd.int .i64) _ 3 ?hg (N := 17) ?hd (xs := ([1] : List Int)) (inner := [.int .i64 1]) (ok := fun _ => True) (okp := fun _ => True) ?hr ?hp (fun _ hk => hk) trivial (Below.refl _ _) (Nat.le_refl _) (by simp) ?_; (case hd => rfl); (case hg => rfl); (case hr => first | (go_simp; done) | (go_simp; rfl)); (case hp => exact (Reps.one (show Kd.M (Kd.int .i64) _ _ _ 1 [.int .i64 1] from rfl) (Reps.none _ _))); intro v173 w28 ho29 hb hg_ hnew_; clear hg_ hnew_; (first | rw [← Ny172.out] at ho29 | (simp only [Int.reduceToNat] at ho29; rw [← Ny172.out] at ho29)); have n0_ := Aside0.mk (Kd.R_below (by (with_reducible repeat (first | apply Kd.R_alloc | apply Kd.R_drewN | apply Kd.R_drew)); exact HO171.out) hb); have n1_ := Aside0.mk (Kd.R_lower ho29 bsz_); have n2_ := Aside0.mk (bst_ hb); clear HO171; clear HB; have HO171 := n0_; have HO174 := n1_; have HB := n2_; clear n0_ n1_ n2_; clear hb ho29; obtain ⟨Ao30, co30, eo30⟩ := Kd.R_slice HO171.out; subst eo30; obtain ⟨Ao31, co31, eo31⟩ := Kd.R_slice HO174.out; subst eo31) | ((with_reducible refine gate_callee (f := 30) rfl ?_); refine goesL_ (some 18) rfl rfl Try.func30 (by kernel_rfl) rfl #[.slice Ao30 t168.length co30, .int .i64 3, .slice Ao31 y172.length co31] rfl (by (try simp only [List.map_toArray, List.map_cons, List.map_nil]); first | done | rfl) ?_; (with_reducible refine (stripe_Lock.calls k (fun k_ => some k_ = (.slice Ao30 t168.length co30 : Value).ownBlock) _ _ t168 3 _ _ y172 t175 t178 _ ?side1 ?side2 ?side3 A2.out).mono ?_); (case side1 => exact Kd.R_V (Kd.R_tight rfl (Kd.R_apart' (HO171.out) (Kd.R_typed HO174.out) (by decide)))); (case side2 => repeat (first | exact (Kd.R_reads' HO174.out).2.2 | with_reducible first | refine Kd.C_alloc ?_ _ | refine Kd.C_drewN ?_ _ | refine Kd.C_drew ?_)); (case side3 => exact (Kd.R_reads' HO174.out).2.1); rintro e w32 ⟨v176, rfl, ho0, hb⟩; refine ⟨_, rfl, ?_⟩; have n0_ := Aside0.mk (Kd.R_below (by (with_reducible repeat (first | apply Kd.R_alloc | apply Kd.R_drewN | apply Kd.R_drew)); exact HO171.out) hb); have n1_ := Aside0.mk (Kd.R_below (by (with_reducible repeat (first | apply Kd.R_alloc | apply Kd.R_drewN | apply Kd.R_drew)); exact HO174.out) hb); have n2_ := Aside0.mk (Kd.V_lower (Kd.V_mono (ok' := fun k_ => some k_ ≠ (.slice Ao31 y172.length co31 : Value).ownBlock) ho0 (fun k_ hk_ => Or.elim hk_ (fun hs_ => ((Kd.R_apart' (HO171.out) (Kd.R_typed HO174.out) (by decide)).1 k_ hs_.symm).2) (fun hn_ => (Kd.fresh' (Kd.R_lt (by (with_reducible repeat (first | apply Kd.R_alloc | apply Kd.R_drewN | apply Kd.R_drew)); exact HO174.out)) k_ hn_)))) bsz_); have n3_ := Aside0.mk (bst_ hb); clear HO171; clear HO174; clear HB; have HO171 := n0_; have HO174 := n1_; have HO177 := n2_; have HB := n3_; clear n0_ n1_ n2_ n3_; (try clear hb); (try clear hb2); (try clear hk); (try clear hi); (try clear ho0)) | ((with_reducible refine gate_dst (N := 23) rfl ?_); (try (refine gate_guard (by rfl) ?_; dsimp only)); refine Kd.R_lit (Kd.int .i64) _ 3 ?hg (N := 23) ?hd (xs := ([0, 3] : List Int)) (inner := [.int .i64 0, .int .i64 3]) (ok := fun _ => True) (okp := fun _ => True) ?hr ?hp (fun _ hk => hk) trivial (Below.refl _ _) (Nat.le_refl _) (by simp) ?_; (case hd => rfl); (case hg => rfl); (case hr => first | (go_simp; done) | (go_simp; rfl)); (case hp => exact (Reps.one (show Kd.M (Kd.int .i64) _ _ _ 0 [.int .i64 0] from rfl) (Reps.one (show Kd.M (Kd.int .i64) _ _ _ 3 [.int .i64 3] from rfl) (Reps.none _ _)))); intro v180 w33 ho34 hb hg_ hnew_; clear hg_ hnew_; (first | rw [← Ny179.out] at ho34 | (simp only [Int.reduceToNat] at ho34; rw [← Ny179.out] at ho34)); have n0_ := Aside0.mk (Kd.R_below (by (with_reducible repeat (first | apply Kd.R_alloc | apply Kd.R_drewN | apply Kd.R_drew)); exact HO171.out) hb); have n1_ := Aside0.mk (Kd.R_elder' (by (with_reducible repeat (first | apply Kd.R_alloc | apply Kd.R_drewN | apply Kd.R_drew)); exact HO174.out) (Kd.R_base ho34) hb); have n2_ := Aside0.mk (Kd.V_elder' (by (with_reducible repeat (first | apply Kd.V_alloc | apply Kd.V_drewN | apply Kd.V_drew)); exact HO177.out) (Kd.R_base ho34) hb); have n3_ := Aside0.mk (Kd.R_lower (Kd.R_new' ho34 (Kd.R_lt (by (with_reducible repeat (first | apply Kd.R_alloc | apply Kd.R_drewN | apply Kd.R_drew)); exact HO174.out))) bsz_); have n4_ := Aside0.mk (bst_ hb); clear HO171; clear HO174; clear HO177; clear HB; have HO171 := n0_; have HO174 := n1_; have HO177 := n2_; have HO181 := n3_; have HB := n4_; clear n0_ n1_ n2_ n3_ n4_; clear hb ho34; obtain ⟨Ao35, co35, eo35⟩ := Kd.V_slice HO177.out; subst eo35; obtain ⟨Ao36, co36, eo36⟩ := Kd.R_slice HO181.out; subst eo36) | ((with_reducible refine gate_callee (f := 30) rfl ?_); refine goesL_ (some 24) rfl rfl Try.func30 (by kernel_rfl) rfl #[.slice Ao35 t175.length co35, .int .i64 4, .slice Ao36 y179.length co36] rfl (by (try simp only [List.map_toArray, List.map_cons, List.map_nil]); first | done | rfl) ?_; (with_reducible refine (stripe_Lock.calls k (fun k_ => (some k_ ≠ (.slice Ao31 y172.length co31 : Value).ownBlock ∧ some k_ ≠ (.slice Ao36 y179.length co36 : Value).ownBlock)) _ _ t175 4 _ _ y179 t182 t185 _ ?side1 ?side2 ?side3 A3.out).mono ?_); (case side1 => exact HO177.out); (case side2 => repeat (first | exact (Kd.R_reads' HO181.out).2.2 | with_reducible first | refine Kd.C_alloc ?_ _ | refine Kd.C_drewN ?_ _ | refine Kd.C_drew ?_)); (case side3 => exact (Kd.R_reads' HO181.out).2.1); rintro e w37 ⟨v183, rfl, ho0, hb⟩; refine ⟨_, rfl, ?_⟩; have n0_ := Aside0.mk (Kd.R_below (by (with_reducible repeat (first | apply Kd.R_alloc | apply Kd.R_drewN | apply Kd.R_drew)); exact HO171.out) hb); have n1_ := Aside0.mk (Kd.R_below (by (with_reducible repeat (first | apply Kd.R_alloc | apply Kd.R_drewN | apply Kd.R_drew)); exact HO174.out) hb); have n2_ := Aside0.mk (Kd.V_below (by (with_reducible repeat (first | apply Kd.V_alloc | apply Kd.V_drewN | apply Kd.V_drew)); exact HO177.out) hb); have n3_ := Aside0.mk (Kd.R_below (by (with_reducible repeat (first | apply Kd.R_alloc | apply Kd.R_drewN | apply Kd.R_drew)); exact HO181.out) hb); have n4_ := Aside0.mk (Kd.V_lower (Kd.V_mono (ok' := fun k_ => some k_ ≠ (.slice Ao31 y172.length co31 : Value).ownBlock ∧ some k_ ≠ (.slice Ao36 y179.length co36 : Value).ownBlock) ho0 (fun k_ hk_ => ⟨Or.elim hk_ (fun hs_ => hs_.1) (fun hn_ => (Kd.fresh' (Kd.R_lt (by (with_reducible repeat (first | apply Kd.R_alloc | apply Kd.R_drewN | apply Kd.R_drew)); exact HO174.out)) k_ hn_)), Or.elim hk_ (fun hs_ => hs_.2) (fun hn_ => (Kd.fresh' (Kd.R_lt (by (with_reducible repeat (first | apply Kd.R_alloc | apply Kd.R_drewN | apply Kd.R_drew)); exact HO181.out)) k_ hn_))⟩)) bsz_); have n5_ := Aside0.mk (bst_ hb); clear HO171; clear HO174; clear HO177; clear HO181; clear HB; have HO171 := n0_; have HO174 := n1_; have HO177 := n2_; have HO181 := n3_; have HO184 := n4_; have HB := n5_; clear n0_ n1_ n2_ n3_ n4_ n5_; (try clear hb); (try clear hb2); (try clear hk); (try clear hi); (try clear ho0)) | ((with_reducible refine gate_callee (f := 32) rfl ?_); refine goesL_ (some 29) rfl rfl Try.func32 (by kernel_rfl) rfl #[.slice Ao35 t175.length co35, .int .i64 3, .int .i64 7] rfl (by (try simp only [List.map_toArray, List.map_cons, List.map_nil]); first | done | rfl) ?_; (with_reducible refine (stripe_Stamp.calls k (fun k_ => (some k_ ≠ (.slice Ao31 y172.length co31 : Value).ownBlock ∧ some k_ ≠ (.slice Ao36 y179.length co36 : Value).ownBlock)) _ _ t175 3 7 t186 t189 _ ?side1 A4.out).mono ?_); (case side1 => exact HO177.out); rintro e w38 ⟨v187, rfl, ho0, hb⟩; refine ⟨_, rfl, ?_⟩; have n0_ := Aside0.mk (Kd.R_below (by (with_reducible repeat (first | apply Kd.R_alloc | apply Kd.R_drewN | apply Kd.R_drew)); exact HO171.out) hb); have n1_ := Aside0.mk (Kd.R_below (by (with_reducible repeat (first | apply Kd.R_alloc | apply Kd.R_drewN | apply Kd.R_drew)); exact HO174.out) hb); have n2_ := Aside0.mk (Kd.V_below (by (with_reducible repeat (first | apply Kd.V_alloc | apply Kd.V_drewN | apply Kd.V_drew)); exact HO177.out) hb); have n3_ := Aside0.mk (Kd.R_below (by (with_reducible repeat (first | apply Kd.R_alloc | apply Kd.R_drewN | apply Kd.R_drew)); exact HO181.out) hb); have n4_ := Aside0.mk (Kd.V_below (by (with_reducible repeat (first | apply Kd.V_alloc | apply Kd.V_drewN | apply Kd.V_drew)); exact HO184.out) hb); have n5_ := Aside0.mk (Kd.V_lower (Kd.V_mono (ok' := fun k_ => some k_ ≠ (.slice Ao31 y172.length co31 : Value).ownBlock ∧ some k_ ≠ (.slice Ao36 y179.length co36 : Value).ownBlock) ho0 (fun k_ hk_ => ⟨Or.elim hk_ (fun hs_ => hs_.1) (fun hn_ => (Kd.fresh' (Kd.R_lt (by (with_reducible repeat (first | apply Kd.R_alloc | apply Kd.R_drewN | apply Kd.R_drew)); exact HO174.out)) k_ hn_)), Or.elim hk_ (fun hs_ => hs_.2) (fun hn_ => (Kd.fresh' (Kd.R_lt (by (with_reducible repeat (first | apply Kd.R_alloc | apply Kd.R_drewN | apply Kd.R_drew)); exact HO181.out)) k_ hn_))⟩)) bsz_); have n6_ := Aside0.mk (bst_ hb); clear HO171; clear HO174; clear HO177; clear HO181; clear HO184; clear HB; have HO171 := n0_; have HO174 := n1_; have HO177 := n2_; have HO181 := n3_; have HO184 := n4_; have HO188 := n5_; have HB := n6_; clear n0_ n1_ n2_ n3_ n4_ n5_ n6_; (try clear hb); (try clear hb2); (try clear hk); (try clear hi); (try clear ho0)) | ((with_reducible refine gate_callee (f := 32) rfl ?_); refine goesL_ (some 34) rfl rfl Try.func32 (by kernel_rfl) rfl #[.slice Ao35 t175.length co35, .int .i64 3, .int .i64 0] rfl (by (try simp only [List.map_toArray, List.map_cons, List.map_nil]); first | done | rfl) ?_; (with_reducible refine (stripe_Stamp.calls k (fun k_ => (some k_ ≠ (.slice Ao31 y172.length co31 : Value).ownBlock ∧ some k_ ≠ (.slice Ao36 y179.length co36 : Value).ownBlock)) _ _ t175 3 0 t190 t193 _ ?side1 A5.out).mono ?_); (case side1 => exact HO177.out); rintro e w39 ⟨v191, rfl, ho0, hb⟩; refine ⟨_, rfl, ?_⟩; have n0_ := Aside0.mk (Kd.R_below (by (with_reducible repeat (first | apply Kd.R_alloc | apply Kd.R_drewN | apply Kd.R_drew)); exact HO171.out) hb); have n1_ := Aside0.mk (Kd.R_below (by (with_reducible repeat (first | apply Kd.R_alloc | apply Kd.R_drewN | apply Kd.R_drew)); exact HO174.out) hb); have n2_ := Aside0.mk (Kd.V_below (by (with_reducible repeat (first | apply Kd.V_alloc | apply Kd.V_drewN | apply Kd.V_drew)); exact HO177.out) hb); have n3_ := Aside0.mk (Kd.R_below (by (with_reducible repeat (first | apply Kd.R_alloc | apply Kd.R_drewN | apply Kd.R_drew)); exact HO181.out) hb); have n4_ := Aside0.mk (Kd.V_below (by (with_reducible repeat (first | apply Kd.V_alloc | apply Kd.V_drewN | apply Kd.V_drew)); exact HO184.out) hb); have n5_ := Aside0.mk (Kd.V_below (by (with_reducible repeat (first | apply Kd.V_alloc | apply Kd.V_drewN | apply Kd.V_drew)); exact HO188.out) hb); have n6_ := Aside0.mk (Kd.V_lower (Kd.V_mono (ok' := fun k_ => some k_ ≠ (.slice Ao31 y172.length co31 : Value).ownBlock ∧ some k_ ≠ (.slice Ao36 y179.length co36 : Value).ownBlock) ho0 (fun k_ hk_ => ⟨Or.elim hk_ (fun hs_ => hs_.1) (fun hn_ => (Kd.fresh' (Kd.R_lt (by (with_reducible repeat (first | apply Kd.R_alloc | apply Kd.R_drewN | apply Kd.R_drew)); exact HO174.out)) k_ hn_)), Or.elim hk_ (fun hs_ => hs_.2) (fun hn_ => (Kd.fresh' (Kd.R_lt (by (with_reducible repeat (first | apply Kd.R_alloc | apply Kd.R_drewN | apply Kd.R_drew)); exact HO181.out)) k_ hn_))⟩)) bsz_); have n7_ := Aside0.mk (bst_ hb); clear HO171; clear HO174; clear HO177; clear HO181; clear HO184; clear HO188; clear HB; have HO171 := n0_; have HO174 := n1_; have HO177 := n2_; have HO181 := n3_; have HO184 := n4_; have HO188 := n5_; have HO192 := n6_; have HB := n7_; clear n0_ n1_ n2_ n3_ n4_ n5_ n6_ n7_; (try clear hb); (try clear hb2); (try clear hk); (try clear hi); (try clear ho0); have p194 : 0 ≤ (1 : Int) := (by omega); have q194 : 1 < (t175.length : Int) := of_decide_eq_true (by first | (with_reducible assumption) | assumption); obtain ⟨ad194, e194, hx194_0, hx194_1⟩ := at_T67 (Kd.V_reads' HO177.out).2.2 1 p194 q194; cases e194; (try simp only [show (1 : Int).toNat = 1 from rfl, Nat.reduceMul, Nat.reduceEqDiff, Go.Addr.add, ↓reduceIte] at hx194_0); (try simp only [show (1 : Int).toNat = 1 from rfl, Nat.reduceMul, Nat.reduceEqDiff, Go.Addr.add, ↓reduceIte] at hx194_1); have qi194 : (1 < t175.length) = True := eq_true (by omega); (try rw [show ((1 : Int)).toNat = 1 from rfl] at hx194_0); (try rw [show 1 * 2 = 2 from rfl] at hx194_0); (try rw [show ((1 : Int)).toNat = 1 from rfl] at hx194_1); (try rw [show 1 * 2 = 2 from rfl] at hx194_1); replace p194 := eq_true p194; replace q194 := eq_true q194; obtain ⟨Ao40, co40, eo40⟩ := Kd.V_slice HO188.out; subst eo40; have p195 : 0 ≤ (1 : Int) := (by omega); have q195 : 1 < (t186.length : Int) := of_decide_eq_true (by first | (with_reducible assumption) | assumption); obtain ⟨ad195, e195, hx195_0, hx195_1⟩ := at_T67 (Kd.V_reads' HO188.out).2.2 1 p195 q195; cases e195; (try simp only [show (1 : Int).toNat = 1 from rfl, Nat.reduceMul, Nat.reduceEqDiff, Go.Addr.add, ↓reduceIte] at hx195_0); (try simp only [show (1 : Int).toNat = 1 from rfl, Nat.reduceMul, Nat.reduceEqDiff, Go.Addr.add, ↓reduceIte] at hx195_1); have qi195 : (1 < t186.length) = True := eq_true (by omega); (try rw [show ((1 : Int)).toNat = 1 from rfl] at hx195_0); (try rw [show 1 * 2 = 2 from rfl] at hx195_0); (try rw [show ((1 : Int)).toNat = 1 from rfl] at hx195_1); (try rw [show 1 * 2 = 2 from rfl] at hx195_1); replace p195 := eq_true p195; replace q195 := eq_true q195) | ((with_reducible refine gate_dst (N := 76) rfl ?_); (try (refine gate_guard (by rfl) ?_; dsimp only)); refine Kd.R_lit (Kd.int .i64) _ 3 ?hg (N := 76) ?hd (xs := ([1, 3, 4] : List Int)) (inner := [.int .i64 1, .int .i64 3, .int .i64 4]) (ok := fun _ => True) (okp := fun _ => True) ?hr ?hp (fun _ hk => hk) trivial (Below.refl _ _) (Nat.le_refl _) (by simp) ?_; (case hd => rfl); (case hg => rfl); (case hr => first | (go_simp; done) | (go_simp; rfl)); (case hp => exact (Reps.one (show Kd.M (Kd.int .i64) _ _ _ 1 [.int .i64 1] from rfl) (Reps.one (show Kd.M (Kd.int .i64) _ _ _ 3 [.int .i64 3] from rfl) (Reps.one (show Kd.M (Kd.int .i64) _ _ _ 4 [.int .i64 4] from rfl) (Reps.none _ _))))); intro v197 w41 ho42 hb hg_ hnew_; clear hg_ hnew_; (first | rw [← Ny196.out] at ho42 | (simp only [Int.reduceToNat] at ho42; rw [← Ny196.out] at ho42)); have n0_ := Aside0.mk (Kd.R_below (by (with_reducible repeat (first | apply Kd.R_alloc | apply Kd.R_drewN | apply Kd.R_drew)); exact HO171.out) hb); have n1_ := Aside0.mk (Kd.R_elder' (by (with_reducible repeat (first | apply Kd.R_alloc | apply Kd.R_drewN | apply Kd.R_drew)); exact HO174.out) (Kd.R_base ho42) hb); have n2_ := Aside0.mk (Kd.V_elder' (by (with_reducible repeat (first | apply Kd.V_alloc | apply Kd.V_drewN | apply Kd.V_drew)); exact HO177.out) (Kd.R_base ho42) hb); have n3_ := Aside0.mk (Kd.R_elder' (by (with_reducible repeat (first | apply Kd.R_alloc | apply Kd.R_drewN | apply Kd.R_drew)); exact HO181.out) (Kd.R_base ho42) hb); have n4_ := Aside0.mk (Kd.V_elder' (by (with_reducible repeat (first | apply Kd.V_alloc | apply Kd.V_drewN | apply Kd.V_drew)); exact HO184.out) (Kd.R_base ho42) hb); have n5_ := Aside0.mk (Kd.V_elder' (by (with_reducible repeat (first | apply Kd.V_alloc | apply Kd.V_drewN | apply Kd.V_drew)); exact HO188.out) (Kd.R_base ho42) hb); have n6_ := Aside0.mk (Kd.V_elder' (by (with_reducible repeat (first | apply Kd.V_alloc | apply Kd.V_drewN | apply Kd.V_drew)); exact HO192.out) (Kd.R_base ho42) hb); have n7_ := Aside0.mk (Kd.R_lower (Kd.R_new' (Kd.R_new' ho42 (Kd.R_lt (by (with_reducible repeat (first | apply Kd.R_alloc | apply Kd.R_drewN | apply Kd.R_drew)); exact HO174.out))) (Kd.R_lt (by (with_reducible repeat (first | apply Kd.R_alloc | apply Kd.R_drewN | apply Kd.R_drew)); exact HO181.out))) bsz_); have n8_ := Aside0.mk (bst_ hb); clear HO171; clear HO174; clear HO177; clear HO181; clear HO184; clear HO188; clear HO192; clear HB; have HO171 := n0_; have HO174 := n1_; have HO177 := n2_; have HO181 := n3_; have HO184 := n4_; have HO188 := n5_; have HO192 := n6_; have HO198 := n7_; have HB := n8_; clear n0_ n1_ n2_ n3_ n4_ n5_ n6_ n7_ n8_; clear hb ho42; obtain ⟨Ao43, co43, eo43⟩ := Kd.R_slice HO198.out; subst eo43) | (go_at_call 31; (with_reducible refine (stripe_Of.calls k _ _ t168 _ _ y196 t199 _ ?side1 ?side2 ?side3 ?side4 A16.out).mono ?_); (case side1 => repeat (first | exact (Kd.R_reads' HO171.out).2.2 | with_reducible first | refine Kd.C_alloc ?_ _ | refine Kd.C_drewN ?_ _ | refine Kd.C_drew ?_)); (case side2 => exact (Kd.R_reads' HO171.out).2.1); (case side3 => repeat (first | exact (Kd.R_reads' HO198.out).2.2 | with_reducible first | refine Kd.C_alloc ?_ _ | refine Kd.C_drewN ?_ _ | refine Kd.C_drew ?_)); (case side4 => exact (Kd.R_reads' HO198.out).2.1); rintro e w44 ⟨v200, rfl, ho0, hb⟩; have n0_ := Aside0.mk (Kd.R_below (by (with_reducible repeat (first | apply Kd.R_alloc | apply Kd.R_drewN | apply Kd.R_drew)); exact HO171.out) hb); have n1_ := Aside0.mk (Kd.R_elder' (by (with_reducible repeat (first | apply Kd.R_alloc | apply Kd.R_drewN | apply Kd.R_drew)); exact HO174.out) (Kd.R_base ho0) hb); have n2_ := Aside0.mk (Kd.V_elder' (by (with_reducible repeat (first | apply Kd.V_alloc | apply Kd.V_drewN | apply Kd.V_drew)); exact HO177.out) (Kd.R_base ho0) hb); have n3_ := Aside0.mk (Kd.R_elder' (by (with_reducible repeat (first | apply Kd.R_alloc | apply Kd.R_drewN | apply Kd.R_drew)); exact HO181.out) (Kd.R_base ho0) hb); have n4_ := Aside0.mk (Kd.V_elder' (by (with_reducible repeat (first | apply Kd.V_alloc | apply Kd.V_drewN | apply Kd.V_drew)); exact HO184.out) (Kd.R_base ho0) hb); have n5_ := Aside0.mk (Kd.V_elder' (by (with_reducible repeat (first | apply Kd.V_alloc | apply Kd.V_drewN | apply Kd.V_drew)); exact HO188.out) (Kd.R_base ho0) hb); have n6_ := Aside0.mk (Kd.V_elder' (by (with_reducible repeat (first | apply Kd.V_alloc | apply Kd.V_drewN | apply Kd.V_drew)); exact HO192.out) (Kd.R_base ho0) hb); have n7_ := Aside0.mk (Kd.R_elder' (by (with_reducible repeat (first | apply Kd.R_alloc | apply Kd.R_drewN | apply Kd.R_drew)); exact HO198.out) (Kd.R_base ho0) hb); have n8_ := Aside0.mk (Kd.R_lower (Kd.R_new' (Kd.R_new' (Kd.R_new' ho0 (Kd.R_lt (by (with_reducible repeat (first | apply Kd.R_alloc | apply Kd.R_drewN | apply Kd.R_drew)); exact HO174.out))) (Kd.R_lt (by (with_reducible repeat (first | apply Kd.R_alloc | apply Kd.R_drewN | apply Kd.R_drew)); exact HO181.out))) (Kd.R_lt (by (with_reducible repeat (first | apply Kd.R_alloc | apply Kd.R_drewN | apply Kd.R_drew)); exact HO198.out))) bsz_); have n9_ := Aside0.mk (bst_ hb); clear HO171; clear HO174; clear HO177; clear HO181; clear HO184; clear HO188; clear HO192; clear HO198; clear HB; have HO171 := n0_; have HO174 := n1_; have HO177 := n2_; have HO181 := n3_; have HO184 := n4_; have HO188 := n5_; have HO192 := n6_; have HO198 := n7_; have HO201 := n8_; have HB := n9_; clear n0_ n1_ n2_ n3_ n4_ n5_ n6_ n7_ n8_ n9_; (try clear hb); (try clear hb2); (try clear hk); (try clear hi); (try clear ho0)) | ((with_reducible refine gate_dst (N := 78) rfl ?_); (try (refine gate_guard (by rfl) ?_; dsimp only)); refine Kd.R_lit (Kd.int .i64) _ 3 ?hg (N := 78) ?hd (xs := ([0, 1] : List Int)) (inner := [.int .i64 0, .int .i64 1]) (ok := fun _ => True) (okp := fun _ => True) ?hr ?hp (fun _ hk => hk) trivial (Below.refl _ _) (Nat.le_refl _) (by simp) ?_; (case hd => rfl); (case hg => rfl); (case hr => first | (go_simp; done) | (go_simp; rfl)); (case hp => exact (Reps.one (show Kd.M (Kd.int .i64) _ _ _ 0 [.int .i64 0] from rfl) (Reps.one (show Kd.M (Kd.int .i64) _ _ _ 1 [.int .i64 1] from rfl) (Reps.none _ _)))); intro v203 w45 ho46 hb hg_ hnew_; clear hg_ hnew_; (first | rw [← Ny202.out] at ho46 | (simp only [Int.reduceToNat] at ho46; rw [← Ny202.out] at ho46)); have n0_ := Aside0.mk (Kd.R_below (by (with_reducible repeat (first | apply Kd.R_alloc | apply Kd.R_drewN | apply Kd.R_drew)); exact HO171.out) hb); have n1_ := Aside0.mk (Kd.R_elder' (by (with_reducible repeat (first | apply Kd.R_alloc | apply Kd.R_drewN | apply Kd.R_drew)); exact HO174.out) (Kd.R_base ho46) hb); have n2_ := Aside0.mk (Kd.V_elder' (by (with_reducible repeat (first | apply Kd.V_alloc | apply Kd.V_drewN | apply Kd.V_drew)); exact HO177.out) (Kd.R_base ho46) hb); have n3_ := Aside0.mk (Kd.R_elder' (by (with_reducible repeat (first | apply Kd.R_alloc | apply Kd.R_drewN | apply Kd.R_drew)); exact HO181.out) (Kd.R_base ho46) hb); have n4_ := Aside0.mk (Kd.V_elder' (by (with_reducible repeat (first | apply Kd.V_alloc | apply Kd.V_drewN | apply Kd.V_drew)); exact HO184.out) (Kd.R_base ho46) hb); have n5_ := Aside0.mk (Kd.V_elder' (by (with_reducible repeat (first | apply Kd.V_alloc | apply Kd.V_drewN | apply Kd.V_drew)); exact HO188.out) (Kd.R_base ho46) hb); have n6_ := Aside0.mk (Kd.V_elder' (by (with_reducible repeat (first | apply Kd.V_alloc | apply Kd.V_drewN | apply Kd.V_drew)); exact HO192.out) (Kd.R_base ho46) hb); have n7_ := Aside0.mk (Kd.R_elder' (by (with_reducible repeat (first | apply Kd.R_alloc | apply Kd.R_drewN | apply Kd.R_drew)); exact HO198.out) (Kd.R_base ho46) hb); have n8_ := Aside0.mk (Kd.R_elder' (by (with_reducible repeat (first | apply Kd.R_alloc | apply Kd.R_drewN | apply Kd.R_drew)); exact HO201.out) (Kd.R_base ho46) hb); have n9_ := Aside0.mk (Kd.R_lower (Kd.R_new' (Kd.R_new' (Kd.R_new' (Kd.R_new' ho46 (Kd.R_lt (by (with_reducible repeat (first | apply Kd.R_alloc | apply Kd.R_drewN | apply Kd.R_drew)); exact HO174.out))) (Kd.R_lt (by (with_reducible repeat (first | apply Kd.R_alloc | apply Kd.R_drewN | apply Kd.R_drew)); exact HO181.out))) (Kd.R_lt (by (with_reducible repeat (first | apply Kd.R_alloc | apply Kd.R_drewN | apply Kd.R_drew)); exact HO198.out))) (Kd.R_lt (by (with_reducible repeat (first | apply Kd.R_alloc | apply Kd.R_drewN | apply Kd.R_drew)); exact HO201.out))) bsz_); have n10_ := Aside0.mk (bst_ hb); clear HO171; clear HO174; clear HO177; clear HO181; clear HO184; clear HO188; clear HO192; clear HO198; clear HO201; clear HB; have HO171 := n0_; have HO174 := n1_; have HO177 := n2_; have HO181 := n3_; have HO184 := n4_; have HO188 := n5_; have HO192 := n6_; have HO198 := n7_; have HO201 := n8_; have HO204 := n9_; have HB := n10_; clear n0_ n1_ n2_ n3_ n4_ n5_ n6_ n7_ n8_ n9_ n10_; clear hb ho46; obtain ⟨Ao47, co47, eo47⟩ := Kd.R_slice HO201.out; subst eo47; obtain ⟨Ao48, co48, eo48⟩ := Kd.R_slice HO204.out; subst eo48) | (go_at_call 24; (with_reducible refine (handshakerref03_Numbers.calls k _ _ t199 _ _ y202 true _ ?side1 ?side2 ?side3 ?side4 A17.out).mono ?_); (case side1 => repeat (first | exact (Kd.R_reads' HO201.out).2.2 | with_reducible first | refine Kd.C_alloc ?_ _ | refine Kd.C_drewN ?_ _ | refine Kd.C_drew ?_)); (case side2 => exact (Kd.R_reads' HO201.out).2.1); (case side3 => repeat (first | exact (Kd.R_reads' HO204.out).2.2 | with_reducible first | refine Kd.C_alloc ?_ _ | refine Kd.C_drewN ?_ _ | refine Kd.C_drew ?_)); (case side4 => exact (Kd.R_reads' HO204.out).2.1); rintro e w' ⟨rfl, ⟨nd, rfl⟩⟩) | (go_at_call 40; (with_reducible refine (stripe_Held.calls k _ _ t175 3 t206 _ ?side1 ?side2 A19.out).mono ?_); (case side1 => repeat (first | exact (Kd.V_reads' HO177.out).2.2 | with_reducible first | refine Kd.C_alloc ?_ _ | refine Kd.C_drewN ?_ _ | refine Kd.C_drew ?_)); (case side2 => exact (Kd.V_reads' HO177.out).2.1); rintro e w49 ⟨v207, rfl, ho0, hb⟩; have n0_ := Aside0.mk (Kd.R_below (by (with_reducible repeat (first | apply Kd.R_alloc | apply Kd.R_drewN | apply Kd.R_drew)); exact HO171.out) hb); have n1_ := Aside0.mk (Kd.R_elder' (by (with_reducible repeat (first | apply Kd.R_alloc | apply Kd.R_drewN | apply Kd.R_drew)); exact HO174.out) (Kd.R_base ho0) hb); have n2_ := Aside0.mk (Kd.V_elder' (by (with_reducible repeat (first | apply Kd.V_alloc | apply Kd.V_drewN | apply Kd.V_drew)); exact HO177.out) (Kd.R_base ho0) hb); have n3_ := Aside0.mk (Kd.R_elder' (by (with_reducible repeat (first | apply Kd.R_alloc | apply Kd.R_drewN | apply Kd.R_drew)); exact HO181.out) (Kd.R_base ho0) hb); have n4_ := Aside0.mk (Kd.V_elder' (by (with_reducible repeat (first | apply Kd.V_alloc | apply Kd.V_drewN | apply Kd.V_drew)); exact HO184.out) (Kd.R_base ho0) hb); have n5_ := Aside0.mk (Kd.V_elder' (by (with_reducible repeat (first | apply Kd.V_alloc | apply Kd.V_drewN | apply Kd.V_drew)); exact HO188.out) (Kd.R_base ho0) hb); have n6_ := Aside0.mk (Kd.V_elder' (by (with_reducible repeat (first | apply Kd.V_alloc | apply Kd.V_drewN | apply Kd.V_drew)); exact HO192.out) (Kd.R_base ho0) hb); have n7_ := Aside0.mk (Kd.R_elder' (by (with_reducible repeat (first | apply Kd.R_alloc | apply Kd.R_drewN | apply Kd.R_drew)); exact HO198.out) (Kd.R_base ho0) hb); have n8_ := Aside0.mk (Kd.R_elder' (by (with_reducible repeat (first | apply Kd.R_alloc | apply Kd.R_drewN | apply Kd.R_drew)); exact HO201.out) (Kd.R_base ho0) hb); have n9_ := Aside0.mk (Kd.R_elder' (by (with_reducible repeat (first | apply Kd.R_alloc | apply Kd.R_drewN | apply Kd.R_drew)); exact HO204.out) (Kd.R_base ho0) hb); have n10_ := Aside0.mk (Kd.R_lower (Kd.R_new' (Kd.R_new' (Kd.R_new' (Kd.R_new' (Kd.R_new' ho0 (Kd.R_lt (by (with_reducible repeat (first | apply Kd.R_alloc | apply Kd.R_drewN | apply Kd.R_drew)); exact HO174.out))) (Kd.R_lt (by (with_reducible repeat (first | apply Kd.R_alloc | apply Kd.R_drewN | apply Kd.R_drew)); exact HO181.out))) (Kd.R_lt (by (with_reducible repeat (first | apply Kd.R_alloc | apply Kd.R_drewN | apply Kd.R_drew)); exact HO198.out))) (Kd.R_lt (by (with_reducible repeat (first | apply Kd.R_alloc | apply Kd.R_drewN | apply Kd.R_drew)); exact HO201.out))) (Kd.R_lt (by (with_reducible repeat (first | apply Kd.R_alloc | apply Kd.R_drewN | apply Kd.R_drew)); exact HO204.out))) bsz_); have n11_ := Aside0.mk (bst_ hb); clear HO171; clear HO174; clear HO177; clear HO181; clear HO184; clear HO188; clear HO192; clear HO198; clear HO201; clear HO204; clear HB; have HO171 := n0_; have HO174 := n1_; have HO177 := n2_; have HO181 := n3_; have HO184 := n4_; have HO188 := n5_; have HO192 := n6_; have HO198 := n7_; have HO201 := n8_; have HO204 := n9_; have HO208 := n10_; have HB := n11_; clear n0_ n1_ n2_ n3_ n4_ n5_ n6_ n7_ n8_ n9_ n10_ n11_; (try clear hb); (try clear hb2); (try clear hk); (try clear hi); (try clear ho0)) | ((with_reducible refine gate_dst (N := 84) rfl ?_); (try (refine gate_guard (by rfl) ?_; dsimp only)); refine Kd.R_lit (Kd.int .i64) _ 3 ?hg (N := 84) ?hd (xs := ([1] : List Int)) (inner := [.int .i64 1]) (ok := fun _ => True) (okp := fun _ => True) ?hr ?hp (fun _ hk => hk) trivial (Below.refl _ _) (Nat.le_refl _) (by simp) ?_; (case hd => rfl); (case hg => rfl); (case hr => first | (go_simp; done) | (go_simp; rfl)); (case hp => exact (Reps.one (show Kd.M (Kd.int .i64) _ _ _ 1 [.int .i64 1] from rfl) (Reps.none _ _))); intro v210 w50 ho51 hb hg_ hnew_; clear hg_ hnew_; (first | rw [← Ny209.out] at ho51 | (simp only [Int.reduceToNat] at ho51; rw [← Ny209.out] at ho51)); have n0_ := Aside0.mk (Kd.R_below (by (with_reducible repeat (first | apply Kd.R_alloc | apply Kd.R_drewN | apply Kd.R_drew)); exact HO171.out) hb); have n1_ := Aside0.mk (Kd.R_elder' (by (with_reducible repeat (first | apply Kd.R_alloc | apply Kd.R_drewN | apply Kd.R_drew)); exact HO174.out) (Kd.R_base ho51) hb); have n2_ := Aside0.mk (Kd.V_elder' (by (with_reducible repeat (first | apply Kd.V_alloc | apply Kd.V_drewN | apply Kd.V_drew)); exact HO177.out) (Kd.R_base ho51) hb); have n3_ := Aside0.mk (Kd.R_elder' (by (with_reducible repeat (first | apply Kd.R_alloc | apply Kd.R_drewN | apply Kd.R_drew)); exact HO181.out) (Kd.R_base ho51) hb); have n4_ := Aside0.mk (Kd.V_elder' (by (with_reducible repeat (first | apply Kd.V_alloc | apply Kd.V_drewN | apply Kd.V_drew)); exact HO184.out) (Kd.R_base ho51) hb); have n5_ := Aside0.mk (Kd.V_elder' (by (with_reducible repeat (first | apply Kd.V_alloc | apply Kd.V_drewN | apply Kd.V_drew)); exact HO188.out) (Kd.R_base ho51) hb); have n6_ := Aside0.mk (Kd.V_elder' (by (with_reducible repeat (first | apply Kd.V_alloc | apply Kd.V_drewN | apply Kd.V_drew)); exact HO192.out) (Kd.R_base ho51) hb); have n7_ := Aside0.mk (Kd.R_elder' (by (with_reducible repeat (first | apply Kd.R_alloc | apply Kd.R_drewN | apply Kd.R_drew)); exact HO198.out) (Kd.R_base ho51) hb); have n8_ := Aside0.mk (Kd.R_elder' (by (with_reducible repeat (first | apply Kd.R_alloc | apply Kd.R_drewN | apply Kd.R_drew)); exact HO201.out) (Kd.R_base ho51) hb); have n9_ := Aside0.mk (Kd.R_elder' (by (with_reducible repeat (first | apply Kd.R_alloc | apply Kd.R_drewN | apply Kd.R_drew)); exact HO204.out) (Kd.R_base ho51) hb); have n10_ := Aside0.mk (Kd.R_elder' (by (with_reducible repeat (first | apply Kd.R_alloc | apply Kd.R_drewN | apply Kd.R_drew)); exact HO208.out) (Kd.R_base ho51) hb); have n11_ := Aside0.mk (Kd.R_lower (Kd.R_new' (Kd.R_new' (Kd.R_new' (Kd.R_new' (Kd.R_new' (Kd.R_new' ho51 (Kd.R_lt (by (with_reducible repeat (first | apply Kd.R_alloc | apply Kd.R_drewN | apply Kd.R_drew)); exact HO174.out))) (Kd.R_lt (by (with_reducible repeat (first | apply Kd.R_alloc | apply Kd.R_drewN | apply Kd.R_drew)); exact HO181.out))) (Kd.R_lt (by (with_reducible repeat (first | apply Kd.R_alloc | apply Kd.R_drewN | apply Kd.R_drew)); exact HO198.out))) (Kd.R_lt (by (with_reducible repeat (first | apply Kd.R_alloc | apply Kd.R_drewN | apply Kd.R_drew)); exact HO201.out))) (Kd.R_lt (by (with_reducible repeat (first | apply Kd.R_alloc | apply Kd.R_drewN | apply Kd.R_drew)); exact HO204.out))) (Kd.R_lt (by (with_reducible repeat (first | apply Kd.R_alloc | apply Kd.R_drewN | apply Kd.R_drew)); exact HO208.out))) bsz_); have n12_ := Aside0.mk (bst_ hb); clear HO171; clear HO174; clear HO177; clear HO181; clear HO184; clear HO188; clear HO192; clear HO198; clear HO201; clear HO204; clear HO208; clear HB; have HO171 := n0_; have HO174 := n1_; have HO177 := n2_; have HO181 := n3_; have HO184 := n4_; have HO188 := n5_; have HO192 := n6_; have HO198 := n7_; have HO201 := n8_; have HO204 := n9_; have HO208 := n10_; have HO211 := n11_; have HB := n12_; clear n0_ n1_ n2_ n3_ n4_ n5_ n6_ n7_ n8_ n9_ n10_ n11_ n12_; clear hb ho51; obtain ⟨Ao52, co52, eo52⟩ := Kd.R_slice HO208.out; subst eo52; obtain ⟨Ao53, co53, eo53⟩ := Kd.R_slice HO211.out; subst eo53) | (go_at_call 24; (with_reducible refine (handshakerref03_Numbers.calls k _ _ t206 _ _ y209 true _ ?side1 ?side2 ?side3 ?side4 A20.out).mono ?_); (case side1 => repeat (first | exact (Kd.R_reads' HO208.out).2.2 | with_reducible first | refine Kd.C_alloc ?_ _ | refine Kd.C_drewN ?_ _ | refine Kd.C_drew ?_)); (case side2 => exact (Kd.R_reads' HO208.out).2.1); (case side3 => repeat (first | exact (Kd.R_reads' HO211.out).2.2 | with_reducible first | refine Kd.C_alloc ?_ _ | refine Kd.C_drewN ?_ _ | refine Kd.C_drew ?_)); (case side4 => exact (Kd.R_reads' HO211.out).2.1); rintro e w' ⟨rfl, ⟨nd, rfl⟩⟩) | (go_at_call 43; (with_reducible refine (stripe_Let.calls k _ _ t175 3 t213 _ ?side1 ?side2 A22.out).mono ?_); (case side1 => repeat (first | exact (Kd.V_reads' HO177.out).2.2 | with_reducible first | refine Kd.C_alloc ?_ _ | refine Kd.C_drewN ?_ _ | refine Kd.C_drew ?_)); (case side2 => exact (Kd.V_reads' HO177.out).2.1); rintro e w54 ⟨v214, rfl, ho0, hb⟩; have n0_ := Aside0.mk (Kd.R_elder' (by (with_reducible repeat (first | apply Kd.R_alloc | apply Kd.R_drewN | apply Kd.R_drew)); exact HO171.out) (Kd.R_base ho0) hb); have n1_ := Aside0.mk (Kd.R_below (by (with_reducible repeat (first | apply Kd.R_alloc | apply Kd.R_drewN | apply Kd.R_drew)); exact HO174.out) hb); have n2_ := Aside0.mk (Kd.V_elder' (by (with_reducible repeat (first | apply Kd.V_alloc | apply Kd.V_drewN | apply Kd.V_drew)); exact HO177.out) (Kd.R_base ho0) hb); have n3_ := Aside0.mk (Kd.R_below (by (with_reducible repeat (first | apply Kd.R_alloc | apply Kd.R_drewN | apply Kd.R_drew)); exact HO181.out) hb); have n4_ := Aside0.mk (Kd.V_elder' (by (with_reducible repeat (first | apply Kd.V_alloc | apply Kd.V_drewN | apply Kd.V_drew)); exact HO184.out) (Kd.R_base ho0) hb); have n5_ := Aside0.mk (Kd.V_elder' (by (with_reducible repeat (first | apply Kd.V_alloc | apply Kd.V_drewN | apply Kd.V_drew)); exact HO188.out) (Kd.R_base ho0) hb); have n6_ := Aside0.mk (Kd.V_elder' (by (with_reducible repeat (first | apply Kd.V_alloc | apply Kd.V_drewN | apply Kd.V_drew)); exact HO192.out) (Kd.R_base ho0) hb); have n7_ := Aside0.mk (Kd.R_below (by (with_reducible repeat (first | apply Kd.R_alloc | apply Kd.R_drewN | apply Kd.R_drew)); exact HO198.out) hb); have n8_ := Aside0.mk (Kd.R_below (by (with_reducible repeat (first | apply Kd.R_alloc | apply Kd.R_drewN | apply Kd.R_drew)); exact HO201.out) hb); have n9_ := Aside0.mk (Kd.R_below (by (with_reducible repeat (first | apply Kd.R_alloc | apply Kd.R_drewN | apply Kd.R_drew)); exact HO204.out) hb); have n10_ := Aside0.mk (Kd.R_below (by (with_reducible repeat (first | apply Kd.R_alloc | apply Kd.R_drewN | apply Kd.R_drew)); exact HO208.out) hb); have n11_ := Aside0.mk (Kd.R_below (by (with_reducible repeat (first | apply Kd.R_alloc | apply Kd.R_drewN | apply Kd.R_drew)); exact HO211.out) hb); have n12_ := Aside0.mk (Kd.R_lower (Kd.R_new' ho0 (Kd.R_lt (by (with_reducible repeat (first | apply Kd.R_alloc | apply Kd.R_drewN | apply Kd.R_drew)); exact HO171.out))) bsz_); have n13_ := Aside0.mk (bst_ hb); clear HO171; clear HO174; clear HO177; clear HO181; clear HO184; clear HO188; clear HO192; clear HO198; clear HO201; clear HO204; clear HO208; clear HO211; clear HB; have HO171 := n0_; have HO174 := n1_; have HO177 := n2_; have HO181 := n3_; have HO184 := n4_; have HO188 := n5_; have HO192 := n6_; have HO198 := n7_; have HO201 := n8_; have HO204 := n9_; have HO208 := n10_; have HO211 := n11_; have HO215 := n12_; have HB := n13_; clear n0_ n1_ n2_ n3_ n4_ n5_ n6_ n7_ n8_ n9_ n10_ n11_ n12_ n13_; (try clear hb); (try clear hb2); (try clear hk); (try clear hi); (try clear ho0); obtain ⟨Ao55, co55, eo55⟩ := Kd.R_slice HO215.out; subst eo55) | (go_at_call 40; (with_reducible refine (stripe_Held.calls k _ _ t213 3 t216 _ ?side1 ?side2 A23.out).mono ?_); (case side1 => repeat (first | exact (Kd.R_reads' HO215.out).2.2 | with_reducible first | refine Kd.C_alloc ?_ _ | refine Kd.C_drewN ?_ _ | refine Kd.C_drew ?_)); (case side2 => exact (Kd.R_reads' HO215.out).2.1); rintro e w56 ⟨v217, rfl, ho0, hb⟩; have n0_ := Aside0.mk (Kd.R_below (by (with_reducible repeat (first | apply Kd.R_alloc | apply Kd.R_drewN | apply Kd.R_drew)); exact HO171.out) hb); have n1_ := Aside0.mk (Kd.R_elder' (by (with_reducible repeat (first | apply Kd.R_alloc | apply Kd.R_drewN | apply Kd.R_drew)); exact HO174.out) (Kd.R_base ho0) hb); have n2_ := Aside0.mk (Kd.V_elder' (by (with_reducible repeat (first | apply Kd.V_alloc | apply Kd.V_drewN | apply Kd.V_drew)); exact HO177.out) (Kd.R_base ho0) hb); have n3_ := Aside0.mk (Kd.R_elder' (by (with_reducible repeat (first | apply Kd.R_alloc | apply Kd.R_drewN | apply Kd.R_drew)); exact HO181.out) (Kd.R_base ho0) hb); have n4_ := Aside0.mk (Kd.V_elder' (by (with_reducible repeat (first | apply Kd.V_alloc | apply Kd.V_drewN | apply Kd.V_drew)); exact HO184.out) (Kd.R_base ho0) hb); have n5_ := Aside0.mk (Kd.V_elder' (by (with_reducible repeat (first | apply Kd.V_alloc | apply Kd.V_drewN | apply Kd.V_drew)); exact HO188.out) (Kd.R_base ho0) hb); have n6_ := Aside0.mk (Kd.V_elder' (by (with_reducible repeat (first | apply Kd.V_alloc | apply Kd.V_drewN | apply Kd.V_drew)); exact HO192.out) (Kd.R_base ho0) hb); have n7_ := Aside0.mk (Kd.R_elder' (by (with_reducible repeat (first | apply Kd.R_alloc | apply Kd.R_drewN | apply Kd.R_drew)); exact HO198.out) (Kd.R_base ho0) hb); have n8_ := Aside0.mk (Kd.R_elder' (by (with_reducible repeat (first | apply Kd.R_alloc | apply Kd.R_drewN | apply Kd.R_drew)); exact HO201.out) (Kd.R_base ho0) hb); have n9_ := Aside0.mk (Kd.R_elder' (by (with_reducible repeat (first | apply Kd.R_alloc | apply Kd.R_drewN | apply Kd.R_drew)); exact HO204.out) (Kd.R_base ho0) hb); have n10_ := Aside0.mk (Kd.R_elder' (by (with_reducible repeat (first | apply Kd.R_alloc | apply Kd.R_drewN | apply Kd.R_drew)); exact HO208.out) (Kd.R_base ho0) hb); have n11_ := Aside0.mk (Kd.R_elder' (by (with_reducible repeat (first | apply Kd.R_alloc | apply Kd.R_drewN | apply Kd.R_drew)); exact HO211.out) (Kd.R_base ho0) hb); have n12_ := Aside0.mk (Kd.R_below (by (with_reducible repeat (first | apply Kd.R_alloc | apply Kd.R_drewN | apply Kd.R_drew)); exact HO215.out) hb); have n13_ := Aside0.mk (Kd.R_lower (Kd.R_new' (Kd.R_new' (Kd.R_new' (Kd.R_new' (Kd.R_new' (Kd.R_new' (Kd.R_new' ho0 (Kd.R_lt (by (with_reducible repeat (first | apply Kd.R_alloc | apply Kd.R_drewN | apply Kd.R_drew)); exact HO174.out))) (Kd.R_lt (by (with_reducible repeat (first | apply Kd.R_alloc | apply Kd.R_drewN | apply Kd.R_drew)); exact HO181.out))) (Kd.R_lt (by (with_reducible repeat (first | apply Kd.R_alloc | apply Kd.R_drewN | apply Kd.R_drew)); exact HO198.out))) (Kd.R_lt (by (with_reducible repeat (first | apply Kd.R_alloc | apply Kd.R_drewN | apply Kd.R_drew)); exact HO201.out))) (Kd.R_lt (by (with_reducible repeat (first | apply Kd.R_alloc | apply Kd.R_drewN | apply Kd.R_drew)); exact HO204.out))) (Kd.R_lt (by (with_reducible repeat (first | apply Kd.R_alloc | apply Kd.R_drewN | apply Kd.R_drew)); exact HO208.out))) (Kd.R_lt (by (with_reducible repeat (first | apply Kd.R_alloc | apply Kd.R_drewN | apply Kd.R_drew)); exact HO211.out))) bsz_); have n14_ := Aside0.mk (bst_ hb); clear HO171; clear HO174; clear HO177; clear HO181; clear HO184; clear HO188; clear HO192; clear HO198; clear HO201; clear HO204; clear HO208; clear HO211; clear HO215; clear HB; have HO171 := n0_; have HO174 := n1_; have HO177 := n2_; have HO181 := n3_; have HO184 := n4_; have HO188 := n5_; have HO192 := n6_; have HO198 := n7_; have HO201 := n8_; have HO204 := n9_; have HO208 := n10_; have HO211 := n11_; have HO215 := n12_; have HO218 := n13_; have HB := n14_; clear n0_ n1_ n2_ n3_ n4_ n5_ n6_ n7_ n8_ n9_ n10_ n11_ n12_ n13_ n14_; (try clear hb); (try clear hb2); (try clear hk); (try clear hi); (try clear ho0); obtain ⟨Ao57, co57, eo57⟩ := Kd.R_slice HO218.out; subst eo57) | (go_at_call 37; (with_reducible refine (stripe_Right.calls _ _ t186 true _ ?side1 ?side2 A25.out).mono ?_); (case side1 => repeat (first | exact (Kd.V_reads' HO188.out).2.2 | with_reducible first | refine Kd.C_alloc ?_ _ | refine Kd.C_drewN ?_ _ | refine Kd.C_drew ?_)); (case side2 => exact (Kd.V_reads' HO188.out).2.1); rintro e w58 ⟨rfl, hb⟩; have n0_ := Aside0.mk (Kd.R_below (by (with_reducible repeat (first | apply Kd.R_alloc | apply Kd.R_drewN | apply Kd.R_drew)); exact HO171.out) hb); have n1_ := Aside0.mk (Kd.R_below (by (with_reducible repeat (first | apply Kd.R_alloc | apply Kd.R_drewN | apply Kd.R_drew)); exact HO174.out) hb); have n2_ := Aside0.mk (Kd.V_below (by (with_reducible repeat (first | apply Kd.V_alloc | apply Kd.V_drewN | apply Kd.V_drew)); exact HO177.out) hb); have n3_ := Aside0.mk (Kd.R_below (by (with_reducible repeat (first | apply Kd.R_alloc | apply Kd.R_drewN | apply Kd.R_drew)); exact HO181.out) hb); have n4_ := Aside0.mk (Kd.V_below (by (with_reducible repeat (first | apply Kd.V_alloc | apply Kd.V_drewN | apply Kd.V_drew)); exact HO184.out) hb); have n5_ := Aside0.mk (Kd.V_below (by (with_reducible repeat (first | apply Kd.V_alloc | apply Kd.V_drewN | apply Kd.V_drew)); exact HO188.out) hb); have n6_ := Aside0.mk (Kd.V_below (by (with_reducible repeat (first | apply Kd.V_alloc | apply Kd.V_drewN | apply Kd.V_drew)); exact HO192.out) hb); have n7_ := Aside0.mk (Kd.R_below (by (with_reducible repeat (first | apply Kd.R_alloc | apply Kd.R_drewN | apply Kd.R_drew)); exact HO198.out) hb); have n8_ := Aside0.mk (Kd.R_below (by (with_reducible repeat (first | apply Kd.R_alloc | apply Kd.R_drewN | apply Kd.R_drew)); exact HO201.out) hb); have n9_ := Aside0.mk (Kd.R_below (by (with_reducible repeat (first | apply Kd.R_alloc | apply Kd.R_drewN | apply Kd.R_drew)); exact HO204.out) hb); have n10_ := Aside0.mk (Kd.R_below (by (with_reducible repeat (first | apply Kd.R_alloc | apply Kd.R_drewN | apply Kd.R_drew)); exact HO208.out) hb); have n11_ := Aside0.mk (Kd.R_below (by (with_reducible repeat (first | apply Kd.R_alloc | apply Kd.R_drewN | apply Kd.R_drew)); exact HO211.out) hb); have n12_ := Aside0.mk (Kd.R_below (by (with_reducible repeat (first | apply Kd.R_alloc | apply Kd.R_drewN | apply Kd.R_drew)); exact HO215.out) hb); have n13_ := Aside0.mk (Kd.R_below (by (with_reducible repeat (first | apply Kd.R_alloc | apply Kd.R_drewN | apply Kd.R_drew)); exact HO218.out) hb); have n14_ := Aside0.mk (bst_ hb); clear HO171; clear HO174; clear HO177; clear HO181; clear HO184; clear HO188; clear HO192; clear HO198; clear HO201; clear HO204; clear HO208; clear HO211; clear HO215; clear HO218; clear HB; have HO171 := n0_; have HO174 := n1_; have HO177 := n2_; have HO181 := n3_; have HO184 := n4_; have HO188 := n5_; have HO192 := n6_; have HO198 := n7_; have HO201 := n8_; have HO204 := n9_; have HO208 := n10_; have HO211 := n11_; have HO215 := n12_; have HO218 := n13_; have HB := n14_; clear n0_ n1_ n2_ n3_ n4_ n5_ n6_ n7_ n8_ n9_ n10_ n11_ n12_ n13_ n14_; (try clear hb); (try clear hb2); (try clear hk); (try clear hi)))
                             go_ret
                             exact ⟨by first | rfl | (simp [errW_none, errW_some] <;> rfl) | (simp [*, errW_none, errW_some] <;> rfl), by repeat (with_reducible first | exact HB.out | apply below_alloc | apply pw_below_drewN | apply below_drew1)⟩
                           · replace c26 := Bool.eq_false_iff.mpr c26
                             subst c26
                             have H1 : (some false) = some r := by rw [if_neg (show ¬ (false = true) by decide)] at H; exact H
                             clear H
                             have H := H1
                             clear H1
                             exact absurd (Option.some.inj H) (by rw [HT.out]; decide)
                         · rw [if_neg c24] at H
                           have c24b0 : ((t216.length : Int) == 0) = false := beq_eq_false_iff_ne.mpr c24
                           have c24b1 : ((t216.length : Int) != 0) = true := bne_iff_ne.mpr c24
                           have c24b2 : ¬ (t216 = []) := fun h_ => c24 (by rw [h_]; rfl)
                           exact absurd (Option.some.inj H) (by rw [HT.out]; decide)
                       · replace c21 := Bool.eq_false_iff.mpr c21
                         subst c21
                         have H1 : (some false) = some r := by rw [if_neg (show ¬ (false = true) by decide)] at H; exact H
                         clear H
                         have H := H1
                         clear H1
                         exact absurd (Option.some.inj H) (by rw [HT.out]; decide)
                     · replace c18 := Bool.eq_false_iff.mpr c18
                       subst c18
                       have H1 : (some false) = some r := by rw [if_neg (show ¬ (false = true) by decide)] at H; exact H
                       clear H
                       have H := H1
                       clear H1
                       exact absurd (Option.some.inj H) (by rw [HT.out]; decide)
                   · rw [if_neg c15] at H
                     have c15b0 : (t193 == 6) = false := beq_eq_false_iff_ne.mpr c15
                     have c15b1 : (t193 != 6) = true := bne_iff_ne.mpr c15
                     exact absurd (Option.some.inj H) (by rw [HT.out]; decide)
                 · rw [if_neg c14] at H
                   have c14b0 : (((rd_T67 t186 1).f0) == 7 && (((rd_T67 t186 1).f1) == 0)) = false := by simpa using c14
                   (try (have c14b1 : decide (((rd_T67 t186 1).f0) = 7 && (((rd_T67 t186 1).f1) == 0)) = false := by simpa using c14))
                   (try (have c14b2 : (((rd_T67 t186 1).f0) == 7 && (((rd_T67 t186 1).f1) == 0)) = false := by simpa using c14))
                   (try (have c14b3 : ¬ (((rd_T67 t186 1).f0) = 7 && (((rd_T67 t186 1).f1) == 0)) := by simpa using c14))
                   clear c14
                   exact absurd (Option.some.inj H) (by rw [HT.out]; decide)
               · rw [if_neg c13] at H
                 exact absurd H (by simp)
             · rw [if_neg c12] at H
               have c12b0 : (t189 == 0) = false := beq_eq_false_iff_ne.mpr c12
               have c12b1 : (t189 != 0) = true := bne_iff_ne.mpr c12
               exact absurd (Option.some.inj H) (by rw [HT.out]; decide)
           · rw [if_neg c11] at H
             have c11b0 : (t185 == 7) = false := beq_eq_false_iff_ne.mpr c11
             have c11b1 : (t185 != 7) = true := bne_iff_ne.mpr c11
             exact absurd (Option.some.inj H) (by rw [HT.out]; decide)
         · rw [if_neg c10] at H
           have c10b0 : (((rd_T67 t175 1).f1) == 3) = false := beq_eq_false_iff_ne.mpr c10
           have c10b1 : (((rd_T67 t175 1).f1) != 3) = true := bne_iff_ne.mpr c10
           exact absurd (Option.some.inj H) (by rw [HT.out]; decide)
       · rw [if_neg c9] at H
         exact absurd H (by simp)
     · rw [if_neg c8] at H
       have c8b0 : ((t175.length : Int) == 2) = false := beq_eq_false_iff_ne.mpr c8
       have c8b1 : ((t175.length : Int) != 2) = true := bne_iff_ne.mpr c8
       exact absurd (Option.some.inj H) (by rw [HT.out]; decide)
   · rw [if_neg c7] at H
     have c7b0 : (t178 == 0) = false := beq_eq_false_iff_ne.mpr c7
     have c7b1 : (t178 != 0) = true := bne_iff_ne.mpr c7
     exact absurd (Option.some.inj H) (by rw [HT.out]; decide)
 · rw [if_neg c6] at H
   have c6b0 : (t169 == 0) = false := beq_eq_false_iff_ne.mpr c6
   have c6b1 : (t169 != 0) = true := bne_iff_ne.mpr c6
   exact absurd (Option.some.inj H) (by rw [HT.out]; decide)

theorem handshakerlaw03_awake.only (k : Nat) (r : Bool) (h : handshakerlaw03_awake.f k = some r) : r = true := by
 have h1 : handshakerlaw03_awake.f 60 = some true := by decide +kernel
 have h2 := at_rounds (g := handshakerlaw03_awake.f) handshakerlaw03_awake.mono (Nat.le_max_left k 60) h
 have h3 := at_rounds (g := handshakerlaw03_awake.f) handshakerlaw03_awake.mono (Nat.le_max_right k 60) h1
 rw [h2] at h3
 exact Option.some.inj h3
theorem handshakerlaw03_awake.calls (k : Nat) (r : Bool) (w : World) (h : handshakerlaw03_awake.f k = some r) :
 Calls Try.prog 33 #[] w fun e w' => e = .returned (.bool r) ∧ Below w.heap.size w w' :=
 handshakerlaw03_awake.callsT k r w ⟨handshakerlaw03_awake.only k r h⟩ h

end Go.Proofs.Ytlfmobnmohnjmaa.T
