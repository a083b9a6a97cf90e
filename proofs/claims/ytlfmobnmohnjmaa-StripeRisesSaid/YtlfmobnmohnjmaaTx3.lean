-- PRINTED by print.py (a twelfth state) out of the translation. Not trusted: Lean checks it.
import Derived.Test.YtlfmobnmohnjmaaTx0
import Derived.Test.YtlfmobnmohnjmaaTx2
namespace Go.Proofs.Ytlfmobnmohnjmaa.T
open Go.Proofs.Ytlfmobnmohnjmaa.Ho
open Go.RowKit Go.Proofs.YtlfmobnmohnjmaaW.PrintWords Go.Proofs.YtlfmobnmohnjmaaW.PrintLast Go.Proofs.YtlfmobnmohnjmaaW.PrintMore
attribute [local go_sem] max2_int min2_int max_two min_two max_three min_three max_four min_four   -- for this text's walks alone
set_option linter.unusedVariables false
set_option linter.unusedSimpArgs false

/-! ### stripe_Lock: function 30 -/
mutual
def stripe_Lock.j0 : Nat → List (S67) → Int → List Int → Bool → Option ((List (S67)) × Int)
 | 0, _, _, _, _ => none
 | k + 1, x0, x1, x2, x23 => if x23 = true then (some (x0, 1)) else ((slices_Clone.f x0).bind fun t125 => ((stripe_Of.f k x0 x2).bind fun t128 => (stripe_Lock.l0 k x0 x1 t125 t128 (t128.length : Int) 0)))
def stripe_Lock.l0 : Nat → List (S67) → Int → List (S67) → List Int → Int → Int → Option ((List (S67)) × Int)
 | 0, _, _, _, _, _, _ => none
 | k + 1, x0, x1, x8, x29, x30, x31 => if x31 < x30 then (if 0 ≤ x31 then (if x31 < (x29.length : Int) then (if 0 ≤ (rd x29 x31) then (if (rd x29 x31) < (x0.length : Int) then (if ((rd_T67 x0 (rd x29 x31)).f1) = 0 then (if (rd x29 x31) < (x8.length : Int) then (stripe_Lock.l0 k x0 x1 (x8.set ((rd x29 x31) : Int).toNat (⟨(rd_T67 x8 (rd x29 x31)).f0, x1⟩ : S67)) x29 x30 (wrap64 (x31 + 1))) else (none)) else (if ((rd_T67 x0 (rd x29 x31)).f1) = x1 then (if (rd x29 x31) < (x8.length : Int) then (stripe_Lock.l0 k x0 x1 (x8.set ((rd x29 x31) : Int).toNat (⟨(rd_T67 x8 (rd x29 x31)).f0, x1⟩ : S67)) x29 x30 (wrap64 (x31 + 1))) else (none)) else (some (x0, 7)))) else (none)) else (none)) else (none)) else (none)) else (some (x8, 0))
end
def stripe_Lock.f (k : Nat) (l0 : List (S67)) (a1 : Int) (l2 : List Int) : Option ((List (S67)) × Int) := (stripe_Right.f l0).bind fun t122 => (if t122 = true then ((stripe_somebody.f a1).bind fun t123 => (if t123 = true then ((any_at_stripe_below.f l2).bind fun t124 => (stripe_Lock.j0 k l0 a1 l2 t124)) else (stripe_Lock.j0 k l0 a1 l2 true))) else (stripe_Lock.j0 k l0 a1 l2 true))
theorem stripe_Lock.mono_l : ∀ k, (∀ y0 y1 y2 y3, LeO (stripe_Lock.j0 k y0 y1 y2 y3) (stripe_Lock.j0 (k + 1) y0 y1 y2 y3)) ∧ (∀ y0 y1 y2 y3 y4 y5, LeO (stripe_Lock.l0 k y0 y1 y2 y3 y4 y5) (stripe_Lock.l0 (k + 1) y0 y1 y2 y3 y4 y5))
 | 0 => ⟨fun _ _ _ _ r h => by simp [stripe_Lock.j0] at h, fun _ _ _ _ _ _ r h => by simp [stripe_Lock.l0] at h⟩
 | k + 1 => by
  obtain ⟨ih0, ih1⟩ := stripe_Lock.mono_l k
  refine ⟨?_, ?_⟩
  · intro y0 y1 y2 y3
    unfold stripe_Lock.j0
    repeat' first
    | (with_reducible exact ih0 _ _ _ _)
    | (with_reducible exact ih1 _ _ _ _ _ _)
    | (with_reducible exact stripe_Of.mono _ _ _)
    | (with_reducible exact LeO.refl _)
    | (with_reducible exact LeO.none _)
    | (with_reducible refine LeO.ite ?_ ?_)
    | (with_reducible refine LeO.bind ?_ (fun _ => ?_))
    | exact ih0 _ _ _ _
    | exact ih1 _ _ _ _ _ _
    | exact stripe_Of.mono _ _ _
    | exact LeO.none _
    | refine LeO.ite ?_ ?_
    | refine LeO.bind ?_ (fun _ => ?_)
  · intro y0 y1 y2 y3 y4 y5
    unfold stripe_Lock.l0
    repeat' first
    | (with_reducible exact ih0 _ _ _ _)
    | (with_reducible exact ih1 _ _ _ _ _ _)
    | (with_reducible exact stripe_Of.mono _ _ _)
    | (with_reducible exact LeO.refl _)
    | (with_reducible exact LeO.none _)
    | (with_reducible refine LeO.ite ?_ ?_)
    | (with_reducible refine LeO.bind ?_ (fun _ => ?_))
    | exact ih0 _ _ _ _
    | exact ih1 _ _ _ _ _ _
    | exact stripe_Of.mono _ _ _
    | exact LeO.none _
    | refine LeO.ite ?_ ?_
    | refine LeO.bind ?_ (fun _ => ?_)
theorem stripe_Lock.mono : ∀ a0 a1 a2 k, LeO (stripe_Lock.f k a0 a1 a2) (stripe_Lock.f (k + 1) a0 a1 a2) := by
 intro a0 a1 a2 k
 obtain ⟨ih0, ih1⟩ := stripe_Lock.mono_l k
 unfold stripe_Lock.f
 repeat' first
  | (with_reducible exact ih0 _ _ _ _)
  | (with_reducible exact ih1 _ _ _ _ _ _)
  | (with_reducible exact stripe_Of.mono _ _ _)
  | (with_reducible exact LeO.refl _)
  | (with_reducible exact LeO.none _)
  | (with_reducible refine LeO.ite ?_ ?_)
  | (with_reducible refine LeO.bind ?_ (fun _ => ?_))
  | exact ih0 _ _ _ _
  | exact ih1 _ _ _ _ _ _
  | exact stripe_Of.mono _ _ _
  | exact LeO.none _
  | refine LeO.ite ?_ ?_
  | refine LeO.bind ?_ (fun _ => ?_)
set_option maxHeartbeats 8000000 in
set_option maxRecDepth 100000 in
theorem stripe_Lock.calls (k : Nat) (P0_ : Nat → Prop) (A0 : Option Addr) (c0 : Nat) (l0 : List (S67)) (a1 : Int) (A2 : Option Addr) (c2 : Nat) (l2 : List Int) (r1 : List (S67)) (r2 : Int) (w : World) (hs0 : Kd.V k67 67 w w.heap.size (fun k_ => P0_ k_) (.slice A0 l0.length c0) l0) (hr2 : Kd.C (Kd.int .i64) w A2 l2.length l2) (hc2 : l2.length ≤ c2) (h : stripe_Lock.f k l0 a1 l2 = some (r1, r2)) :
 Calls Try.prog 30 #[.slice A0 l0.length c0, .int .i64 a1, .slice A2 l2.length c2] w fun e w' => ∃ v0_ : Value, e = .returned (.tuple #[v0_, .int .i64 r2]) ∧ Kd.V k67 67 w' w.heap.size (fun k_ => (P0_ k_ ∨ w.heap.size ≤ k_)) v0_ r1 ∧ Below w.heap.size w w' := by
 have hu67 := Try.underlying67
 have HO0 := Aside0.mk (show Kd.V k67 67 w w.heap.size (fun k_ => (P0_ k_ ∨ w.heap.size ≤ k_)) (.slice A0 l0.length c0) l0 from Kd.V_mono hs0 (fun k_ hk => .inl hk))
 have HR2 := Aside0.mk hr2
 have HC2 := Aside0.mk hc2
 clear hr2 hc2
 have HB := Aside0.mk (Below.refl w.heap.size w)
 have H : ((stripe_Right.f l0).bind fun t122 => (if t122 = true then ((stripe_somebody.f a1).bind fun t123 => (if t123 = true then ((any_at_stripe_below.f l2).bind fun t124 => (stripe_Lock.j0 k l0 a1 l2 t124)) else (stripe_Lock.j0 k l0 a1 l2 true))) else (stripe_Lock.j0 k l0 a1 l2 true))) = some (r1, r2) := h
 clear h
 have HC4 := Aside0.mk H
 clear H
 go_enter Try.func30, Try.ntmps30
 go_upto_region 1 with (fail)
 go_cut [23] (fun v23 wc => ∃ (kq : Nat) (x23_3 : Bool), v23 = .bool x23_3 ∧ Aside0 (stripe_Lock.j0 kq l0 a1 l2 x23_3 = some (r1, r2)) ∧ Aside0 (kq ≤ k) ∧ Aside0 (Kd.V k67 67 wc w.heap.size (fun k_ => (P0_ k_ ∨ w.heap.size ≤ k_)) (.slice A0 l0.length c0) l0) ∧ Aside0 (Below w.heap.size w wc))
 case first =>
  have H := HC4.out
  clear HC4
  replace H := Option.bind_eq_some_iff.mp H
  obtain ⟨t122, A50, H⟩ := H
  replace H : (if t122 = true then ((stripe_somebody.f a1).bind fun t123 => (if t123 = true then ((any_at_stripe_below.f l2).bind fun t124 => (stripe_Lock.j0 k l0 a1 l2 t124)) else (stripe_Lock.j0 k l0 a1 l2 true))) else (stripe_Lock.j0 k l0 a1 l2 true)) = some (r1, r2) := H
  have A5 := Aside0.mk A50
  clear A50
  by_cases c6 : t122 = true
  · subst c6
    have H1 : ((stripe_somebody.f a1).bind fun t123 => (if t123 = true then ((any_at_stripe_below.f l2).bind fun t124 => (stripe_Lock.j0 k l0 a1 l2 t124)) else (stripe_Lock.j0 k l0 a1 l2 true))) = some (r1, r2) := by rw [if_pos rfl] at H; exact H
    clear H
    have H := H1
    clear H1
    replace H := Option.bind_eq_some_iff.mp H
    obtain ⟨t123, A70, H⟩ := H
    replace H : (if t123 = true then ((any_at_stripe_below.f l2).bind fun t124 => (stripe_Lock.j0 k l0 a1 l2 t124)) else (stripe_Lock.j0 k l0 a1 l2 true)) = some (r1, r2) := H
    have A7 := Aside0.mk A70
    clear A70
    by_cases c8 : t123 = true
    · subst c8
      have H1 : ((any_at_stripe_below.f l2).bind fun t124 => (stripe_Lock.j0 k l0 a1 l2 t124)) = some (r1, r2) := by rw [if_pos rfl] at H; exact H
      clear H
      have H := H1
      clear H1
      replace H := Option.bind_eq_some_iff.mp H
      obtain ⟨t124, A90, H⟩ := H
      replace H : (stripe_Lock.j0 k l0 a1 l2 t124) = some (r1, r2) := H
      have A9 := Aside0.mk A90
      clear A90
      have H' := Aside0.mk H
      clear H
      go_wp2_with (first | ((with_reducible refine gate_callee (f := 37) rfl ?_); refine goesL_ (some 13) rfl rfl Try.func37 (by kernel_rfl) rfl #[.slice A0 l0.length c0] rfl (by (try simp only [List.map_toArray, List.map_cons, List.map_nil]); first | done | rfl) ?_; (with_reducible refine (stripe_Right.calls _ _ l0 true _ ?side1 ?side2 A5.out).mono ?_); (case side1 => repeat (first | exact (Kd.V_reads' HO0.out).2.2 | with_reducible first | refine Kd.C_alloc ?_ _ | refine Kd.C_drewN ?_ _ | refine Kd.C_drew ?_)); (case side2 => exact (Kd.V_reads' HO0.out).2.1); rintro e w10 ⟨rfl, hb⟩; refine ⟨_, rfl, ?_⟩; have n0_ := Aside0.mk (Kd.V_below (by (with_reducible repeat (first | apply Kd.V_alloc | apply Kd.V_drewN | apply Kd.V_drew)); exact HO0.out) hb); have n1_ := Aside0.mk (bst_ hb); clear HO0; clear HB; have HO0 := n0_; have HB := n1_; clear n0_ n1_; (try clear hb); (try clear hb2); (try clear hk); (try clear hi)) | (go_at_call 58; (with_reducible refine (stripe_somebody.calls a1 true _ A7.out).mono ?_); rintro e w' ⟨rfl, ⟨nd, rfl⟩⟩) | (go_at_call 59; (with_reducible refine (any_at_stripe_below.calls _ _ l2 t124 _ ?side1 ?side2 A9.out).mono ?_); (case side1 => repeat (first | exact (Kd.C_below HR2.out (by repeat (with_reducible first | exact HB.out | apply below_alloc | apply pw_below_drewN | apply below_drew1))) | with_reducible first | refine Kd.C_alloc ?_ _ | refine Kd.C_drewN ?_ _ | refine Kd.C_drew ?_)); (case side2 => exact HC2.out); rintro e w11 ⟨rfl, hb⟩; have n0_ := Aside0.mk (Kd.V_below (by (with_reducible repeat (first | apply Kd.V_alloc | apply Kd.V_drewN | apply Kd.V_drew)); exact HO0.out) hb); have n1_ := Aside0.mk (bst_ hb); clear HO0; clear HB; have HO0 := n0_; have HB := n1_; clear n0_ n1_; (try clear hb); (try clear hb2); (try clear hk); (try clear hi)))
      go_meet
      case rel => exact ⟨_, (t124), (by first | rfl | (simp; done) | (simp [*]; done)), H', ⟨by first | omega | exact Nat.le_refl _⟩, ⟨by (with_reducible repeat (first | apply Kd.V_alloc | apply Kd.V_drewN | apply Kd.V_drew)); exact HO0.out⟩, ⟨by repeat (with_reducible first | exact HB.out | apply below_alloc | apply pw_below_drewN | apply below_drew1)⟩⟩
    · replace c8 := Bool.eq_false_iff.mpr c8
      subst c8
      have H1 : (stripe_Lock.j0 k l0 a1 l2 true) = some (r1, r2) := by rw [if_neg (show ¬ (false = true) by decide)] at H; exact H
      clear H
      have H := H1
      clear H1
      have H' := Aside0.mk H
      clear H
      go_wp2_with (first | ((with_reducible refine gate_callee (f := 37) rfl ?_); refine goesL_ (some 13) rfl rfl Try.func37 (by kernel_rfl) rfl #[.slice A0 l0.length c0] rfl (by (try simp only [List.map_toArray, List.map_cons, List.map_nil]); first | done | rfl) ?_; (with_reducible refine (stripe_Right.calls _ _ l0 true _ ?side1 ?side2 A5.out).mono ?_); (case side1 => repeat (first | exact (Kd.V_reads' HO0.out).2.2 | with_reducible first | refine Kd.C_alloc ?_ _ | refine Kd.C_drewN ?_ _ | refine Kd.C_drew ?_)); (case side2 => exact (Kd.V_reads' HO0.out).2.1); rintro e w12 ⟨rfl, hb⟩; refine ⟨_, rfl, ?_⟩; have n0_ := Aside0.mk (Kd.V_below (by (with_reducible repeat (first | apply Kd.V_alloc | apply Kd.V_drewN | apply Kd.V_drew)); exact HO0.out) hb); have n1_ := Aside0.mk (bst_ hb); clear HO0; clear HB; have HO0 := n0_; have HB := n1_; clear n0_ n1_; (try clear hb); (try clear hb2); (try clear hk); (try clear hi)) | (go_at_call 58; (with_reducible refine (stripe_somebody.calls a1 false _ A7.out).mono ?_); rintro e w' ⟨rfl, ⟨nd, rfl⟩⟩))
      go_meet
      case rel => exact ⟨_, (true), (by first | rfl | (simp; done) | (simp [*]; done)), H', ⟨by first | omega | exact Nat.le_refl _⟩, ⟨by (with_reducible repeat (first | apply Kd.V_alloc | apply Kd.V_drewN | apply Kd.V_drew)); exact HO0.out⟩, ⟨by repeat (with_reducible first | exact HB.out | apply below_alloc | apply pw_below_drewN | apply below_drew1)⟩⟩
  · replace c6 := Bool.eq_false_iff.mpr c6
    subst c6
    have H1 : (stripe_Lock.j0 k l0 a1 l2 true) = some (r1, r2) := by rw [if_neg (show ¬ (false = true) by decide)] at H; exact H
    clear H
    have H := H1
    clear H1
    have H' := Aside0.mk H
    clear H
    go_wp2_with (first | ((with_reducible refine gate_callee (f := 37) rfl ?_); refine goesL_ (some 13) rfl rfl Try.func37 (by kernel_rfl) rfl #[.slice A0 l0.length c0] rfl (by (try simp only [List.map_toArray, List.map_cons, List.map_nil]); first | done | rfl) ?_; (with_reducible refine (stripe_Right.calls _ _ l0 false _ ?side1 ?side2 A5.out).mono ?_); (case side1 => repeat (first | exact (Kd.V_reads' HO0.out).2.2 | with_reducible first | refine Kd.C_alloc ?_ _ | refine Kd.C_drewN ?_ _ | refine Kd.C_drew ?_)); (case side2 => exact (Kd.V_reads' HO0.out).2.1); rintro e w13 ⟨rfl, hb⟩; refine ⟨_, rfl, ?_⟩; have n0_ := Aside0.mk (Kd.V_below (by (with_reducible repeat (first | apply Kd.V_alloc | apply Kd.V_drewN | apply Kd.V_drew)); exact HO0.out) hb); have n1_ := Aside0.mk (bst_ hb); clear HO0; clear HB; have HO0 := n0_; have HB := n1_; clear n0_ n1_; (try clear hb); (try clear hb2); (try clear hk); (try clear hi)))
    go_meet
    case rel => exact ⟨_, (true), (by first | rfl | (simp; done) | (simp [*]; done)), H', ⟨by first | omega | exact Nat.le_refl _⟩, ⟨by (with_reducible repeat (first | apply Kd.V_alloc | apply Kd.V_drewN | apply Kd.V_drew)); exact HO0.out⟩, ⟨by repeat (with_reducible first | exact HB.out | apply below_alloc | apply pw_below_drewN | apply below_drew1)⟩⟩
 case rest =>
  clear HC4
  try clear c2
  try clear p2
  try clear c3
  try clear c6
  try clear c8
  obtain ⟨kq, x23_3, rfl, HA, HJ3, HO_0, HB⟩ := hcut
  cases kq with
  | zero => exact absurd HA.out (by simp [stripe_Lock.j0])
  | succ kj3 =>
   have H := HA.out
   clear HA
   simp only [stripe_Lock.j0] at H
   by_cases c14 : x23_3 = true
   · subst c14
     have H1 : (some (l0, 1)) = some (r1, r2) := by rw [if_pos rfl] at H; exact H
     clear H
     have H := H1
     clear H1
     simp only [Option.some.injEq, Prod.mk.injEq] at H
     obtain ⟨rfl, rfl⟩ := H
     go_wp2
     go_ret2
     exact ⟨_, by first | rfl | (simp [errW_none, errW_some] <;> rfl) | (simp [*, errW_none, errW_some] <;> rfl), by (with_reducible repeat (first | apply Kd.V_alloc | apply Kd.V_drewN | apply Kd.V_drew)); exact HO_0.out, by repeat (with_reducible first | exact HB.out | apply below_alloc | apply pw_below_drewN | apply below_drew1)⟩
   · replace c14 := Bool.eq_false_iff.mpr c14
     subst c14
     have H1 : ((slices_Clone.f l0).bind fun t125 => ((stripe_Of.f kj3 l0 l2).bind fun t128 => (stripe_Lock.l0 kj3 l0 a1 t125 t128 (t128.length : Int) 0))) = some (r1, r2) := by rw [if_neg (show ¬ (false = true) by decide)] at H; exact H
     clear H
     have H := H1
     clear H1
     replace H := Option.bind_eq_some_iff.mp H
     obtain ⟨t125, A150, H⟩ := H
     replace H : ((stripe_Of.f kj3 l0 l2).bind fun t128 => (stripe_Lock.l0 kj3 l0 a1 t125 t128 (t128.length : Int) 0)) = some (r1, r2) := H
     have A15 := Aside0.mk A150
     clear A150
     replace H := Option.bind_eq_some_iff.mp H
     obtain ⟨t128, A160, H⟩ := H
     replace H : (stripe_Lock.l0 kj3 l0 a1 t125 t128 (t128.length : Int) 0) = some (r1, r2) := H
     have A16 := Aside0.mk A160
     clear A160
     have H' := Aside0.mk H
     clear H
     go_wp2_with (first | ((with_reducible refine gate_callee (f := 61) rfl ?_); refine goesL_ (some 26) rfl rfl Try.func61 (by kernel_rfl) rfl #[.slice A0 l0.length c0] rfl (by (try simp only [List.map_toArray, List.map_cons, List.map_nil]); first | done | rfl) ?_; (with_reducible refine (slices_Clone.calls _ _ l0 t125 _ ?side1 ?side2 A15.out).mono ?_); (case side1 => repeat (first | exact (Kd.V_reads' HO_0.out).2.2 | with_reducible first | refine Kd.C_alloc ?_ _ | refine Kd.C_drewN ?_ _ | refine Kd.C_drew ?_)); (case side2 => exact (Kd.V_reads' HO_0.out).2.1); rintro e w17 ⟨v126, rfl, ho0, hb⟩; refine ⟨_, rfl, ?_⟩; have n0_ := Aside0.mk (Kd.V_elder' (by (with_reducible repeat (first | apply Kd.V_alloc | apply Kd.V_drewN | apply Kd.V_drew)); exact HO_0.out) (Kd.R_base ho0) hb); have n1_ := Aside0.mk (Kd.R_lower (Kd.R_newM (M := fun k_ => (w.heap.size ≤ k_)) ho0 bsz_ (fun k_ h_ => h_)) bsz_); have n2_ := Aside0.mk (bst_ hb); clear HO_0; clear HB; have HO_0 := n0_; have HO127 := n1_; have HB := n2_; clear n0_ n1_ n2_; (try clear hb); (try clear hb2); (try clear hk); (try clear hi); (try clear ho0)) | ((with_reducible refine gate_callee (f := 31) rfl ?_); refine goesL_ (some 29) rfl rfl Try.func31 (by kernel_rfl) rfl #[.slice A0 l0.length c0, .slice A2 l2.length c2] rfl (by (try simp only [List.map_toArray, List.map_cons, List.map_nil]); first | done | rfl) ?_; (with_reducible refine (stripe_Of.calls kj3 _ _ l0 _ _ l2 t128 _ ?side1 ?side2 ?side3 ?side4 A16.out).mono ?_); (case side1 => repeat (first | exact (Kd.V_reads' HO_0.out).2.2 | with_reducible first | refine Kd.C_alloc ?_ _ | refine Kd.C_drewN ?_ _ | refine Kd.C_drew ?_)); (case side2 => exact (Kd.V_reads' HO_0.out).2.1); (case side3 => repeat (first | exact (Kd.C_below HR2.out HB.out) | with_reducible first | refine Kd.C_alloc ?_ _ | refine Kd.C_drewN ?_ _ | refine Kd.C_drew ?_)); (case side4 => exact HC2.out); rintro e w18 ⟨v129, rfl, ho0, hb⟩; refine ⟨_, rfl, ?_⟩; have n0_ := Aside0.mk (Kd.V_elder' (by (with_reducible repeat (first | apply Kd.V_alloc | apply Kd.V_drewN | apply Kd.V_drew)); exact HO_0.out) (Kd.R_base ho0) hb); have n1_ := Aside0.mk (Kd.R_below (by (with_reducible repeat (first | apply Kd.R_alloc | apply Kd.R_drewN | apply Kd.R_drew)); exact HO127.out) hb); have n2_ := Aside0.mk (Kd.R_lower (Kd.R_newM (M := fun k_ => (w.heap.size ≤ k_)) ho0 bsz_ (fun k_ h_ => h_)) bsz_); have n3_ := Aside0.mk (bst_ hb); clear HO_0; clear HO127; clear HB; have HO_0 := n0_; have HO127 := n1_; have HO130 := n2_; have HB := n3_; clear n0_ n1_ n2_ n3_; (try clear hb); (try clear hb2); (try clear hk); (try clear hi); (try clear ho0); obtain ⟨Ao19, co19, eo19⟩ := Kd.R_slice HO130.out; subst eo19))
     go_loopg [31] kj3 (fun kq v31 w' => ∃ (x8_2 : List (S67)) (x31_2 : Int), v31 = .int .i64 x31_2 ∧ Aside0 (stripe_Lock.l0 kq l0 a1 x8_2 t128 (t128.length : Int) x31_2 = some (r1, r2)) ∧ Aside0 (kq ≤ kj3) ∧ Aside0 (Kd.V k67 67 w' w.heap.size (fun k_ => (P0_ k_ ∨ w.heap.size ≤ k_) ∧ some k_ ≠ (v126 : Value).ownBlock ∧ some k_ ≠ ((.slice Ao19 t128.length co19) : Value).ownBlock) (.slice A0 l0.length c0) l0) ∧ Aside0 (Kd.R k67 67 w' w.heap.size (fun k_ => (w.heap.size ≤ k_)) v126 x8_2) ∧ Aside0 (Kd.R (Kd.int .i64) 3 w' w.heap.size (fun k_ => (w.heap.size ≤ k_)) (.slice Ao19 t128.length co19) t128) ∧ Aside0 (Below w.heap.size w w'))
     case atStart => exact ⟨(t125), (0), (by first | rfl | (simp; done) | (simp [*]; done)), H', ⟨Nat.le_refl _⟩, ⟨by (with_reducible repeat (first | apply Kd.V_alloc | apply Kd.V_drewN | apply Kd.V_drew)); exact Kd.V_mono HO_0.out (fun _ hk => ⟨hk.1.1, ⟨hk.1.2, hk.2⟩⟩)⟩, ⟨by (with_reducible repeat (first | apply Kd.R_alloc | apply Kd.R_drewN | apply Kd.R_drew)); exact Kd.R_mono HO127.out (fun _ hk => hk.1)⟩, ⟨by (with_reducible repeat (first | apply Kd.R_alloc | apply Kd.R_drewN | apply Kd.R_drew)); exact Kd.R_mono HO130.out (fun _ hk => hk.1)⟩, ⟨by repeat (with_reducible first | exact HB.out | apply below_alloc | apply pw_below_drewN | apply below_drew1)⟩⟩
     case round =>
      clear H'
      try clear c1
      try clear c2
      try clear p2
      try clear c3
      try clear c6
      try clear c8
      try clear c14
      try clear p2
      obtain ⟨x8_2, x31_2, rfl, HA, HK2, HO_0, HO_8, HO_29, HB⟩ := hrel
      cases gk with
      | zero => exact absurd HA.out (by simp [stripe_Lock.l0])
      | succ k2 =>
       have H := HA.out
       clear HA
       simp only [stripe_Lock.l0] at H
       by_cases c20 : x31_2 < (t128.length : Int)
       · rw [if_pos c20] at H
         have c20b0 : decide (x31_2 < (t128.length : Int)) = true := decide_eq_true c20
         clear c20
         by_cases c21 : 0 ≤ x31_2
         · rw [if_pos c21] at H
           have c21b0 : decide (0 ≤ x31_2) = true := decide_eq_true c21
           clear c21
           by_cases c22 : x31_2 < (t128.length : Int)
           · rw [if_pos c22] at H
             have c22b0 : decide (x31_2 < (t128.length : Int)) = true := decide_eq_true c22
             clear c22
             by_cases c23 : 0 ≤ (rd t128 x31_2)
             · rw [if_pos c23] at H
               have c23b0 : decide (0 ≤ (rd t128 x31_2)) = true := decide_eq_true c23
               clear c23
               by_cases c24 : (rd t128 x31_2) < (l0.length : Int)
               · rw [if_pos c24] at H
                 have c24b0 : decide ((rd t128 x31_2) < (l0.length : Int)) = true := decide_eq_true c24
                 clear c24
                 by_cases c25 : ((rd_T67 l0 (rd t128 x31_2)).f1) = 0
                 · rw [if_pos c25] at H
                   have c25b0 : (((rd_T67 l0 (rd t128 x31_2)).f1) == 0) = true := beq_iff_eq.mpr c25
                   have c25b1 : (((rd_T67 l0 (rd t128 x31_2)).f1) != 0) = false := bne_eq_false_iff_eq.mpr c25
                   clear c25
                   by_cases c26 : (rd t128 x31_2) < (x8_2.length : Int)
                   · rw [if_pos c26] at H
                     have c26b0 : decide ((rd t128 x31_2) < (x8_2.length : Int)) = true := decide_eq_true c26
                     clear c26
                     obtain ⟨y134, hy134⟩ : ∃ y_ : List (S67), y_ = (x8_2.set ((rd t128 x31_2) : Int).toNat (⟨(rd_T67 x8_2 (rd t128 x31_2)).f0, a1⟩ : S67)) := ⟨_, rfl⟩
                     replace H : (stripe_Lock.l0 k2 l0 a1 y134 t128 (t128.length : Int) (wrap64 (x31_2 + 1))) = some (r1, r2) := by first | (rw [hy134]; with_reducible exact H) | (have H2_ := (Option.bind_some _ _).symm.trans H; rw [hy134]; with_reducible exact H2_) | (have H2_ := (Option.bind_some _ _).symm.trans H; with_reducible exact H2_) | with_reducible exact H | (rw [hy134]; exact H) | exact H
                     have Ny134 := Aside0.mk hy134
                     clear hy134
                     have H' := Aside0.mk H
                     clear H
                     have p131 : 0 ≤ (x31_2 : Int) := of_decide_eq_true (by first | (with_reducible assumption) | assumption)
                     have q131 : x31_2 < (t128.length : Int) := of_decide_eq_true (by first | (with_reducible assumption) | assumption)
                     obtain ⟨ad131, e131, hx131_0⟩ := Kd.at_int (Kd.R_reads' HO_29.out).2.2 x31_2 p131 q131
                     cases e131
                     replace p131 := eq_true p131
                     replace q131 := eq_true q131
                     have p132 : 0 ≤ ((rd t128 x31_2) : Int) := of_decide_eq_true (by first | (with_reducible assumption) | assumption)
                     have q132 : (rd t128 x31_2) < (l0.length : Int) := of_decide_eq_true (by first | (with_reducible assumption) | assumption)
                     obtain ⟨ad132, e132, hx132_0, hx132_1⟩ := at_T67 (Kd.V_reads' HO_0.out).2.2 (rd t128 x31_2) p132 q132
                     cases e132
                     replace p132 := eq_true p132
                     replace q132 := eq_true q132
                     go_wp2_with (first | ((with_reducible refine gate_dst (N := 11) rfl ?_); refine box_event ?hg (N := 11) ?hd (cs := #[.int .i64 0, .int .i64 0]) (t := 67) ?hr ?_; (case hd => rfl); (case hg => rfl); (case hr => first | (go_simp; done) | (go_simp; rfl)); intro gb133 hg w28 hbox hb; have n0_ := Aside0.mk (Kd.V_below (Kd.V_elderB (by (with_reducible repeat (first | apply Kd.V_alloc | apply Kd.V_drewN | apply Kd.V_drew)); exact HO_0.out) gb133 (Nat.le_of_eq hg.symm)) hb); have n1_ := Aside0.mk (Kd.R_below (Kd.R_elderB (by (with_reducible repeat (first | apply Kd.R_alloc | apply Kd.R_drewN | apply Kd.R_drew)); exact HO_8.out) gb133 (Nat.le_of_eq hg.symm)) hb); have n2_ := Aside0.mk (Kd.R_below (by (with_reducible repeat (first | apply Kd.R_alloc | apply Kd.R_drewN | apply Kd.R_drew)); exact HO_29.out) hb); have n3_ := Aside0.mk (bst_ hb); have n4_ := Aside0.mk (hbox); have n5_ := Aside0.mk ((by rw [hg]; exact bsz_ : w.heap.size ≤ gb133)); have n6_ := n5_; clear HO_0; clear HO_8; clear HO_29; clear HB; have HO_0 := n0_; have HO_8 := n1_; have HO_29 := n2_; have HB := n3_; have BK133 := n4_; have GW133 := n5_; have GE133 := n6_; clear n0_ n1_ n2_ n3_ n4_ n5_ n6_; clear hb hbox hg; have hcz29_0 : w28.cell? ⟨gb133, 0, none⟩ = some (.int .i64 0) := (blk_cell BK133.out 0).trans rfl; have hcz29_1 : w28.cell? ⟨gb133, 1, none⟩ = some (.int .i64 0) := (blk_cell BK133.out 1).trans rfl; have hfz29_0 := blk_frozen BK133.out 0; have hfz29_1 := blk_frozen BK133.out 1) | ((with_reducible refine gate_store (t := 67) (p := 11) rfl ?_); refine store_event (t := 67) (p := 11) (v := ?vo_w30) (w1 := ((w28.setCell ⟨gb133, 0, none⟩ (.int .i64 ((rd_T67 l0 (rd t128 x31_2)).f0))).setCell ⟨gb133, 1, none⟩ (.int .i64 ((rd_T67 l0 (rd t128 x31_2)).f1)))) ?hg ?ho ?hn ?hr ?_; (case ho => rfl); (case hg => rfl); (case hn => rfl); (case hr => first | (go_simp; done) | (go_simp; rfl)); intro w30 hw; have n0_ : Aside0 (Kd.V k67 67 w30 w.heap.size (fun k_ => (P0_ k_ ∨ w.heap.size ≤ k_) ∧ some k_ ≠ (v126 : Value).ownBlock ∧ some k_ ≠ (.slice (some ad131) t128.length co19 : Value).ownBlock ∧ k_ ≠ gb133) (.slice (some ad132) l0.length c0) l0) := ⟨(by rw [hw]; exact (by (with_reducible repeat (first | apply Kd.V_alloc | apply Kd.V_drewN | apply Kd.V_drew)); exact Kd.V_mono (Kd.V_far (p := ⟨gb133, 1, none⟩) (Kd.V_far (p := ⟨gb133, 0, none⟩) (Kd.V_mono HO_0.out (fun k_ hk => (⟨hk, hk.2⟩ : _ ∧ k_ ≠ gb133))) (fun _ hk => hk.2) (.int .i64 ((rd_T67 l0 (rd t128 x31_2)).f0))) (fun _ hk => hk.2) (.int .i64 ((rd_T67 l0 (rd t128 x31_2)).f1))) (fun _ hk => ⟨hk.1.1.1, ⟨hk.1.1.2.1, ⟨hk.1.1.2.2, hk.1.2⟩⟩⟩)))⟩; have n1_ : Aside0 (Kd.R k67 67 w30 w.heap.size (fun k_ => (w.heap.size ≤ k_) ∧ k_ ≠ gb133) v126 x8_2) := ⟨(by rw [hw]; exact (by (with_reducible repeat (first | apply Kd.R_alloc | apply Kd.R_drewN | apply Kd.R_drew)); exact Kd.R_mono (Kd.R_far (p := ⟨gb133, 1, none⟩) (Kd.R_far (p := ⟨gb133, 0, none⟩) (Kd.R_mono HO_8.out (fun k_ hk => (⟨hk, hk.2⟩ : _ ∧ k_ ≠ gb133))) (fun _ hk => hk.2) (.int .i64 ((rd_T67 l0 (rd t128 x31_2)).f0))) (fun _ hk => hk.2) (.int .i64 ((rd_T67 l0 (rd t128 x31_2)).f1))) (fun _ hk => ⟨hk.1.1, hk.1.2⟩)))⟩; have n2_ : Aside0 (Kd.R (Kd.int .i64) 3 w30 w.heap.size (fun k_ => (w.heap.size ≤ k_)) (.slice (some ad131) t128.length co19) t128) := ⟨(by rw [hw]; exact (by (with_reducible repeat (first | apply Kd.R_alloc | apply Kd.R_drewN | apply Kd.R_drew)); exact Kd.R_mono (Kd.R_far (p := ⟨gb133, 1, none⟩) (Kd.R_far (p := ⟨gb133, 0, none⟩) (Kd.R_types HO_29.out BK133.out (by decide)) (fun _ hk => hk.2) (.int .i64 ((rd_T67 l0 (rd t128 x31_2)).f0))) (fun _ hk => hk.2) (.int .i64 ((rd_T67 l0 (rd t128 x31_2)).f1))) (fun _ hk => hk.1)))⟩; have n3_ : Aside0 (w30.heap[gb133]? = some (.cells #[.int .i64 ((rd_T67 l0 (rd t128 x31_2)).f0), .int .i64 ((rd_T67 l0 (rd t128 x31_2)).f1)] 67 (0, 0))) := ⟨(by rw [hw]; exact (by (with_reducible repeat (first | refine blk_drewN ?_ _ | refine blk_drew ?_ | refine blk_alloc ?_ _)); refine blk_put (cs := #[.int .i64 ((rd_T67 l0 (rd t128 x31_2)).f0), .int .i64 0]) ?_ 1 _ rfl; (with_reducible repeat (first | refine blk_drewN ?_ _ | refine blk_drew ?_ | refine blk_alloc ?_ _)); refine blk_put (cs := #[.int .i64 0, .int .i64 0]) ?_ 0 _ rfl; (with_reducible repeat (first | refine blk_drewN ?_ _ | refine blk_drew ?_ | refine blk_alloc ?_ _)); exact BK133.out))⟩; have n4_ : Aside0 (Below w.heap.size w w30) := ⟨(by rw [hw]; exact (by repeat (with_reducible first | exact HB.out | apply below_alloc | apply pw_below_drewN | apply below_drew1 | refine below_set ?_ GE133.out)))⟩; clear hw; clear HO_0; clear HO_8; clear HO_29; clear BK133; clear HB; have HO_0 := n0_; have HO_8 := n1_; have HO_29 := n2_; have BK133 := n3_; have HB := n4_; clear n0_ n1_ n2_ n3_ n4_; have hcz31_0 : w30.cell? ⟨gb133, 0, none⟩ = some (.int .i64 ((rd_T67 l0 (rd t128 x31_2)).f0)) := (blk_cell BK133.out 0).trans rfl; have hcz31_1 : w30.cell? ⟨gb133, 1, none⟩ = some (.int .i64 ((rd_T67 l0 (rd t128 x31_2)).f1)) := (blk_cell BK133.out 1).trans rfl; have hfz31_0 := blk_frozen BK133.out 0; have hfz31_1 := blk_frozen BK133.out 1; have p27 : 0 ≤ ((rd t128 x31_2) : Int) := of_decide_eq_true (by first | (with_reducible assumption) | assumption); have q27 : ((rd t128 x31_2) : Int) < ((x8_2.length : Int) : Int) := of_decide_eq_true (by first | (with_reducible assumption) | assumption); obtain ⟨go27, co27, eo27, gb27, gl27, cl27, HG27⟩ := Kd.R_form HO_8.out (by omega); (first | cases eo27 | (injection eo27 with ea_ en_ ec_; (first | subst ea_ | (injection ea_ with ea_; subst ea_)); subst ec_; clear en_)); have GB27 := Aside0.mk gb27; have GG27 := Aside0.mk HG27; clear gb27 gl27 HG27; obtain ⟨ce27, hcl27, hM27, hcc27, hfr27⟩ := Kd.R_elem HO_8.out z67 ((rd t128 x31_2) : Int) p27 q27; obtain rfl := k67_openM hM27; have hx27_0 : w30.cell? ⟨go27, ((rd t128 x31_2) : Int).toNat * 2, none⟩ = some (.int .i64 ((rd_T67 x8_2 (rd t128 x31_2)).f0)) := hcc27 0 _ rfl; have hx27_1 : w30.cell? ⟨go27, ((rd t128 x31_2) : Int).toNat * 2 + 1, none⟩ = some (.int .i64 ((rd_T67 x8_2 (rd t128 x31_2)).f1)) := hcc27 1 _ rfl; have hf27_0 : w30.frozen? ⟨go27, ((rd t128 x31_2) : Int).toNat * 2, none⟩ = false := hfr27 0; have hf27_1 : w30.frozen? ⟨go27, ((rd t128 x31_2) : Int).toNat * 2 + 1, none⟩ = false := hfr27 1; clear hcl27 hcc27 hfr27 hM27; replace p27 := eq_true p27; replace q27 := eq_true q27; have HX32 := Aside0.mk (show Kd.R k67 67 w30 w.heap.size (fun k_ => (w.heap.size ≤ k_) ∧ k_ ≠ gb133) (.slice (some ⟨go27, 0, none⟩) x8_2.length co27) x8_2 from (by (with_reducible repeat (first | apply Kd.R_alloc | apply Kd.R_drewN | apply Kd.R_drew)); exact HO_8.out)); obtain ⟨ce32, hcl32, hM32, hcc32, hfr32⟩ := Kd.R_elem HX32.out z67 ((rd t128 x31_2) : Int) (of_decide_eq_true (by first | (with_reducible assumption) | assumption)) (by have h_ : ((rd t128 x31_2) : Int) < ((x8_2.length : Int) : Int) := of_decide_eq_true (by first | (with_reducible assumption) | assumption); first | exact h_ | (have e_ := (Kd.R_reads' HO_8.out).1; omega) | simpa using h_); obtain rfl := k67_openM hM32; have HP32 := Kd.R_seg HX32.out ((rd t128 x31_2) : Int) (of_decide_eq_true (by first | (with_reducible assumption) | assumption)) (by have h_ : ((rd t128 x31_2) : Int) < ((x8_2.length : Int) : Int) := of_decide_eq_true (by first | (with_reducible assumption) | assumption); first | exact h_ | (have e_ := (Kd.R_reads' HO_8.out).1; omega) | simpa using h_) (seg := [.int .i64 a1]) (j := 1) hcl32 hcc32 (show 2 ≤ 2 from by decide) (x' := (⟨(rd_T67 x8_2 (rd t128 x31_2)).f0, a1⟩ : S67)) (k67_mkM _ _ _ (⟨(rd_T67 x8_2 (rd t128 x31_2)).f0, a1⟩ : S67) ) (fun _ hk => hk); have hx32_1 := hcc32 1 _ rfl; (try simp only [show (k67).sz = 2 from rfl, Nat.mul_one, Nat.add_zero] at hx32_1); have hf32_1 := hfr32 1; (try simp only [show (k67).sz = 2 from rfl, Nat.mul_one, Nat.add_zero] at hf32_1); clear hcl32 hcc32 hfr32 hM32) | ((with_reducible refine gate_store (t := 3) (p := 53) rfl ?_); refine store_event (t := 3) (p := 53) (v := ?vo_w33) (w1 := (w30.setCell ⟨go27, ((rd t128 x31_2) : Int).toNat * 2 + 1, none⟩ (.int .i64 a1))) ?hg ?ho ?hn ?hr ?_; (case ho => rfl); (case hg => rfl); (case hn => rfl); (case hr => first | (go_simp; done) | (go_simp; rfl)); intro w33 hw; have hg : w30.grownBy w33 (some go27) := (by rw [hw]; exact HP32.2); have hp_ : Kd.R k67 67 w33 w.heap.size (fun k_ => (w.heap.size ≤ k_) ∧ k_ ≠ gb133) (.slice (some ⟨go27, 0, none⟩) x8_2.length co27) y134 := (by rw [hw, Ny134.out]; exact HP32.1); clear HP32; have n0_ := Aside0.mk (Kd.V_afterv (v := (.slice (some ⟨go27, 0, none⟩) x8_2.length co27)) (v1 := (.slice (some ⟨go27, 0, none⟩) x8_2.length co27)) (ok := (fun k_ => (P0_ k_ ∨ w.heap.size ≤ k_) ∧ some k_ ≠ (.slice (some ad131) t128.length co19 : Value).ownBlock ∧ k_ ≠ gb133)) (by (with_reducible repeat (first | apply Kd.V_alloc | apply Kd.V_drewN | apply Kd.V_drew)); exact Kd.V_mono HO_0.out (fun _ hk => ⟨⟨hk.1, ⟨hk.2.2.1, hk.2.2.2⟩⟩, hk.2.1⟩)) hg (.inl rfl)); have n1_ := Aside0.mk (hp_); have n2_ := Aside0.mk (Kd.R_over' (v := (.slice (some ⟨go27, 0, none⟩) x8_2.length co27)) (by (with_reducible repeat (first | apply Kd.R_alloc | apply Kd.R_drewN | apply Kd.R_drew)); exact HO_29.out) (Kd.R_typed HO_8.out) (by decide) hg); have n3_ := Aside0.mk (blk_grown (g := gb133) (o := .cells #[.int .i64 ((rd_T67 l0 (rd t128 x31_2)).f0), .int .i64 ((rd_T67 l0 (rd t128 x31_2)).f1)] 67 (0, 0)) (by (with_reducible repeat (first | refine blk_drewN ?_ _ | refine blk_drew ?_ | refine blk_alloc ?_ _)); exact BK133.out) hg (Kd.R_away HO_8.out (fun _ hk => hk.2))); have n4_ := Aside0.mk ((by rw [hw]; exact below_set (HB.out) GB27.out : Below w.heap.size w w33)); clear HO_0; clear HO_8; clear HO_29; clear BK133; clear HB; have HO_0 := n0_; have HO_8 := n1_; have HO_29 := n2_; have BK133 := n3_; have HB := n4_; clear n0_ n1_ n2_ n3_ n4_; clear hg hw hp_))
                     go_roundg k2
                     case measure => have := HJ3.out; have := HK2.out; omega
                     case rel => exact ⟨(y134), (wrap64 (x31_2 + 1)), (by first | rfl | (simp; done) | (simp [*]; done)), H', ⟨by have := HJ3.out; have := HK2.out; omega⟩, ⟨by (with_reducible repeat (first | apply Kd.V_alloc | apply Kd.V_drewN | apply Kd.V_drew)); exact Kd.V_mono HO_0.out (fun _ hk => ⟨hk.1.1, ⟨hk.2, hk.1.2.1⟩⟩)⟩, ⟨by (with_reducible repeat (first | apply Kd.R_alloc | apply Kd.R_drewN | apply Kd.R_drew)); exact Kd.R_mono HO_8.out (fun _ hk => hk.1)⟩, ⟨by (with_reducible repeat (first | apply Kd.R_alloc | apply Kd.R_drewN | apply Kd.R_drew)); exact HO_29.out⟩, ⟨by repeat (with_reducible first | exact HB.out | apply below_alloc | apply pw_below_drewN | apply below_drew1 | refine below_set ?_ GE133.out)⟩⟩
                   · rw [if_neg c26] at H
                     exact absurd H (by simp)
                 · rw [if_neg c25] at H
                   have c25b0 : (((rd_T67 l0 (rd t128 x31_2)).f1) == 0) = false := beq_eq_false_iff_ne.mpr c25
                   have c25b1 : (((rd_T67 l0 (rd t128 x31_2)).f1) != 0) = true := bne_iff_ne.mpr c25
                   by_cases c34 : ((rd_T67 l0 (rd t128 x31_2)).f1) = a1
                   · rw [if_pos c34] at H
                     have c34b0 : (((rd_T67 l0 (rd t128 x31_2)).f1) == a1) = true := beq_iff_eq.mpr c34
                     have c34b1 : (((rd_T67 l0 (rd t128 x31_2)).f1) != a1) = false := bne_eq_false_iff_eq.mpr c34
                     clear c34
                     by_cases c35 : (rd t128 x31_2) < (x8_2.length : Int)
                     · rw [if_pos c35] at H
                       have c35b0 : decide ((rd t128 x31_2) < (x8_2.length : Int)) = true := decide_eq_true c35
                       clear c35
                       obtain ⟨y135, hy135⟩ : ∃ y_ : List (S67), y_ = (x8_2.set ((rd t128 x31_2) : Int).toNat (⟨(rd_T67 x8_2 (rd t128 x31_2)).f0, a1⟩ : S67)) := ⟨_, rfl⟩
                       replace H : (stripe_Lock.l0 k2 l0 a1 y135 t128 (t128.length : Int) (wrap64 (x31_2 + 1))) = some (r1, r2) := by first | (rw [hy135]; with_reducible exact H) | (have H2_ := (Option.bind_some _ _).symm.trans H; rw [hy135]; with_reducible exact H2_) | (have H2_ := (Option.bind_some _ _).symm.trans H; with_reducible exact H2_) | with_reducible exact H | (rw [hy135]; exact H) | exact H
                       have Ny135 := Aside0.mk hy135
                       clear hy135
                       have H' := Aside0.mk H
                       clear H
                       have p131 : 0 ≤ (x31_2 : Int) := of_decide_eq_true (by first | (with_reducible assumption) | assumption)
                       have q131 : x31_2 < (t128.length : Int) := of_decide_eq_true (by first | (with_reducible assumption) | assumption)
                       obtain ⟨ad131, e131, hx131_0⟩ := Kd.at_int (Kd.R_reads' HO_29.out).2.2 x31_2 p131 q131
                       cases e131
                       replace p131 := eq_true p131
                       replace q131 := eq_true q131
                       have p132 : 0 ≤ ((rd t128 x31_2) : Int) := of_decide_eq_true (by first | (with_reducible assumption) | assumption)
                       have q132 : (rd t128 x31_2) < (l0.length : Int) := of_decide_eq_true (by first | (with_reducible assumption) | assumption)
                       obtain ⟨ad132, e132, hx132_0, hx132_1⟩ := at_T67 (Kd.V_reads' HO_0.out).2.2 (rd t128 x31_2) p132 q132
                       cases e132
                       replace p132 := eq_true p132
                       replace q132 := eq_true q132
                       go_wp2_with (first | ((with_reducible refine gate_dst (N := 11) rfl ?_); refine box_event ?hg (N := 11) ?hd (cs := #[.int .i64 0, .int .i64 0]) (t := 67) ?hr ?_; (case hd => rfl); (case hg => rfl); (case hr => first | (go_simp; done) | (go_simp; rfl)); intro gb133 hg w37 hbox hb; have n0_ := Aside0.mk (Kd.V_below (Kd.V_elderB (by (with_reducible repeat (first | apply Kd.V_alloc | apply Kd.V_drewN | apply Kd.V_drew)); exact HO_0.out) gb133 (Nat.le_of_eq hg.symm)) hb); have n1_ := Aside0.mk (Kd.R_below (Kd.R_elderB (by (with_reducible repeat (first | apply Kd.R_alloc | apply Kd.R_drewN | apply Kd.R_drew)); exact HO_8.out) gb133 (Nat.le_of_eq hg.symm)) hb); have n2_ := Aside0.mk (Kd.R_below (by (with_reducible repeat (first | apply Kd.R_alloc | apply Kd.R_drewN | apply Kd.R_drew)); exact HO_29.out) hb); have n3_ := Aside0.mk (bst_ hb); have n4_ := Aside0.mk (hbox); have n5_ := Aside0.mk ((by rw [hg]; exact bsz_ : w.heap.size ≤ gb133)); have n6_ := n5_; clear HO_0; clear HO_8; clear HO_29; clear HB; have HO_0 := n0_; have HO_8 := n1_; have HO_29 := n2_; have HB := n3_; have BK133 := n4_; have GW133 := n5_; have GE133 := n6_; clear n0_ n1_ n2_ n3_ n4_ n5_ n6_; clear hb hbox hg; have hcz38_0 : w37.cell? ⟨gb133, 0, none⟩ = some (.int .i64 0) := (blk_cell BK133.out 0).trans rfl; have hcz38_1 : w37.cell? ⟨gb133, 1, none⟩ = some (.int .i64 0) := (blk_cell BK133.out 1).trans rfl; have hfz38_0 := blk_frozen BK133.out 0; have hfz38_1 := blk_frozen BK133.out 1) | ((with_reducible refine gate_store (t := 67) (p := 11) rfl ?_); refine store_event (t := 67) (p := 11) (v := ?vo_w39) (w1 := ((w37.setCell ⟨gb133, 0, none⟩ (.int .i64 ((rd_T67 l0 (rd t128 x31_2)).f0))).setCell ⟨gb133, 1, none⟩ (.int .i64 ((rd_T67 l0 (rd t128 x31_2)).f1)))) ?hg ?ho ?hn ?hr ?_; (case ho => rfl); (case hg => rfl); (case hn => rfl); (case hr => first | (go_simp; done) | (go_simp; rfl)); intro w39 hw; have n0_ : Aside0 (Kd.V k67 67 w39 w.heap.size (fun k_ => (P0_ k_ ∨ w.heap.size ≤ k_) ∧ some k_ ≠ (v126 : Value).ownBlock ∧ some k_ ≠ (.slice (some ad131) t128.length co19 : Value).ownBlock ∧ k_ ≠ gb133) (.slice (some ad132) l0.length c0) l0) := ⟨(by rw [hw]; exact (by (with_reducible repeat (first | apply Kd.V_alloc | apply Kd.V_drewN | apply Kd.V_drew)); exact Kd.V_mono (Kd.V_far (p := ⟨gb133, 1, none⟩) (Kd.V_far (p := ⟨gb133, 0, none⟩) (Kd.V_mono HO_0.out (fun k_ hk => (⟨hk, hk.2⟩ : _ ∧ k_ ≠ gb133))) (fun _ hk => hk.2) (.int .i64 ((rd_T67 l0 (rd t128 x31_2)).f0))) (fun _ hk => hk.2) (.int .i64 ((rd_T67 l0 (rd t128 x31_2)).f1))) (fun _ hk => ⟨hk.1.1.1, ⟨hk.1.1.2.1, ⟨hk.1.1.2.2, hk.1.2⟩⟩⟩)))⟩; have n1_ : Aside0 (Kd.R k67 67 w39 w.heap.size (fun k_ => (w.heap.size ≤ k_) ∧ k_ ≠ gb133) v126 x8_2) := ⟨(by rw [hw]; exact (by (with_reducible repeat (first | apply Kd.R_alloc | apply Kd.R_drewN | apply Kd.R_drew)); exact Kd.R_mono (Kd.R_far (p := ⟨gb133, 1, none⟩) (Kd.R_far (p := ⟨gb133, 0, none⟩) (Kd.R_mono HO_8.out (fun k_ hk => (⟨hk, hk.2⟩ : _ ∧ k_ ≠ gb133))) (fun _ hk => hk.2) (.int .i64 ((rd_T67 l0 (rd t128 x31_2)).f0))) (fun _ hk => hk.2) (.int .i64 ((rd_T67 l0 (rd t128 x31_2)).f1))) (fun _ hk => ⟨hk.1.1, hk.1.2⟩)))⟩; have n2_ : Aside0 (Kd.R (Kd.int .i64) 3 w39 w.heap.size (fun k_ => (w.heap.size ≤ k_)) (.slice (some ad131) t128.length co19) t128) := ⟨(by rw [hw]; exact (by (with_reducible repeat (first | apply Kd.R_alloc | apply Kd.R_drewN | apply Kd.R_drew)); exact Kd.R_mono (Kd.R_far (p := ⟨gb133, 1, none⟩) (Kd.R_far (p := ⟨gb133, 0, none⟩) (Kd.R_types HO_29.out BK133.out (by decide)) (fun _ hk => hk.2) (.int .i64 ((rd_T67 l0 (rd t128 x31_2)).f0))) (fun _ hk => hk.2) (.int .i64 ((rd_T67 l0 (rd t128 x31_2)).f1))) (fun _ hk => hk.1)))⟩; have n3_ : Aside0 (w39.heap[gb133]? = some (.cells #[.int .i64 ((rd_T67 l0 (rd t128 x31_2)).f0), .int .i64 ((rd_T67 l0 (rd t128 x31_2)).f1)] 67 (0, 0))) := ⟨(by rw [hw]; exact (by (with_reducible repeat (first | refine blk_drewN ?_ _ | refine blk_drew ?_ | refine blk_alloc ?_ _)); refine blk_put (cs := #[.int .i64 ((rd_T67 l0 (rd t128 x31_2)).f0), .int .i64 0]) ?_ 1 _ rfl; (with_reducible repeat (first | refine blk_drewN ?_ _ | refine blk_drew ?_ | refine blk_alloc ?_ _)); refine blk_put (cs := #[.int .i64 0, .int .i64 0]) ?_ 0 _ rfl; (with_reducible repeat (first | refine blk_drewN ?_ _ | refine blk_drew ?_ | refine blk_alloc ?_ _)); exact BK133.out))⟩; have n4_ : Aside0 (Below w.heap.size w w39) := ⟨(by rw [hw]; exact (by repeat (with_reducible first | exact HB.out | apply below_alloc | apply pw_below_drewN | apply below_drew1 | refine below_set ?_ GE133.out)))⟩; clear hw; clear HO_0; clear HO_8; clear HO_29; clear BK133; clear HB; have HO_0 := n0_; have HO_8 := n1_; have HO_29 := n2_; have BK133 := n3_; have HB := n4_; clear n0_ n1_ n2_ n3_ n4_; have hcz40_0 : w39.cell? ⟨gb133, 0, none⟩ = some (.int .i64 ((rd_T67 l0 (rd t128 x31_2)).f0)) := (blk_cell BK133.out 0).trans rfl; have hcz40_1 : w39.cell? ⟨gb133, 1, none⟩ = some (.int .i64 ((rd_T67 l0 (rd t128 x31_2)).f1)) := (blk_cell BK133.out 1).trans rfl; have hfz40_0 := blk_frozen BK133.out 0; have hfz40_1 := blk_frozen BK133.out 1; have p36 : 0 ≤ ((rd t128 x31_2) : Int) := of_decide_eq_true (by first | (with_reducible assumption) | assumption); have q36 : ((rd t128 x31_2) : Int) < ((x8_2.length : Int) : Int) := of_decide_eq_true (by first | (with_reducible assumption) | assumption); obtain ⟨go36, co36, eo36, gb36, gl36, cl36, HG36⟩ := Kd.R_form HO_8.out (by omega); (first | cases eo36 | (injection eo36 with ea_ en_ ec_; (first | subst ea_ | (injection ea_ with ea_; subst ea_)); subst ec_; clear en_)); have GB36 := Aside0.mk gb36; have GG36 := Aside0.mk HG36; clear gb36 gl36 HG36; obtain ⟨ce36, hcl36, hM36, hcc36, hfr36⟩ := Kd.R_elem HO_8.out z67 ((rd t128 x31_2) : Int) p36 q36; obtain rfl := k67_openM hM36; have hx36_0 : w39.cell? ⟨go36, ((rd t128 x31_2) : Int).toNat * 2, none⟩ = some (.int .i64 ((rd_T67 x8_2 (rd t128 x31_2)).f0)) := hcc36 0 _ rfl; have hx36_1 : w39.cell? ⟨go36, ((rd t128 x31_2) : Int).toNat * 2 + 1, none⟩ = some (.int .i64 ((rd_T67 x8_2 (rd t128 x31_2)).f1)) := hcc36 1 _ rfl; have hf36_0 : w39.frozen? ⟨go36, ((rd t128 x31_2) : Int).toNat * 2, none⟩ = false := hfr36 0; have hf36_1 : w39.frozen? ⟨go36, ((rd t128 x31_2) : Int).toNat * 2 + 1, none⟩ = false := hfr36 1; clear hcl36 hcc36 hfr36 hM36; replace p36 := eq_true p36; replace q36 := eq_true q36; have HX41 := Aside0.mk (show Kd.R k67 67 w39 w.heap.size (fun k_ => (w.heap.size ≤ k_) ∧ k_ ≠ gb133) (.slice (some ⟨go36, 0, none⟩) x8_2.length co36) x8_2 from (by (with_reducible repeat (first | apply Kd.R_alloc | apply Kd.R_drewN | apply Kd.R_drew)); exact HO_8.out)); obtain ⟨ce41, hcl41, hM41, hcc41, hfr41⟩ := Kd.R_elem HX41.out z67 ((rd t128 x31_2) : Int) (of_decide_eq_true (by first | (with_reducible assumption) | assumption)) (by have h_ : ((rd t128 x31_2) : Int) < ((x8_2.length : Int) : Int) := of_decide_eq_true (by first | (with_reducible assumption) | assumption); first | exact h_ | (have e_ := (Kd.R_reads' HO_8.out).1; omega) | simpa using h_); obtain rfl := k67_openM hM41; have HP41 := Kd.R_seg HX41.out ((rd t128 x31_2) : Int) (of_decide_eq_true (by first | (with_reducible assumption) | assumption)) (by have h_ : ((rd t128 x31_2) : Int) < ((x8_2.length : Int) : Int) := of_decide_eq_true (by first | (with_reducible assumption) | assumption); first | exact h_ | (have e_ := (Kd.R_reads' HO_8.out).1; omega) | simpa using h_) (seg := [.int .i64 a1]) (j := 1) hcl41 hcc41 (show 2 ≤ 2 from by decide) (x' := (⟨(rd_T67 x8_2 (rd t128 x31_2)).f0, a1⟩ : S67)) (k67_mkM _ _ _ (⟨(rd_T67 x8_2 (rd t128 x31_2)).f0, a1⟩ : S67) ) (fun _ hk => hk); have hx41_1 := hcc41 1 _ rfl; (try simp only [show (k67).sz = 2 from rfl, Nat.mul_one, Nat.add_zero] at hx41_1); have hf41_1 := hfr41 1; (try simp only [show (k67).sz = 2 from rfl, Nat.mul_one, Nat.add_zero] at hf41_1); clear hcl41 hcc41 hfr41 hM41) | ((with_reducible refine gate_store (t := 3) (p := 53) rfl ?_); refine store_event (t := 3) (p := 53) (v := ?vo_w42) (w1 := (w39.setCell ⟨go36, ((rd t128 x31_2) : Int).toNat * 2 + 1, none⟩ (.int .i64 a1))) ?hg ?ho ?hn ?hr ?_; (case ho => rfl); (case hg => rfl); (case hn => rfl); (case hr => first | (go_simp; done) | (go_simp; rfl)); intro w42 hw; have hg : w39.grownBy w42 (some go36) := (by rw [hw]; exact HP41.2); have hp_ : Kd.R k67 67 w42 w.heap.size (fun k_ => (w.heap.size ≤ k_) ∧ k_ ≠ gb133) (.slice (some ⟨go36, 0, none⟩) x8_2.length co36) y135 := (by rw [hw, Ny135.out]; exact HP41.1); clear HP41; have n0_ := Aside0.mk (Kd.V_afterv (v := (.slice (some ⟨go36, 0, none⟩) x8_2.length co36)) (v1 := (.slice (some ⟨go36, 0, none⟩) x8_2.length co36)) (ok := (fun k_ => (P0_ k_ ∨ w.heap.size ≤ k_) ∧ some k_ ≠ (.slice (some ad131) t128.length co19 : Value).ownBlock ∧ k_ ≠ gb133)) (by (with_reducible repeat (first | apply Kd.V_alloc | apply Kd.V_drewN | apply Kd.V_drew)); exact Kd.V_mono HO_0.out (fun _ hk => ⟨⟨hk.1, ⟨hk.2.2.1, hk.2.2.2⟩⟩, hk.2.1⟩)) hg (.inl rfl)); have n1_ := Aside0.mk (hp_); have n2_ := Aside0.mk (Kd.R_over' (v := (.slice (some ⟨go36, 0, none⟩) x8_2.length co36)) (by (with_reducible repeat (first | apply Kd.R_alloc | apply Kd.R_drewN | apply Kd.R_drew)); exact HO_29.out) (Kd.R_typed HO_8.out) (by decide) hg); have n3_ := Aside0.mk (blk_grown (g := gb133) (o := .cells #[.int .i64 ((rd_T67 l0 (rd t128 x31_2)).f0), .int .i64 ((rd_T67 l0 (rd t128 x31_2)).f1)] 67 (0, 0)) (by (with_reducible repeat (first | refine blk_drewN ?_ _ | refine blk_drew ?_ | refine blk_alloc ?_ _)); exact BK133.out) hg (Kd.R_away HO_8.out (fun _ hk => hk.2))); have n4_ := Aside0.mk ((by rw [hw]; exact below_set (HB.out) GB36.out : Below w.heap.size w w42)); clear HO_0; clear HO_8; clear HO_29; clear BK133; clear HB; have HO_0 := n0_; have HO_8 := n1_; have HO_29 := n2_; have BK133 := n3_; have HB := n4_; clear n0_ n1_ n2_ n3_ n4_; clear hg hw hp_))
                       go_roundg k2
                       case measure => have := HJ3.out; have := HK2.out; omega
                       case rel => exact ⟨(y135), (wrap64 (x31_2 + 1)), (by first | rfl | (simp; done) | (simp [*]; done)), H', ⟨by have := HJ3.out; have := HK2.out; omega⟩, ⟨by (with_reducible repeat (first | apply Kd.V_alloc | apply Kd.V_drewN | apply Kd.V_drew)); exact Kd.V_mono HO_0.out (fun _ hk => ⟨hk.1.1, ⟨hk.2, hk.1.2.1⟩⟩)⟩, ⟨by (with_reducible repeat (first | apply Kd.R_alloc | apply Kd.R_drewN | apply Kd.R_drew)); exact Kd.R_mono HO_8.out (fun _ hk => hk.1)⟩, ⟨by (with_reducible repeat (first | apply Kd.R_alloc | apply Kd.R_drewN | apply Kd.R_drew)); exact HO_29.out⟩, ⟨by repeat (with_reducible first | exact HB.out | apply below_alloc | apply pw_below_drewN | apply below_drew1 | refine below_set ?_ GE133.out)⟩⟩
                     · rw [if_neg c35] at H
                       exact absurd H (by simp)
                   · rw [if_neg c34] at H
                     have c34b0 : (((rd_T67 l0 (rd t128 x31_2)).f1) == a1) = false := beq_eq_false_iff_ne.mpr c34
                     have c34b1 : (((rd_T67 l0 (rd t128 x31_2)).f1) != a1) = true := bne_iff_ne.mpr c34
                     simp only [Option.some.injEq, Prod.mk.injEq] at H
                     obtain ⟨rfl, rfl⟩ := H
                     have p131 : 0 ≤ (x31_2 : Int) := of_decide_eq_true (by first | (with_reducible assumption) | assumption)
                     have q131 : x31_2 < (t128.length : Int) := of_decide_eq_true (by first | (with_reducible assumption) | assumption)
                     obtain ⟨ad131, e131, hx131_0⟩ := Kd.at_int (Kd.R_reads' HO_29.out).2.2 x31_2 p131 q131
                     cases e131
                     replace p131 := eq_true p131
                     replace q131 := eq_true q131
                     have p132 : 0 ≤ ((rd t128 x31_2) : Int) := of_decide_eq_true (by first | (with_reducible assumption) | assumption)
                     have q132 : (rd t128 x31_2) < (l0.length : Int) := of_decide_eq_true (by first | (with_reducible assumption) | assumption)
                     obtain ⟨ad132, e132, hx132_0, hx132_1⟩ := at_T67 (Kd.V_reads' HO_0.out).2.2 (rd t128 x31_2) p132 q132
                     cases e132
                     replace p132 := eq_true p132
                     replace q132 := eq_true q132
                     go_wp2_with (first | ((with_reducible refine gate_dst (N := 11) rfl ?_); refine box_event ?hg (N := 11) ?hd (cs := #[.int .i64 0, .int .i64 0]) (t := 67) ?hr ?_; (case hd => rfl); (case hg => rfl); (case hr => first | (go_simp; done) | (go_simp; rfl)); intro gb133 hg w43 hbox hb; have n0_ := Aside0.mk (Kd.V_below (Kd.V_elderB (by (with_reducible repeat (first | apply Kd.V_alloc | apply Kd.V_drewN | apply Kd.V_drew)); exact HO_0.out) gb133 (Nat.le_of_eq hg.symm)) hb); have n1_ := Aside0.mk (Kd.R_below (Kd.R_elderB (by (with_reducible repeat (first | apply Kd.R_alloc | apply Kd.R_drewN | apply Kd.R_drew)); exact HO_8.out) gb133 (Nat.le_of_eq hg.symm)) hb); have n2_ := Aside0.mk (Kd.R_below (by (with_reducible repeat (first | apply Kd.R_alloc | apply Kd.R_drewN | apply Kd.R_drew)); exact HO_29.out) hb); have n3_ := Aside0.mk (bst_ hb); have n4_ := Aside0.mk (hbox); have n5_ := Aside0.mk ((by rw [hg]; exact bsz_ : w.heap.size ≤ gb133)); have n6_ := n5_; clear HO_0; clear HO_8; clear HO_29; clear HB; have HO_0 := n0_; have HO_8 := n1_; have HO_29 := n2_; have HB := n3_; have BK133 := n4_; have GW133 := n5_; have GE133 := n6_; clear n0_ n1_ n2_ n3_ n4_ n5_ n6_; clear hb hbox hg; have hcz44_0 : w43.cell? ⟨gb133, 0, none⟩ = some (.int .i64 0) := (blk_cell BK133.out 0).trans rfl; have hcz44_1 : w43.cell? ⟨gb133, 1, none⟩ = some (.int .i64 0) := (blk_cell BK133.out 1).trans rfl; have hfz44_0 := blk_frozen BK133.out 0; have hfz44_1 := blk_frozen BK133.out 1))
                     go_ret2
                     exact ⟨_, by first | rfl | (simp [errW_none, errW_some] <;> rfl) | (simp [*, errW_none, errW_some] <;> rfl), by (with_reducible repeat (first | apply Kd.V_alloc | apply Kd.V_drewN | apply Kd.V_drew)); exact Kd.V_mono (Kd.V_far (p := ⟨gb133, 1, none⟩) (Kd.V_far (p := ⟨gb133, 0, none⟩) (Kd.V_mono HO_0.out (fun k_ hk => (⟨hk, hk.2⟩ : _ ∧ k_ ≠ gb133))) (fun _ hk => hk.2) (.int .i64 ((rd_T67 l0 (rd t128 x31_2)).f0))) (fun _ hk => hk.2) (.int .i64 ((rd_T67 l0 (rd t128 x31_2)).f1))) (fun _ hk => hk.1.1.1), by repeat (with_reducible first | exact HB.out | apply below_alloc | apply pw_below_drewN | apply below_drew1 | refine below_set ?_ GE133.out)⟩
               · rw [if_neg c24] at H
                 exact absurd H (by simp)
             · rw [if_neg c23] at H
               exact absurd H (by simp)
           · rw [if_neg c22] at H
             exact absurd H (by simp)
         · rw [if_neg c21] at H
           exact absurd H (by simp)
       · rw [if_neg c20] at H
         have c20b0 : decide (x31_2 < (t128.length : Int)) = false := decide_eq_false c20
         clear c20
         simp only [Option.some.injEq, Prod.mk.injEq] at H
         obtain ⟨rfl, rfl⟩ := H
         go_wp2
         go_ret2
         exact ⟨_, by first | rfl | (simp [errW_none, errW_some] <;> rfl) | (simp [*, errW_none, errW_some] <;> rfl), Kd.V_mono (Kd.R_V (by (with_reducible repeat (first | apply Kd.R_alloc | apply Kd.R_drewN | apply Kd.R_drew)); exact HO_8.out)) (fun k_ hk => by first | exact ⟨(.inr (hk.1)), hk.2⟩ | exact (.inr (hk))), by repeat (with_reducible first | exact HB.out | apply below_alloc | apply pw_below_drewN | apply below_drew1)⟩

/-! ### stripe_Held: function 40 -/
mutual
def stripe_Held.j0 : Nat → List (S67) → Int → Bool → Option (List Int)
 | 0, _, _, _ => none
 | k + 1, x0, x1, x15 => if x15 = true then (some ([] : List Int)) else (stripe_Held.l0 k x1 ([] : List Int) x0 (x0.length : Int) 0)
def stripe_Held.l0 : Nat → Int → List Int → List (S67) → Int → Int → Option (List Int)
 | 0, _, _, _, _, _ => none
 | k + 1, x1, x5, x16, x17, x18 => if x18 < x17 then (if 0 ≤ x18 then (if x18 < (x16.length : Int) then (if ((rd_T67 x16 x18).f1) = x1 then (if x5.length < 17592186044416 then (stripe_Held.l0 k x1 (x5 ++ [x18]) x16 x17 (wrap64 (x18 + 1))) else (none)) else (stripe_Held.l0 k x1 x5 x16 x17 (wrap64 (x18 + 1)))) else (none)) else (none)) else (some x5)
end
def stripe_Held.f (k : Nat) (l0 : List (S67)) (a1 : Int) : Option (List Int) := (stripe_Right.f l0).bind fun t136 => (if t136 = true then ((stripe_somebody.f a1).bind fun t137 => (stripe_Held.j0 k l0 a1 (!t137))) else (stripe_Held.j0 k l0 a1 true))
theorem stripe_Held.mono_l : ∀ k, (∀ y0 y1 y2, LeO (stripe_Held.j0 k y0 y1 y2) (stripe_Held.j0 (k + 1) y0 y1 y2)) ∧ (∀ y0 y1 y2 y3 y4, LeO (stripe_Held.l0 k y0 y1 y2 y3 y4) (stripe_Held.l0 (k + 1) y0 y1 y2 y3 y4))
 | 0 => ⟨fun _ _ _ r h => by simp [stripe_Held.j0] at h, fun _ _ _ _ _ r h => by simp [stripe_Held.l0] at h⟩
 | k + 1 => by
  obtain ⟨ih0, ih1⟩ := stripe_Held.mono_l k
  refine ⟨?_, ?_⟩
  · intro y0 y1 y2
    unfold stripe_Held.j0
    repeat' first
    | (with_reducible exact ih0 _ _ _)
    | (with_reducible exact ih1 _ _ _ _ _)
    | (with_reducible exact LeO.refl _)
    | (with_reducible exact LeO.none _)
    | (with_reducible refine LeO.ite ?_ ?_)
    | (with_reducible refine LeO.bind ?_ (fun _ => ?_))
    | exact ih0 _ _ _
    | exact ih1 _ _ _ _ _
    | exact LeO.none _
    | refine LeO.ite ?_ ?_
    | refine LeO.bind ?_ (fun _ => ?_)
  · intro y0 y1 y2 y3 y4
    unfold stripe_Held.l0
    repeat' first
    | (with_reducible exact ih0 _ _ _)
    | (with_reducible exact ih1 _ _ _ _ _)
    | (with_reducible exact LeO.refl _)
    | (with_reducible exact LeO.none _)
    | (with_reducible refine LeO.ite ?_ ?_)
    | (with_reducible refine LeO.bind ?_ (fun _ => ?_))
    | exact ih0 _ _ _
    | exact ih1 _ _ _ _ _
    | exact LeO.none _
    | refine LeO.ite ?_ ?_
    | refine LeO.bind ?_ (fun _ => ?_)
theorem stripe_Held.mono : ∀ a0 a1 k, LeO (stripe_Held.f k a0 a1) (stripe_Held.f (k + 1) a0 a1) := by
 intro a0 a1 k
 obtain ⟨ih0, ih1⟩ := stripe_Held.mono_l k
 unfold stripe_Held.f
 repeat' first
  | (with_reducible exact ih0 _ _ _)
  | (with_reducible exact ih1 _ _ _ _ _)
  | (with_reducible exact LeO.refl _)
  | (with_reducible exact LeO.none _)
  | (with_reducible refine LeO.ite ?_ ?_)
  | (with_reducible refine LeO.bind ?_ (fun _ => ?_))
  | exact ih0 _ _ _
  | exact ih1 _ _ _ _ _
  | exact LeO.none _
  | refine LeO.ite ?_ ?_
  | refine LeO.bind ?_ (fun _ => ?_)
set_option maxHeartbeats 8000000 in
set_option maxRecDepth 100000 in
theorem stripe_Held.calls (k : Nat) (A0 : Option Addr) (c0 : Nat) (l0 : List (S67)) (a1 : Int) (r : List Int) (w : World) (hr0 : Kd.C k67 w A0 l0.length l0) (hc0 : l0.length ≤ c0) (h : stripe_Held.f k l0 a1 = some r) :
 Calls Try.prog 40 #[.slice A0 l0.length c0, .int .i64 a1] w fun e w' => ∃ v0_ : Value, e = .returned (v0_) ∧ Kd.R (Kd.int .i64) 3 w' w.heap.size (fun _ => True) v0_ r ∧ Below w.heap.size w w' := by
 have hu67 := Try.underlying67
 have HR0 := Aside0.mk hr0
 have HC0 := Aside0.mk hc0
 clear hr0 hc0
 have HB := Aside0.mk (Below.refl w.heap.size w)
 have H : ((stripe_Right.f l0).bind fun t136 => (if t136 = true then ((stripe_somebody.f a1).bind fun t137 => (stripe_Held.j0 k l0 a1 (!t137))) else (stripe_Held.j0 k l0 a1 true))) = some r := h
 clear h
 have HC3 := Aside0.mk H
 clear H
 go_enter Try.func40, Try.ntmps40
 go_upto_region 1 with (fail)
 go_cut [15] (fun v15 wc => ∃ (kq : Nat) (x15_2 : Bool), v15 = .bool x15_2 ∧ Aside0 (stripe_Held.j0 kq l0 a1 x15_2 = some r) ∧ Aside0 (kq ≤ k) ∧ Aside0 (Below w.heap.size w wc))
 case first =>
  have H := HC3.out
  clear HC3
  replace H := Option.bind_eq_some_iff.mp H
  obtain ⟨t136, A40, H⟩ := H
  replace H : (if t136 = true then ((stripe_somebody.f a1).bind fun t137 => (stripe_Held.j0 k l0 a1 (!t137))) else (stripe_Held.j0 k l0 a1 true)) = some r := H
  have A4 := Aside0.mk A40
  clear A40
  by_cases c5 : t136 = true
  · subst c5
    have H1 : ((stripe_somebody.f a1).bind fun t137 => (stripe_Held.j0 k l0 a1 (!t137))) = some r := by rw [if_pos rfl] at H; exact H
    clear H
    have H := H1
    clear H1
    replace H := Option.bind_eq_some_iff.mp H
    obtain ⟨t137, A60, H⟩ := H
    replace H : (stripe_Held.j0 k l0 a1 (!t137)) = some r := H
    have A6 := Aside0.mk A60
    clear A60
    have H' := Aside0.mk H
    clear H
    go_wp2_with (first | ((with_reducible refine gate_callee (f := 37) rfl ?_); refine goesL_ (some 9) rfl rfl Try.func37 (by kernel_rfl) rfl #[.slice A0 l0.length c0] rfl (by (try simp only [List.map_toArray, List.map_cons, List.map_nil]); first | done | rfl) ?_; (with_reducible refine (stripe_Right.calls _ _ l0 true _ ?side1 ?side2 A4.out).mono ?_); (case side1 => repeat (first | exact (Kd.C_below HR0.out HB.out) | with_reducible first | refine Kd.C_alloc ?_ _ | refine Kd.C_drewN ?_ _ | refine Kd.C_drew ?_)); (case side2 => exact HC0.out); rintro e w7 ⟨rfl, hb⟩; refine ⟨_, rfl, ?_⟩; have n0_ := Aside0.mk (bst_ hb); clear HB; have HB := n0_; clear n0_; (try clear hb); (try clear hb2); (try clear hk); (try clear hi)) | (go_at_call 58; (with_reducible refine (stripe_somebody.calls a1 t137 _ A6.out).mono ?_); rintro e w' ⟨rfl, ⟨nd, rfl⟩⟩))
    go_meet
    case rel => exact ⟨_, (!t137), (by first | rfl | (simp; done) | (simp [*]; done)), H', ⟨by first | omega | exact Nat.le_refl _⟩, ⟨by repeat (with_reducible first | exact HB.out | apply below_alloc | apply pw_below_drewN | apply below_drew1)⟩⟩
  · replace c5 := Bool.eq_false_iff.mpr c5
    subst c5
    have H1 : (stripe_Held.j0 k l0 a1 true) = some r := by rw [if_neg (show ¬ (false = true) by decide)] at H; exact H
    clear H
    have H := H1
    clear H1
    have H' := Aside0.mk H
    clear H
    go_wp2_with (first | ((with_reducible refine gate_callee (f := 37) rfl ?_); refine goesL_ (some 9) rfl rfl Try.func37 (by kernel_rfl) rfl #[.slice A0 l0.length c0] rfl (by (try simp only [List.map_toArray, List.map_cons, List.map_nil]); first | done | rfl) ?_; (with_reducible refine (stripe_Right.calls _ _ l0 false _ ?side1 ?side2 A4.out).mono ?_); (case side1 => repeat (first | exact (Kd.C_below HR0.out HB.out) | with_reducible first | refine Kd.C_alloc ?_ _ | refine Kd.C_drewN ?_ _ | refine Kd.C_drew ?_)); (case side2 => exact HC0.out); rintro e w8 ⟨rfl, hb⟩; refine ⟨_, rfl, ?_⟩; have n0_ := Aside0.mk (bst_ hb); clear HB; have HB := n0_; clear n0_; (try clear hb); (try clear hb2); (try clear hk); (try clear hi)))
    go_meet
    case rel => exact ⟨_, (true), (by first | rfl | (simp; done) | (simp [*]; done)), H', ⟨by first | omega | exact Nat.le_refl _⟩, ⟨by repeat (with_reducible first | exact HB.out | apply below_alloc | apply pw_below_drewN | apply below_drew1)⟩⟩
 case rest =>
  clear HC3
  try clear p2
  try clear c3
  try clear c4
  try clear c5
  obtain ⟨kq, x15_2, rfl, HA, HJ2, HB⟩ := hcut
  cases kq with
  | zero => exact absurd HA.out (by simp [stripe_Held.j0])
  | succ kj2 =>
   have H := HA.out
   clear HA
   simp only [stripe_Held.j0] at H
   by_cases c9 : x15_2 = true
   · subst c9
     have H1 : (some ([] : List Int)) = some r := by rw [if_pos rfl] at H; exact H
     clear H
     have H := H1
     clear H1
     obtain rfl := Option.some.inj H
     go_wp2
     go_ret
     exact ⟨_, by first | rfl | (simp [errW_none, errW_some] <;> rfl) | (simp [*, errW_none, errW_some] <;> rfl), by first | exact Kd.R_nil _ _ _ _ _ | exact Kd.N_nil _ _ _ _ _ | exact Kd.V_nil _ _ _ _ _ | exact Kd.Q_nil _ _ _ _ _ | exact Kd.S_nil _ _ _ _ _, by repeat (with_reducible first | exact HB.out | apply below_alloc | apply pw_below_drewN | apply below_drew1)⟩
   · replace c9 := Bool.eq_false_iff.mpr c9
     subst c9
     have H1 : (stripe_Held.l0 kj2 a1 ([] : List Int) l0 (l0.length : Int) 0) = some r := by rw [if_neg (show ¬ (false = true) by decide)] at H; exact H
     clear H
     have H := H1
     clear H1
     have H' := Aside0.mk H
     clear H
     go_wp2
     go_loopg [5, 18] kj2 (fun kq v5 v18 w' => ∃ (x5_2 : List Int) (x18_2 : Int), v18 = .int .i64 x18_2 ∧ Aside0 (stripe_Held.l0 kq a1 x5_2 l0 (l0.length : Int) x18_2 = some r) ∧ Aside0 (kq ≤ kj2) ∧ Aside0 (Kd.R (Kd.int .i64) 3 w' w.heap.size (fun _ => True) v5 x5_2) ∧ Aside0 (Below w.heap.size w w'))
     case atStart => exact ⟨(([] : List Int)), (0), (by first | rfl | (simp; done) | (simp [*]; done)), H', ⟨Nat.le_refl _⟩, ⟨by first | exact Kd.R_nil _ _ _ _ _ | exact Kd.N_nil _ _ _ _ _ | exact Kd.V_nil _ _ _ _ _ | exact Kd.Q_nil _ _ _ _ _ | exact Kd.S_nil _ _ _ _ _⟩, ⟨by repeat (with_reducible first | exact HB.out | apply below_alloc | apply pw_below_drewN | apply below_drew1)⟩⟩
     case round =>
      clear H'
      try clear p2
      try clear c3
      try clear c4
      try clear c5
      try clear c9
      try clear p2
      obtain ⟨x5_2, x18_2, rfl, HA, HK2, HO_5, HB⟩ := hrel
      cases gk with
      | zero => exact absurd HA.out (by simp [stripe_Held.l0])
      | succ k2 =>
       have H := HA.out
       clear HA
       simp only [stripe_Held.l0] at H
       by_cases c10 : x18_2 < (l0.length : Int)
       · rw [if_pos c10] at H
         have c10b0 : decide (x18_2 < (l0.length : Int)) = true := decide_eq_true c10
         clear c10
         by_cases c11 : 0 ≤ x18_2
         · rw [if_pos c11] at H
           have c11b0 : decide (0 ≤ x18_2) = true := decide_eq_true c11
           clear c11
           by_cases c12 : x18_2 < (l0.length : Int)
           · rw [if_pos c12] at H
             have c12b0 : decide (x18_2 < (l0.length : Int)) = true := decide_eq_true c12
             clear c12
             by_cases c13 : ((rd_T67 l0 x18_2).f1) = a1
             · rw [if_pos c13] at H
               have c13b0 : (((rd_T67 l0 x18_2).f1) == a1) = true := beq_iff_eq.mpr c13
               have c13b1 : (((rd_T67 l0 x18_2).f1) != a1) = false := bne_eq_false_iff_eq.mpr c13
               clear c13
               by_cases c14 : x5_2.length < 17592186044416
               · rw [if_pos c14] at H
                 have LMc14 := Aside0.mk c14
                 clear c14
                 obtain ⟨y140, hy140⟩ : ∃ y_ : List Int, y_ = (x5_2 ++ [x18_2]) := ⟨_, rfl⟩
                 replace H : (stripe_Held.l0 k2 a1 y140 l0 (l0.length : Int) (wrap64 (x18_2 + 1))) = some r := by first | (rw [hy140]; with_reducible exact H) | (have H2_ := (Option.bind_some _ _).symm.trans H; rw [hy140]; with_reducible exact H2_) | (have H2_ := (Option.bind_some _ _).symm.trans H; with_reducible exact H2_) | with_reducible exact H | (rw [hy140]; exact H) | exact H
                 have Ny140 := Aside0.mk hy140
                 clear hy140
                 have H' := Aside0.mk H
                 clear H
                 have p138 : 0 ≤ (x18_2 : Int) := of_decide_eq_true (by first | (with_reducible assumption) | assumption)
                 have q138 : x18_2 < (l0.length : Int) := of_decide_eq_true (by first | (with_reducible assumption) | assumption)
                 obtain ⟨ad138, e138, hx138_0, hx138_1⟩ := at_T67 HR0.out x18_2 p138 q138
                 cases e138
                 replace hx138_0 := (HB.out.cell (World.block_lt_of_cell? w _ hx138_0)).trans hx138_0
                 replace hx138_1 := (HB.out.cell (World.block_lt_of_cell? w _ hx138_1)).trans hx138_1
                 replace p138 := eq_true p138
                 replace q138 := eq_true q138
                 go_wp2_with (first | ((with_reducible refine gate_dst (N := 7) rfl ?_); refine box_event ?hg (N := 7) ?hd (cs := #[.int .i64 0, .int .i64 0]) (t := 67) ?hr ?_; (case hd => rfl); (case hg => rfl); (case hr => first | (go_simp; done) | (go_simp; rfl)); intro gb139 hg w15 hbox hb; have n0_ := Aside0.mk (Kd.R_below (by (with_reducible repeat (first | apply Kd.R_alloc | apply Kd.R_drewN | apply Kd.R_drew)); exact HO_5.out) hb); have n1_ := Aside0.mk (bst_ hb); have n2_ := Aside0.mk (hbox); have n3_ := Aside0.mk ((by rw [hg]; exact bsz_ : w.heap.size ≤ gb139)); have n4_ := n3_; clear HO_5; clear HB; have HO_5 := n0_; have HB := n1_; have BK139 := n2_; have GW139 := n3_; have GE139 := n4_; clear n0_ n1_ n2_ n3_ n4_; clear hb hbox hg; have hcz16_0 : w15.cell? ⟨gb139, 0, none⟩ = some (.int .i64 0) := (blk_cell BK139.out 0).trans rfl; have hcz16_1 : w15.cell? ⟨gb139, 1, none⟩ = some (.int .i64 0) := (blk_cell BK139.out 1).trans rfl; have hfz16_0 := blk_frozen BK139.out 0; have hfz16_1 := blk_frozen BK139.out 1) | ((with_reducible refine gate_builtin (b := .append) (xs := #[.tmp 27, .tmp 29]) rfl ?_); at_builtin; refine Kd.R_append (Kd.int .i64) (w0 := w) w.heap.size rfl (.tmp 27) (.tmp 29) 35 3 (.int .i64 0) 8 rfl Try.underlying35 info3 rfl (by decide) (by omega) u5 x5_2 x18_2 [.int .i64 x18_2] (fun _ => True) (fun _ => False) rfl (by first | (go_simp; done) | (go_simp; rfl)) ?aP (fun _ hk => hk.elim) ?aF ?aO ?aB ?aS ?aL ?_; (case aP => exact rfl); (case aB => exact (by repeat (with_reducible first | exact HB.out | apply below_alloc | apply pw_below_drewN | apply below_drew1 | refine below_set ?_ GE139.out))); (case aF => exact (fun _ _ => trivial)); (case aO => exact (by (with_reducible repeat (first | apply Kd.R_alloc | apply Kd.R_drewN | apply Kd.R_drew)); exact Kd.R_mono (Kd.R_far (p := ⟨gb139, 1, none⟩) (Kd.R_far (p := ⟨gb139, 0, none⟩) (Kd.R_types HO_5.out BK139.out (by decide)) (fun _ hk => hk.2) (.int .i64 ((rd_T67 l0 x18_2).f0))) (fun _ hk => hk.2) (.int .i64 ((rd_T67 l0 x18_2).f1))) (fun _ hk => trivial))); (case aS => exact (below_size (by repeat (with_reducible first | exact HB.out | apply below_alloc | apply pw_below_drewN | apply below_drew1 | refine below_set ?_ GE139.out)))); (case aL => have := LMc14.out; omega); intro v141 w17 ho hb hg hat; rw [← Ny140.out] at ho; have n0_ := Aside0.mk (blk_grown (g := gb139) (o := .cells #[.int .i64 ((rd_T67 l0 x18_2).f0), .int .i64 ((rd_T67 l0 x18_2).f1)] 67 (0, 0)) (by (with_reducible repeat (first | refine blk_drewN ?_ _ | refine blk_drew ?_ | refine blk_alloc ?_ _)); refine blk_put (cs := #[.int .i64 ((rd_T67 l0 x18_2).f0), .int .i64 0]) ?_ 1 _ rfl; (with_reducible repeat (first | refine blk_drewN ?_ _ | refine blk_drew ?_ | refine blk_alloc ?_ _)); refine blk_put (cs := #[.int .i64 0, .int .i64 0]) ?_ 0 _ rfl; (with_reducible repeat (first | refine blk_drewN ?_ _ | refine blk_drew ?_ | refine blk_alloc ?_ _)); exact BK139.out) hg (Kd.R_ne HO_5.out BK139.out (by decide))); have n1_ := Aside0.mk (hb); have n2_ := Aside0.mk (ho); clear BK139; clear HB; clear HO_5; have BK139 := n0_; have HB := n1_; have HO142 := n2_; clear n0_ n1_ n2_; clear ho hb hg hat))
                 go_roundg k2
                 case measure => have := HJ2.out; have := HK2.out; omega
                 case rel => exact ⟨(y140), (wrap64 (x18_2 + 1)), (by first | rfl | (simp; done) | (simp [*]; done)), H', ⟨by have := HJ2.out; have := HK2.out; omega⟩, ⟨by (with_reducible repeat (first | apply Kd.R_alloc | apply Kd.R_drewN | apply Kd.R_drew)); exact HO142.out⟩, ⟨by repeat (with_reducible first | exact HB.out | apply below_alloc | apply pw_below_drewN | apply below_drew1 | refine below_set ?_ GE139.out)⟩⟩
               · rw [if_neg c14] at H
                 exact absurd H (by simp)
             · rw [if_neg c13] at H
               have c13b0 : (((rd_T67 l0 x18_2).f1) == a1) = false := beq_eq_false_iff_ne.mpr c13
               have c13b1 : (((rd_T67 l0 x18_2).f1) != a1) = true := bne_iff_ne.mpr c13
               have H' := Aside0.mk H
               clear H
               have p138 : 0 ≤ (x18_2 : Int) := of_decide_eq_true (by first | (with_reducible assumption) | assumption)
               have q138 : x18_2 < (l0.length : Int) := of_decide_eq_true (by first | (with_reducible assumption) | assumption)
               obtain ⟨ad138, e138, hx138_0, hx138_1⟩ := at_T67 HR0.out x18_2 p138 q138
               cases e138
               replace hx138_0 := (HB.out.cell (World.block_lt_of_cell? w _ hx138_0)).trans hx138_0
               replace hx138_1 := (HB.out.cell (World.block_lt_of_cell? w _ hx138_1)).trans hx138_1
               replace p138 := eq_true p138
               replace q138 := eq_true q138
               go_wp2_with (first | ((with_reducible refine gate_dst (N := 7) rfl ?_); refine box_event ?hg (N := 7) ?hd (cs := #[.int .i64 0, .int .i64 0]) (t := 67) ?hr ?_; (case hd => rfl); (case hg => rfl); (case hr => first | (go_simp; done) | (go_simp; rfl)); intro gb139 hg w18 hbox hb; have n0_ := Aside0.mk (Kd.R_below (by (with_reducible repeat (first | apply Kd.R_alloc | apply Kd.R_drewN | apply Kd.R_drew)); exact HO_5.out) hb); have n1_ := Aside0.mk (bst_ hb); have n2_ := Aside0.mk (hbox); have n3_ := Aside0.mk ((by rw [hg]; exact bsz_ : w.heap.size ≤ gb139)); have n4_ := n3_; clear HO_5; clear HB; have HO_5 := n0_; have HB := n1_; have BK139 := n2_; have GW139 := n3_; have GE139 := n4_; clear n0_ n1_ n2_ n3_ n4_; clear hb hbox hg; have hcz19_0 : w18.cell? ⟨gb139, 0, none⟩ = some (.int .i64 0) := (blk_cell BK139.out 0).trans rfl; have hcz19_1 : w18.cell? ⟨gb139, 1, none⟩ = some (.int .i64 0) := (blk_cell BK139.out 1).trans rfl; have hfz19_0 := blk_frozen BK139.out 0; have hfz19_1 := blk_frozen BK139.out 1))
               go_roundg k2
               case measure => have := HJ2.out; have := HK2.out; omega
               case rel => exact ⟨(x5_2), (wrap64 (x18_2 + 1)), (by first | rfl | (simp; done) | (simp [*]; done)), H', ⟨by have := HJ2.out; have := HK2.out; omega⟩, ⟨by (with_reducible repeat (first | apply Kd.R_alloc | apply Kd.R_drewN | apply Kd.R_drew)); exact Kd.R_mono (Kd.R_far (p := ⟨gb139, 1, none⟩) (Kd.R_far (p := ⟨gb139, 0, none⟩) (Kd.R_types HO_5.out BK139.out (by decide)) (fun _ hk => hk.2) (.int .i64 ((rd_T67 l0 x18_2).f0))) (fun _ hk => hk.2) (.int .i64 ((rd_T67 l0 x18_2).f1))) (fun _ hk => trivial)⟩, ⟨by repeat (with_reducible first | exact HB.out | apply below_alloc | apply pw_below_drewN | apply below_drew1 | refine below_set ?_ GE139.out)⟩⟩
           · rw [if_neg c12] at H
             exact absurd H (by simp)
         · rw [if_neg c11] at H
           exact absurd H (by simp)
       · rw [if_neg c10] at H
         have c10b0 : decide (x18_2 < (l0.length : Int)) = false := decide_eq_false c10
         clear c10
         obtain rfl := Option.some.inj H
         go_wp2
         go_ret
         exact ⟨_, by first | rfl | (simp [errW_none, errW_some] <;> rfl) | (simp [*, errW_none, errW_some] <;> rfl), by (with_reducible repeat (first | apply Kd.R_alloc | apply Kd.R_drewN | apply Kd.R_drew)); exact HO_5.out, by repeat (with_reducible first | exact HB.out | apply below_alloc | apply pw_below_drewN | apply below_drew1)⟩

/-! ### stripe_Stamp_1: function 63 -/
def stripe_Stamp_1.f (a0 : Int) (l1 : List (S67)) (a2 : Int) : Option (Bool) := if 0 ≤ a0 then (if a0 < (l1.length : Int) then (some (decide (((rd_T67 l1 a0).f0) ≥ a2))) else (none)) else (none)
set_option maxHeartbeats 8000000 in
set_option maxRecDepth 100000 in
theorem stripe_Stamp_1.calls (a0 : Int) (g1 : Nat) (A1 : Option Addr) (c1 : Nat) (l1 : List (S67)) (g2 : Nat) (a2 : Int) (r : Bool) (w : World) (hr1 : Kd.C k67 w A1 l1.length l1) (hc1 : l1.length ≤ c1) (hb1 : w.heap[g1]? = some (.cells #[.slice A1 l1.length c1] 40 (0, 0))) (hb2 : w.heap[g2]? = some (.cells #[.int .i64 a2] 3 (0, 0))) (h : stripe_Stamp_1.f a0 l1 a2 = some r) :
 Calls Try.prog 63 #[.int .i64 a0, .pointer (some ⟨g1, 0, none⟩), .pointer (some ⟨g2, 0, none⟩)] w fun e w' => e = .returned (.bool r) ∧ Drawn0 w w' := by
 have HR1 := Aside0.mk hr1
 have HC1 := Aside0.mk hc1
 clear hr1 hc1
 have BK1 := Aside0.mk hb1
 clear hb1
 have BK2 := Aside0.mk hb2
 clear hb2
 have H : (if 0 ≤ a0 then (if a0 < (l1.length : Int) then (some (decide (((rd_T67 l1 a0).f0) ≥ a2))) else (none)) else (none)) = some r := h
 clear h
 by_cases c4 : 0 ≤ a0
 · rw [if_pos c4] at H
   have c4b0 : decide (0 ≤ a0) = true := decide_eq_true c4
   clear c4
   by_cases c5 : a0 < (l1.length : Int)
   · rw [if_pos c5] at H
     have c5b0 : decide (a0 < (l1.length : Int)) = true := decide_eq_true c5
     clear c5
     obtain rfl := Option.some.inj H
     have hcz6_0 : w.cell? ⟨g1, 0, none⟩ = some (.slice A1 l1.length c1) := (blk_cell BK1.out 0).trans rfl
     have hfz6_0 := blk_frozen BK1.out 0
     have p143 : 0 ≤ (a0 : Int) := of_decide_eq_true (by first | (with_reducible assumption) | assumption)
     have q143 : a0 < (l1.length : Int) := of_decide_eq_true (by first | (with_reducible assumption) | assumption)
     obtain ⟨ad143, e143, hx143_0, hx143_1⟩ := at_T67 HR1.out a0 p143 q143
     cases e143
     replace p143 := eq_true p143
     replace q143 := eq_true q143
     have hcz7_0 : w.cell? ⟨g2, 0, none⟩ = some (.int .i64 a2) := (blk_cell BK2.out 0).trans rfl
     have hfz7_0 := blk_frozen BK2.out 0
     go_enter Try.func63, Try.ntmps63
     go_wp2
     repeat (go_quiet (fail); try go_wp2)
     go_ret
     exact ⟨by first | rfl | (simp; done) | (simp [*]; done), by repeat (first | exact Drawn0.refl _ | apply Drawn0.step)⟩
   · rw [if_neg c5] at H
     exact absurd H (by simp)
 · rw [if_neg c4] at H
   exact absurd H (by simp)

/-! ### any_at_stripe_Stamp_1: function 59 at the function value 63 -/
def any_at_stripe_Stamp_1.f (l0 : List (Int)) (l1 : List (S67)) (a2 : Int) : Option (Bool) := anyF (fun x => stripe_Stamp_1.f x l1 a2) l0
theorem any_at_stripe_Stamp_1.calls (A0 : Option Addr) (c0 : Nat) (l0 : List (Int)) (g1 : Nat) (A1 : Option Addr) (c1 : Nat) (l1 : List (S67)) (g2 : Nat) (a2 : Int) (r : Bool) (w : World) (hr0 : Kd.C (Kd.int .i64) w A0 l0.length l0) (hc0 : l0.length ≤ c0) (hr1 : Kd.C k67 w A1 l1.length l1) (hc1 : l1.length ≤ c1) (hb1 : w.heap[g1]? = some (.cells #[.slice A1 l1.length c1] 40 (0, 0))) (hb2 : w.heap[g2]? = some (.cells #[.int .i64 a2] 3 (0, 0))) (h : any_at_stripe_Stamp_1.f l0 l1 a2 = some r) :
 Calls Try.prog 59 #[.slice A0 l0.length c0, .func (.func 63) #[] #[.pointer (some ⟨g1, 0, none⟩), .pointer (some ⟨g2, 0, none⟩)]] w fun e w' => e = .returned (.bool r) ∧ Below w.heap.size w w' :=
 ho59 (fun x => stripe_Stamp_1.f x l1 a2) 63 #[.pointer (some ⟨g1, 0, none⟩), .pointer (some ⟨g2, 0, none⟩)] (enters_of Try.func63 (by kernel_rfl) rfl) A0 c0 l0 r w hr0 (fun W x b hW_ hx => by
  show Calls Try.prog 63 #[.int .i64 x, .pointer (some ⟨g1, 0, none⟩), .pointer (some ⟨g2, 0, none⟩)] W _
  exact (stripe_Stamp_1.calls x g1 A1 c1 l1 g2 a2 b W (Kd.C_below hr1 hW_) hc1 (hW_.block g1 (by have := (Array.getElem?_eq_some_iff.1 hb1).1; exact this) ▸ hb1) (hW_.block g2 (by have := (Array.getElem?_eq_some_iff.1 hb2).1; exact this) ▸ hb2) hx).mono (fun e W' ⟨he, hd⟩ => ⟨he, hd.below⟩)) h

end Go.Proofs.Ytlfmobnmohnjmaa.T
