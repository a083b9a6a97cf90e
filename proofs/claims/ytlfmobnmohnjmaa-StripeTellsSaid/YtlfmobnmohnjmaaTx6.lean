-- PRINTED by print.py (a twelfth state) out of the translation. Not trusted: Lean checks it.
import Derived.Test.YtlfmobnmohnjmaaTx0
import Derived.Test.YtlfmobnmohnjmaaTx5
namespace Go.Proofs.Ytlfmobnmohnjmaa.T
open Go.Proofs.Ytlfmobnmohnjmaa.Ho
open Go.RowKit Go.Proofs.YtlfmobnmohnjmaaW.PrintWords Go.Proofs.YtlfmobnmohnjmaaW.PrintLast Go.Proofs.YtlfmobnmohnjmaaW.PrintMore
attribute [local go_sem] max2_int min2_int max_two min_two max_three min_three max_four min_four   -- for this text's walks alone
set_option linter.unusedVariables false
set_option linter.unusedSimpArgs false

/-! ### handshakerref03_Lock: function 34 -/
mutual
def handshakerref03_Lock.j0 : Nat → List (S67) → Int → List Int → Bool → Option ((List (S67)) × Int)
 | 0, _, _, _, _ => none
 | k + 1, x0, x1, x2, x31 => if x31 = true then (some (x0, 1)) else ((handshakerref03_Of.f k x0 x2).bind fun t239 => (handshakerref03_Lock.l0 k x0 x1 t239 ([] : List (S67)) 0))
def handshakerref03_Lock.l0 : Nat → List (S67) → Int → List Int → List (S67) → Int → Option ((List (S67)) × Int)
 | 0, _, _, _, _, _ => none
 | k + 1, x0, x1, x11, x12, x13 => if x13 < (x0.length : Int) then (if 0 ≤ x13 then ((handshakerref03_in.f k x11 x13).bind fun t244 => (if t244 = true then (if ((rd_T67 x0 x13).f1) > 0 then (if ((rd_T67 x0 x13).f1) = x1 then (if x12.length < 8796093022208 then (handshakerref03_Lock.l0 k x0 x1 x11 (x12 ++ [(⟨(rd_T67 x0 x13).f0, x1⟩ : S67)]) (wrap64 (x13 + 1))) else (none)) else (some (x0, 7))) else (if x12.length < 8796093022208 then (handshakerref03_Lock.l0 k x0 x1 x11 (x12 ++ [(⟨(rd_T67 x0 x13).f0, x1⟩ : S67)]) (wrap64 (x13 + 1))) else (none))) else (if x12.length < 8796093022208 then (handshakerref03_Lock.l0 k x0 x1 x11 (x12 ++ [(⟨(rd_T67 x0 x13).f0, (rd_T67 x0 x13).f1⟩ : S67)]) (wrap64 (x13 + 1))) else (none)))) else (none)) else (some (x12, 0))
end
def handshakerref03_Lock.f (k : Nat) (l0 : List (S67)) (a1 : Int) (l2 : List Int) : Option ((List (S67)) × Int) := (handshakerref03_Right.f k l0).bind fun t236 => ((handshakerref03_Who.f a1).bind fun t237 => ((handshakerref03_Cells.f k l2).bind fun t238 => (if t236 = true then (if t237 = true then (handshakerref03_Lock.j0 k l0 a1 l2 (!t238)) else (handshakerref03_Lock.j0 k l0 a1 l2 true)) else (handshakerref03_Lock.j0 k l0 a1 l2 true))))
theorem handshakerref03_Lock.mono_l : ∀ k, (∀ y0 y1 y2 y3, LeO (handshakerref03_Lock.j0 k y0 y1 y2 y3) (handshakerref03_Lock.j0 (k + 1) y0 y1 y2 y3)) ∧ (∀ y0 y1 y2 y3 y4, LeO (handshakerref03_Lock.l0 k y0 y1 y2 y3 y4) (handshakerref03_Lock.l0 (k + 1) y0 y1 y2 y3 y4))
 | 0 => ⟨fun _ _ _ _ r h => by simp [handshakerref03_Lock.j0] at h, fun _ _ _ _ _ r h => by simp [handshakerref03_Lock.l0] at h⟩
 | k + 1 => by
  obtain ⟨ih0, ih1⟩ := handshakerref03_Lock.mono_l k
  refine ⟨?_, ?_⟩
  · intro y0 y1 y2 y3
    unfold handshakerref03_Lock.j0
    repeat' first
    | (with_reducible exact ih0 _ _ _ _)
    | (with_reducible exact ih1 _ _ _ _ _)
    | (with_reducible exact handshakerref03_Cells.mono _ _)
    | (with_reducible exact handshakerref03_Of.mono _ _ _)
    | (with_reducible exact handshakerref03_Right.mono _ _)
    | (with_reducible exact handshakerref03_in.mono _ _ _)
    | (with_reducible exact LeO.refl _)
    | (with_reducible exact LeO.none _)
    | (with_reducible refine LeO.ite ?_ ?_)
    | (with_reducible refine LeO.bind ?_ (fun _ => ?_))
    | exact ih0 _ _ _ _
    | exact ih1 _ _ _ _ _
    | exact handshakerref03_Cells.mono _ _
    | exact handshakerref03_Of.mono _ _ _
    | exact handshakerref03_Right.mono _ _
    | exact handshakerref03_in.mono _ _ _
    | exact LeO.none _
    | refine LeO.ite ?_ ?_
    | refine LeO.bind ?_ (fun _ => ?_)
  · intro y0 y1 y2 y3 y4
    unfold handshakerref03_Lock.l0
    repeat' first
    | (with_reducible exact ih0 _ _ _ _)
    | (with_reducible exact ih1 _ _ _ _ _)
    | (with_reducible exact handshakerref03_Cells.mono _ _)
    | (with_reducible exact handshakerref03_Of.mono _ _ _)
    | (with_reducible exact handshakerref03_Right.mono _ _)
    | (with_reducible exact handshakerref03_in.mono _ _ _)
    | (with_reducible exact LeO.refl _)
    | (with_reducible exact LeO.none _)
    | (with_reducible refine LeO.ite ?_ ?_)
    | (with_reducible refine LeO.bind ?_ (fun _ => ?_))
    | exact ih0 _ _ _ _
    | exact ih1 _ _ _ _ _
    | exact handshakerref03_Cells.mono _ _
    | exact handshakerref03_Of.mono _ _ _
    | exact handshakerref03_Right.mono _ _
    | exact handshakerref03_in.mono _ _ _
    | exact LeO.none _
    | refine LeO.ite ?_ ?_
    | refine LeO.bind ?_ (fun _ => ?_)
theorem handshakerref03_Lock.mono : ∀ a0 a1 a2 k, LeO (handshakerref03_Lock.f k a0 a1 a2) (handshakerref03_Lock.f (k + 1) a0 a1 a2) := by
 intro a0 a1 a2 k
 obtain ⟨ih0, ih1⟩ := handshakerref03_Lock.mono_l k
 unfold handshakerref03_Lock.f
 repeat' first
  | (with_reducible exact ih0 _ _ _ _)
  | (with_reducible exact ih1 _ _ _ _ _)
  | (with_reducible exact handshakerref03_Cells.mono _ _)
  | (with_reducible exact handshakerref03_Of.mono _ _ _)
  | (with_reducible exact handshakerref03_Right.mono _ _)
  | (with_reducible exact handshakerref03_in.mono _ _ _)
  | (with_reducible exact LeO.refl _)
  | (with_reducible exact LeO.none _)
  | (with_reducible refine LeO.ite ?_ ?_)
  | (with_reducible refine LeO.bind ?_ (fun _ => ?_))
  | exact ih0 _ _ _ _
  | exact ih1 _ _ _ _ _
  | exact handshakerref03_Cells.mono _ _
  | exact handshakerref03_Of.mono _ _ _
  | exact handshakerref03_Right.mono _ _
  | exact handshakerref03_in.mono _ _ _
  | exact LeO.none _
  | refine LeO.ite ?_ ?_
  | refine LeO.bind ?_ (fun _ => ?_)
set_option maxHeartbeats 8000000 in
set_option maxRecDepth 100000 in
theorem handshakerref03_Lock.calls (k : Nat) (P0_ : Nat → Prop) (A0 : Option Addr) (c0 : Nat) (l0 : List (S67)) (a1 : Int) (A2 : Option Addr) (c2 : Nat) (l2 : List Int) (r1 : List (S67)) (r2 : Int) (w : World) (hs0 : Kd.V k67 67 w w.heap.size (fun k_ => P0_ k_) (.slice A0 l0.length c0) l0) (hr2 : Kd.C (Kd.int .i64) w A2 l2.length l2) (hc2 : l2.length ≤ c2) (h : handshakerref03_Lock.f k l0 a1 l2 = some (r1, r2)) :
 Calls Try.prog 34 #[.slice A0 l0.length c0, .int .i64 a1, .slice A2 l2.length c2] w fun e w' => ∃ v0_ : Value, e = .returned (.tuple #[v0_, .int .i64 r2]) ∧ Kd.V k67 67 w' w.heap.size (fun k_ => (P0_ k_ ∨ w.heap.size ≤ k_)) v0_ r1 ∧ Below w.heap.size w w' := by
 have hu67 := Try.underlying67
 have HO0 := Aside0.mk (show Kd.V k67 67 w w.heap.size (fun k_ => (P0_ k_ ∨ w.heap.size ≤ k_)) (.slice A0 l0.length c0) l0 from Kd.V_mono hs0 (fun k_ hk => .inl hk))
 have HR2 := Aside0.mk hr2
 have HC2 := Aside0.mk hc2
 clear hr2 hc2
 have HB := Aside0.mk (Below.refl w.heap.size w)
 have H : ((handshakerref03_Right.f k l0).bind fun t236 => ((handshakerref03_Who.f a1).bind fun t237 => ((handshakerref03_Cells.f k l2).bind fun t238 => (if t236 = true then (if t237 = true then (handshakerref03_Lock.j0 k l0 a1 l2 (!t238)) else (handshakerref03_Lock.j0 k l0 a1 l2 true)) else (handshakerref03_Lock.j0 k l0 a1 l2 true))))) = some (r1, r2) := h
 clear h
 replace H := Option.bind_eq_some_iff.mp H
 obtain ⟨t236, A40, H⟩ := H
 replace H : ((handshakerref03_Who.f a1).bind fun t237 => ((handshakerref03_Cells.f k l2).bind fun t238 => (if t236 = true then (if t237 = true then (handshakerref03_Lock.j0 k l0 a1 l2 (!t238)) else (handshakerref03_Lock.j0 k l0 a1 l2 true)) else (handshakerref03_Lock.j0 k l0 a1 l2 true)))) = some (r1, r2) := H
 have A4 := Aside0.mk A40
 clear A40
 replace H := Option.bind_eq_some_iff.mp H
 obtain ⟨t237, A50, H⟩ := H
 replace H : ((handshakerref03_Cells.f k l2).bind fun t238 => (if t236 = true then (if t237 = true then (handshakerref03_Lock.j0 k l0 a1 l2 (!t238)) else (handshakerref03_Lock.j0 k l0 a1 l2 true)) else (handshakerref03_Lock.j0 k l0 a1 l2 true))) = some (r1, r2) := H
 have A5 := Aside0.mk A50
 clear A50
 replace H := Option.bind_eq_some_iff.mp H
 obtain ⟨t238, A60, H⟩ := H
 replace H : (if t236 = true then (if t237 = true then (handshakerref03_Lock.j0 k l0 a1 l2 (!t238)) else (handshakerref03_Lock.j0 k l0 a1 l2 true)) else (handshakerref03_Lock.j0 k l0 a1 l2 true)) = some (r1, r2) := H
 have A6 := Aside0.mk A60
 clear A60
 have HC7 := Aside0.mk H
 clear H
 go_enter Try.func34, Try.ntmps34
 go_upto_region 2 with (first | ((with_reducible refine gate_callee (f := 38) rfl ?_); refine goesL_ (some 17) rfl rfl Try.func38 (by kernel_rfl) rfl #[.slice A0 l0.length c0] rfl (by (try simp only [List.map_toArray, List.map_cons, List.map_nil]); first | done | rfl) ?_; (with_reducible refine (handshakerref03_Right.calls k _ _ l0 t236 _ ?side1 ?side2 A4.out).mono ?_); (case side1 => repeat (first | exact (Kd.V_reads' HO0.out).2.2 | with_reducible first | refine Kd.C_alloc ?_ _ | refine Kd.C_drewN ?_ _ | refine Kd.C_drew ?_)); (case side2 => exact (Kd.V_reads' HO0.out).2.1); rintro e w' ⟨rfl, ⟨nd, rfl⟩⟩; refine ⟨_, rfl, ?_⟩) | ((with_reducible refine gate_callee (f := 51) rfl ?_); refine goesL_ (some 19) rfl rfl Try.func51 (by kernel_rfl) rfl #[.int .i64 a1] rfl (by (try simp only [List.map_toArray, List.map_cons, List.map_nil]); first | done | rfl) ?_; (with_reducible refine (handshakerref03_Who.calls a1 t237 _ A5.out).mono ?_); rintro e w' ⟨rfl, ⟨nd, rfl⟩⟩; refine ⟨_, rfl, ?_⟩) | ((with_reducible refine gate_callee (f := 64) rfl ?_); refine goesL_ (some 21) rfl rfl Try.func64 (by kernel_rfl) rfl #[.slice A2 l2.length c2] rfl (by (try simp only [List.map_toArray, List.map_cons, List.map_nil]); first | done | rfl) ?_; (with_reducible refine (handshakerref03_Cells.calls k _ _ l2 t238 _ ?side1 ?side2 A6.out).mono ?_); (case side1 => repeat (first | exact HR2.out | with_reducible first | refine Kd.C_alloc ?_ _ | refine Kd.C_drewN ?_ _ | refine Kd.C_drew ?_)); (case side2 => exact HC2.out); rintro e w' ⟨rfl, ⟨nd, rfl⟩⟩; refine ⟨_, rfl, ?_⟩))
 (try simp only [Act.put, List.setIfInBounds_toArray, List.set_cons_zero, List.set_cons_succ])
 go_cut [31] (fun v31 wc => ∃ (kq : Nat) (x31_6 : Bool), v31 = .bool x31_6 ∧ Aside0 (handshakerref03_Lock.j0 kq l0 a1 l2 x31_6 = some (r1, r2)) ∧ Aside0 (kq ≤ k) ∧ Aside0 (Kd.V k67 67 wc w.heap.size (fun k_ => (P0_ k_ ∨ w.heap.size ≤ k_)) (.slice A0 l0.length c0) l0) ∧ Aside0 (Below w.heap.size w wc))
 case first =>
  have H := HC7.out
  clear HC7
  by_cases c8 : t236 = true
  · subst c8
    have H1 : (if t237 = true then (handshakerref03_Lock.j0 k l0 a1 l2 (!t238)) else (handshakerref03_Lock.j0 k l0 a1 l2 true)) = some (r1, r2) := by rw [if_pos rfl] at H; exact H
    clear H
    have H := H1
    clear H1
    by_cases c9 : t237 = true
    · subst c9
      have H1 : (handshakerref03_Lock.j0 k l0 a1 l2 (!t238)) = some (r1, r2) := by rw [if_pos rfl] at H; exact H
      clear H
      have H := H1
      clear H1
      have H' := Aside0.mk H
      clear H
      go_wp2
      go_meet
      case rel => exact ⟨_, (!t238), (by first | rfl | (simp; done) | (simp [*]; done)), H', ⟨by first | omega | exact Nat.le_refl _⟩, ⟨by (with_reducible repeat (first | apply Kd.V_alloc | apply Kd.V_drewN | apply Kd.V_drew)); exact HO0.out⟩, ⟨by repeat (with_reducible first | exact HB.out | apply below_alloc | apply pw_below_drewN | apply below_drew1)⟩⟩
    · replace c9 := Bool.eq_false_iff.mpr c9
      subst c9
      have H1 : (handshakerref03_Lock.j0 k l0 a1 l2 true) = some (r1, r2) := by rw [if_neg (show ¬ (false = true) by decide)] at H; exact H
      clear H
      have H := H1
      clear H1
      have H' := Aside0.mk H
      clear H
      go_wp2
      go_meet
      case rel => exact ⟨_, (true), (by first | rfl | (simp; done) | (simp [*]; done)), H', ⟨by first | omega | exact Nat.le_refl _⟩, ⟨by (with_reducible repeat (first | apply Kd.V_alloc | apply Kd.V_drewN | apply Kd.V_drew)); exact HO0.out⟩, ⟨by repeat (with_reducible first | exact HB.out | apply below_alloc | apply pw_below_drewN | apply below_drew1)⟩⟩
  · replace c8 := Bool.eq_false_iff.mpr c8
    subst c8
    have H1 : (handshakerref03_Lock.j0 k l0 a1 l2 true) = some (r1, r2) := by rw [if_neg (show ¬ (false = true) by decide)] at H; exact H
    clear H
    have H := H1
    clear H1
    have H' := Aside0.mk H
    clear H
    go_wp2
    go_meet
    case rel => exact ⟨_, (true), (by first | rfl | (simp; done) | (simp [*]; done)), H', ⟨by first | omega | exact Nat.le_refl _⟩, ⟨by (with_reducible repeat (first | apply Kd.V_alloc | apply Kd.V_drewN | apply Kd.V_drew)); exact HO0.out⟩, ⟨by repeat (with_reducible first | exact HB.out | apply below_alloc | apply pw_below_drewN | apply below_drew1)⟩⟩
 case rest =>
  clear HC7
  try clear c2
  try clear p2
  try clear c3
  try clear c5
  try clear c6
  try clear c8
  try clear c9
  obtain ⟨kq, x31_6, rfl, HA, HJ6, HO_0, HB⟩ := hcut
  cases kq with
  | zero => exact absurd HA.out (by simp [handshakerref03_Lock.j0])
  | succ kj6 =>
   have H := HA.out
   clear HA
   simp only [handshakerref03_Lock.j0] at H
   by_cases c10 : x31_6 = true
   · subst c10
     have H1 : (some (l0, 1)) = some (r1, r2) := by rw [if_pos rfl] at H; exact H
     clear H
     have H := H1
     clear H1
     simp only [Option.some.injEq, Prod.mk.injEq] at H
     obtain ⟨rfl, rfl⟩ := H
     go_wp2
     go_ret2
     exact ⟨_, by first | rfl | (simp [errW_none, errW_some] <;> rfl) | (simp [*, errW_none, errW_some] <;> rfl), by (with_reducible repeat (first | apply Kd.V_alloc | apply Kd.V_drewN | apply Kd.V_drew)); exact HO_0.out, by repeat (with_reducible first | exact HB.out | apply below_alloc | apply pw_below_drewN | apply below_drew1)⟩
   · replace c10 := Bool.eq_false_iff.mpr c10
     subst c10
     have H1 : ((handshakerref03_Of.f kj6 l0 l2).bind fun t239 => (handshakerref03_Lock.l0 kj6 l0 a1 t239 ([] : List (S67)) 0)) = some (r1, r2) := by rw [if_neg (show ¬ (false = true) by decide)] at H; exact H
     clear H
     have H := H1
     clear H1
     replace H := Option.bind_eq_some_iff.mp H
     obtain ⟨t239, A110, H⟩ := H
     replace H : (handshakerref03_Lock.l0 kj6 l0 a1 t239 ([] : List (S67)) 0) = some (r1, r2) := H
     have A11 := Aside0.mk A110
     clear A110
     have H' := Aside0.mk H
     clear H
     go_wp2_with (first | ((with_reducible refine gate_callee (f := 39) rfl ?_); refine goesL_ (some 35) rfl rfl Try.func39 (by kernel_rfl) rfl #[.slice A0 l0.length c0, .slice A2 l2.length c2] rfl (by (try simp only [List.map_toArray, List.map_cons, List.map_nil]); first | done | rfl) ?_; (with_reducible refine (handshakerref03_Of.calls kj6 _ _ l0 _ _ l2 t239 _ ?side1 ?side2 ?side3 ?side4 A11.out).mono ?_); (case side1 => repeat (first | exact (Kd.V_reads' HO_0.out).2.2 | with_reducible first | refine Kd.C_alloc ?_ _ | refine Kd.C_drewN ?_ _ | refine Kd.C_drew ?_)); (case side2 => exact (Kd.V_reads' HO_0.out).2.1); (case side3 => repeat (first | exact (Kd.C_below HR2.out HB.out) | with_reducible first | refine Kd.C_alloc ?_ _ | refine Kd.C_drewN ?_ _ | refine Kd.C_drew ?_)); (case side4 => exact HC2.out); rintro e w12 ⟨v240, rfl, ho0, hb⟩; refine ⟨_, rfl, ?_⟩; have n0_ := Aside0.mk (Kd.V_elder' (by (with_reducible repeat (first | apply Kd.V_alloc | apply Kd.V_drewN | apply Kd.V_drew)); exact HO_0.out) (Kd.R_base ho0) hb); have n1_ := Aside0.mk (Kd.R_lower (Kd.R_newM (M := fun k_ => (w.heap.size ≤ k_)) ho0 bsz_ (fun k_ h_ => h_)) bsz_); have n2_ := Aside0.mk (bst_ hb); clear HO_0; clear HB; have HO_0 := n0_; have HO241 := n1_; have HB := n2_; clear n0_ n1_ n2_; (try clear hb); (try clear hb2); (try clear hk); (try clear hi); (try clear ho0)))
     go_loopg [12, 13] kj6 (fun kq v12 v13 w' => ∃ (x12_2 : List (S67)) (x13_2 : Int), v13 = .int .i64 x13_2 ∧ Aside0 (handshakerref03_Lock.l0 kq l0 a1 t239 x12_2 x13_2 = some (r1, r2)) ∧ Aside0 (kq ≤ kj6) ∧ Aside0 (Kd.V k67 67 w' w.heap.size (fun k_ => (P0_ k_ ∨ w.heap.size ≤ k_) ∧ some k_ ≠ (v240 : Value).ownBlock ∧ some k_ ≠ (v12 : Value).ownBlock) (.slice A0 l0.length c0) l0) ∧ Aside0 (Kd.R (Kd.int .i64) 3 w' w.heap.size (fun k_ => (w.heap.size ≤ k_)) v240 t239) ∧ Aside0 (Kd.R k67 67 w' w.heap.size (fun k_ => (w.heap.size ≤ k_)) v12 x12_2) ∧ Aside0 (Below w.heap.size w w'))
     case atStart => exact ⟨(([] : List (S67))), (0), (by first | rfl | (simp; done) | (simp [*]; done)), H', ⟨Nat.le_refl _⟩, ⟨by (with_reducible repeat (first | apply Kd.V_alloc | apply Kd.V_drewN | apply Kd.V_drew)); exact Kd.V_mono HO_0.out (fun _ hk => ⟨hk.1, ⟨hk.2, (by simp [Value.ownBlock])⟩⟩)⟩, ⟨by (with_reducible repeat (first | apply Kd.R_alloc | apply Kd.R_drewN | apply Kd.R_drew)); exact Kd.R_mono HO241.out (fun _ hk => hk.1)⟩, ⟨by first | exact Kd.R_nil _ _ _ _ _ | exact Kd.N_nil _ _ _ _ _ | exact Kd.V_nil _ _ _ _ _ | exact Kd.Q_nil _ _ _ _ _ | exact Kd.S_nil _ _ _ _ _⟩, ⟨by repeat (with_reducible first | exact HB.out | apply below_alloc | apply pw_below_drewN | apply below_drew1)⟩⟩
     case round =>
      clear H'
      try clear c1
      try clear c2
      try clear p2
      try clear c3
      try clear c5
      try clear c6
      try clear c8
      try clear c9
      try clear c10
      try clear p2
      obtain ⟨x12_2, x13_2, rfl, HA, HK2, HO_0, HO_11, HO_12, HB⟩ := hrel
      cases gk with
      | zero => exact absurd HA.out (by simp [handshakerref03_Lock.l0])
      | succ k2 =>
       have H := HA.out
       clear HA
       simp only [handshakerref03_Lock.l0] at H
       by_cases c13 : x13_2 < (l0.length : Int)
       · rw [if_pos c13] at H
         have c13b0 : decide (x13_2 < (l0.length : Int)) = true := decide_eq_true c13
         clear c13
         by_cases c14 : 0 ≤ x13_2
         · rw [if_pos c14] at H
           have c14b0 : decide (0 ≤ x13_2) = true := decide_eq_true c14
           clear c14
           replace H := Option.bind_eq_some_iff.mp H
           obtain ⟨t244, A150, H⟩ := H
           replace H : (if t244 = true then (if ((rd_T67 l0 x13_2).f1) > 0 then (if ((rd_T67 l0 x13_2).f1) = a1 then (if x12_2.length < 8796093022208 then (handshakerref03_Lock.l0 k2 l0 a1 t239 (x12_2 ++ [(⟨(rd_T67 l0 x13_2).f0, a1⟩ : S67)]) (wrap64 (x13_2 + 1))) else (none)) else (some (l0, 7))) else (if x12_2.length < 8796093022208 then (handshakerref03_Lock.l0 k2 l0 a1 t239 (x12_2 ++ [(⟨(rd_T67 l0 x13_2).f0, a1⟩ : S67)]) (wrap64 (x13_2 + 1))) else (none))) else (if x12_2.length < 8796093022208 then (handshakerref03_Lock.l0 k2 l0 a1 t239 (x12_2 ++ [(⟨(rd_T67 l0 x13_2).f0, (rd_T67 l0 x13_2).f1⟩ : S67)]) (wrap64 (x13_2 + 1))) else (none))) = some (r1, r2) := H
           have A15 := Aside0.mk A150
           clear A150
           by_cases c16 : t244 = true
           · subst c16
             have H1 : (if ((rd_T67 l0 x13_2).f1) > 0 then (if ((rd_T67 l0 x13_2).f1) = a1 then (if x12_2.length < 8796093022208 then (handshakerref03_Lock.l0 k2 l0 a1 t239 (x12_2 ++ [(⟨(rd_T67 l0 x13_2).f0, a1⟩ : S67)]) (wrap64 (x13_2 + 1))) else (none)) else (some (l0, 7))) else (if x12_2.length < 8796093022208 then (handshakerref03_Lock.l0 k2 l0 a1 t239 (x12_2 ++ [(⟨(rd_T67 l0 x13_2).f0, a1⟩ : S67)]) (wrap64 (x13_2 + 1))) else (none))) = some (r1, r2) := by rw [if_pos rfl] at H; exact H
             clear H
             have H := H1
             clear H1
             by_cases c17 : ((rd_T67 l0 x13_2).f1) > 0
             · rw [if_pos c17] at H
               have c17b0 : decide (0 < ((rd_T67 l0 x13_2).f1)) = true := decide_eq_true c17
               clear c17
               by_cases c18 : ((rd_T67 l0 x13_2).f1) = a1
               · rw [if_pos c18] at H
                 have c18b0 : (((rd_T67 l0 x13_2).f1) == a1) = true := beq_iff_eq.mpr c18
                 have c18b1 : (((rd_T67 l0 x13_2).f1) != a1) = false := bne_eq_false_iff_eq.mpr c18
                 clear c18
                 by_cases c19 : x12_2.length < 8796093022208
                 · rw [if_pos c19] at H
                   have LMc19 := Aside0.mk c19
                   clear c19
                   obtain ⟨y245, hy245⟩ : ∃ y_ : List (S67), y_ = (x12_2 ++ [(⟨(rd_T67 l0 x13_2).f0, a1⟩ : S67)]) := ⟨_, rfl⟩
                   replace H : (handshakerref03_Lock.l0 k2 l0 a1 t239 y245 (wrap64 (x13_2 + 1))) = some (r1, r2) := by first | (rw [hy245]; with_reducible exact H) | (have H2_ := (Option.bind_some _ _).symm.trans H; rw [hy245]; with_reducible exact H2_) | (have H2_ := (Option.bind_some _ _).symm.trans H; with_reducible exact H2_) | with_reducible exact H | (rw [hy245]; exact H) | exact H
                   have Ny245 := Aside0.mk hy245
                   clear hy245
                   have H' := Aside0.mk H
                   clear H
                   have p242 : 0 ≤ (x13_2 : Int) := of_decide_eq_true (by first | (with_reducible assumption) | assumption)
                   have q242 : x13_2 < (l0.length : Int) := of_decide_eq_true (by first | (with_reducible assumption) | assumption)
                   obtain ⟨ad242, e242, hx242_0, hx242_1⟩ := at_T67 (Kd.V_reads' HO_0.out).2.2 x13_2 p242 q242
                   cases e242
                   replace p242 := eq_true p242
                   replace q242 := eq_true q242
                   go_wp2_with (first | ((with_reducible refine gate_dst (N := 14) rfl ?_); refine box_event ?hg (N := 14) ?hd (cs := #[.int .i64 0, .int .i64 0]) (t := 67) ?hr ?_; (case hd => rfl); (case hg => rfl); (case hr => first | (go_simp; done) | (go_simp; rfl)); intro gb243 hg w20 hbox hb; have n0_ := Aside0.mk (Kd.V_below (Kd.V_elderB (by (with_reducible repeat (first | apply Kd.V_alloc | apply Kd.V_drewN | apply Kd.V_drew)); exact HO_0.out) gb243 (Nat.le_of_eq hg.symm)) hb); have n1_ := Aside0.mk (Kd.R_below (by (with_reducible repeat (first | apply Kd.R_alloc | apply Kd.R_drewN | apply Kd.R_drew)); exact HO_11.out) hb); have n2_ := Aside0.mk (Kd.R_below (Kd.R_elderB (by (with_reducible repeat (first | apply Kd.R_alloc | apply Kd.R_drewN | apply Kd.R_drew)); exact HO_12.out) gb243 (Nat.le_of_eq hg.symm)) hb); have n3_ := Aside0.mk (bst_ hb); have n4_ := Aside0.mk (hbox); have n5_ := Aside0.mk ((by rw [hg]; exact bsz_ : w.heap.size ≤ gb243)); have n6_ := n5_; clear HO_0; clear HO_11; clear HO_12; clear HB; have HO_0 := n0_; have HO_11 := n1_; have HO_12 := n2_; have HB := n3_; have BK243 := n4_; have GW243 := n5_; have GE243 := n6_; clear n0_ n1_ n2_ n3_ n4_ n5_ n6_; clear hb hbox hg; have hcz21_0 : w20.cell? ⟨gb243, 0, none⟩ = some (.int .i64 0) := (blk_cell BK243.out 0).trans rfl; have hcz21_1 : w20.cell? ⟨gb243, 1, none⟩ = some (.int .i64 0) := (blk_cell BK243.out 1).trans rfl; have hfz21_0 := blk_frozen BK243.out 0; have hfz21_1 := blk_frozen BK243.out 1) | ((with_reducible refine gate_store (t := 67) (p := 14) rfl ?_); refine store_event (t := 67) (p := 14) (v := ?vo_w22) (w1 := ((w20.setCell ⟨gb243, 0, none⟩ (.int .i64 ((rd_T67 l0 x13_2).f0))).setCell ⟨gb243, 1, none⟩ (.int .i64 ((rd_T67 l0 x13_2).f1)))) ?hg ?ho ?hn ?hr ?_; (case ho => rfl); (case hg => rfl); (case hn => rfl); (case hr => first | (go_simp; done) | (go_simp; rfl)); intro w22 hw; have n0_ : Aside0 (Kd.V k67 67 w22 w.heap.size (fun k_ => (P0_ k_ ∨ w.heap.size ≤ k_) ∧ some k_ ≠ (v240 : Value).ownBlock ∧ some k_ ≠ (u12 : Value).ownBlock ∧ k_ ≠ gb243) (.slice (some ad242) l0.length c0) l0) := ⟨(by rw [hw]; exact (by (with_reducible repeat (first | apply Kd.V_alloc | apply Kd.V_drewN | apply Kd.V_drew)); exact Kd.V_mono (Kd.V_far (p := ⟨gb243, 1, none⟩) (Kd.V_far (p := ⟨gb243, 0, none⟩) (Kd.V_mono HO_0.out (fun k_ hk => (⟨hk, hk.2⟩ : _ ∧ k_ ≠ gb243))) (fun _ hk => hk.2) (.int .i64 ((rd_T67 l0 x13_2).f0))) (fun _ hk => hk.2) (.int .i64 ((rd_T67 l0 x13_2).f1))) (fun _ hk => ⟨hk.1.1.1, ⟨hk.1.1.2.1, ⟨hk.1.1.2.2, hk.1.2⟩⟩⟩)))⟩; have n1_ : Aside0 (Kd.R (Kd.int .i64) 3 w22 w.heap.size (fun k_ => (w.heap.size ≤ k_)) v240 t239) := ⟨(by rw [hw]; exact (by (with_reducible repeat (first | apply Kd.R_alloc | apply Kd.R_drewN | apply Kd.R_drew)); exact Kd.R_mono (Kd.R_far (p := ⟨gb243, 1, none⟩) (Kd.R_far (p := ⟨gb243, 0, none⟩) (Kd.R_types HO_11.out BK243.out (by decide)) (fun _ hk => hk.2) (.int .i64 ((rd_T67 l0 x13_2).f0))) (fun _ hk => hk.2) (.int .i64 ((rd_T67 l0 x13_2).f1))) (fun _ hk => hk.1)))⟩; have n2_ : Aside0 (Kd.R k67 67 w22 w.heap.size (fun k_ => (w.heap.size ≤ k_) ∧ k_ ≠ gb243) u12 x12_2) := ⟨(by rw [hw]; exact (by (with_reducible repeat (first | apply Kd.R_alloc | apply Kd.R_drewN | apply Kd.R_drew)); exact Kd.R_mono (Kd.R_far (p := ⟨gb243, 1, none⟩) (Kd.R_far (p := ⟨gb243, 0, none⟩) (Kd.R_mono HO_12.out (fun k_ hk => (⟨hk, hk.2⟩ : _ ∧ k_ ≠ gb243))) (fun _ hk => hk.2) (.int .i64 ((rd_T67 l0 x13_2).f0))) (fun _ hk => hk.2) (.int .i64 ((rd_T67 l0 x13_2).f1))) (fun _ hk => ⟨hk.1.1, hk.1.2⟩)))⟩; have n3_ : Aside0 (w22.heap[gb243]? = some (.cells #[.int .i64 ((rd_T67 l0 x13_2).f0), .int .i64 ((rd_T67 l0 x13_2).f1)] 67 (0, 0))) := ⟨(by rw [hw]; exact (by (with_reducible repeat (first | refine blk_drewN ?_ _ | refine blk_drew ?_ | refine blk_alloc ?_ _)); refine blk_put (cs := #[.int .i64 ((rd_T67 l0 x13_2).f0), .int .i64 0]) ?_ 1 _ rfl; (with_reducible repeat (first | refine blk_drewN ?_ _ | refine blk_drew ?_ | refine blk_alloc ?_ _)); refine blk_put (cs := #[.int .i64 0, .int .i64 0]) ?_ 0 _ rfl; (with_reducible repeat (first | refine blk_drewN ?_ _ | refine blk_drew ?_ | refine blk_alloc ?_ _)); exact BK243.out))⟩; have n4_ : Aside0 (Below w.heap.size w w22) := ⟨(by rw [hw]; exact (by repeat (with_reducible first | exact HB.out | apply below_alloc | apply pw_below_drewN | apply below_drew1 | refine below_set ?_ GE243.out)))⟩; clear hw; clear HO_0; clear HO_11; clear HO_12; clear BK243; clear HB; have HO_0 := n0_; have HO_11 := n1_; have HO_12 := n2_; have BK243 := n3_; have HB := n4_; clear n0_ n1_ n2_ n3_ n4_; obtain ⟨Ao23, co23, eo23⟩ := Kd.R_slice HO_11.out; subst eo23) | ((with_reducible refine gate_callee (f := 65) rfl ?_); refine goesL_ (some 48) rfl rfl Try.func65 (by kernel_rfl) rfl #[.slice Ao23 t239.length co23, .int .i64 x13_2] rfl (by (try simp only [List.map_toArray, List.map_cons, List.map_nil]); first | done | rfl) ?_; (with_reducible refine (handshakerref03_in.calls k2 _ _ t239 x13_2 true _ ?side1 ?side2 A15.out).mono ?_); (case side1 => repeat (first | exact (Kd.R_reads' HO_11.out).2.2 | with_reducible first | refine Kd.C_alloc ?_ _ | refine Kd.C_drewN ?_ _ | refine Kd.C_drew ?_)); (case side2 => exact (Kd.R_reads' HO_11.out).2.1); rintro e w' ⟨rfl, ⟨nd, rfl⟩⟩; refine ⟨_, rfl, ?_⟩; (try (rw [drewN_self w22]; generalize hq_ : World.drewN w22 _ = w22; have n0_ : Aside0 (Kd.V k67 67 w22 w.heap.size (fun k_ => (P0_ k_ ∨ w.heap.size ≤ k_) ∧ some k_ ≠ (.slice Ao23 t239.length co23 : Value).ownBlock ∧ some k_ ≠ (u12 : Value).ownBlock ∧ k_ ≠ gb243) (.slice (some ad242) l0.length c0) l0) := ⟨by rw [← hq_]; exact (by (with_reducible repeat (first | apply Kd.V_alloc | apply Kd.V_drewN | apply Kd.V_drew)); exact HO_0.out)⟩; have n1_ : Aside0 (Kd.R (Kd.int .i64) 3 w22 w.heap.size (fun k_ => (w.heap.size ≤ k_)) (.slice Ao23 t239.length co23) t239) := ⟨by rw [← hq_]; exact (by (with_reducible repeat (first | apply Kd.R_alloc | apply Kd.R_drewN | apply Kd.R_drew)); exact HO_11.out)⟩; have n2_ : Aside0 (Kd.R k67 67 w22 w.heap.size (fun k_ => (w.heap.size ≤ k_) ∧ k_ ≠ gb243) u12 x12_2) := ⟨by rw [← hq_]; exact (by (with_reducible repeat (first | apply Kd.R_alloc | apply Kd.R_drewN | apply Kd.R_drew)); exact HO_12.out)⟩; have n3_ : Aside0 (w22.heap[gb243]? = some (.cells #[.int .i64 ((rd_T67 l0 x13_2).f0), .int .i64 ((rd_T67 l0 x13_2).f1)] 67 (0, 0))) := ⟨by rw [← hq_]; exact (by (with_reducible repeat (first | refine blk_drewN ?_ _ | refine blk_drew ?_ | refine blk_alloc ?_ _)); exact BK243.out)⟩; have n4_ : Aside0 (Below w.heap.size w w22) := ⟨by rw [← hq_]; exact (by repeat (with_reducible first | exact HB.out | apply below_alloc | apply pw_below_drewN | apply below_drew1 | refine below_set ?_ GE243.out))⟩; clear HO_0 HO_11 HO_12 BK243 HB hq_; have HO_0 := n0_; have HO_11 := n1_; have HO_12 := n2_; have BK243 := n3_; have HB := n4_; clear n0_ n1_ n2_ n3_ n4_)); (try have hcu243_0 : w22.cell? ⟨gb243, 0, none⟩ = some (.int .i64 ((rd_T67 l0 x13_2).f0)) := (blk_cell BK243.out 0).trans rfl); (try have hcu243_1 : w22.cell? ⟨gb243, 1, none⟩ = some (.int .i64 ((rd_T67 l0 x13_2).f1)) := (blk_cell BK243.out 1).trans rfl); have hcz24_0 : w22.cell? ⟨gb243, 0, none⟩ = some (.int .i64 ((rd_T67 l0 x13_2).f0)) := (blk_cell BK243.out 0).trans rfl; have hcz24_1 : w22.cell? ⟨gb243, 1, none⟩ = some (.int .i64 ((rd_T67 l0 x13_2).f1)) := (blk_cell BK243.out 1).trans rfl; have hfz24_0 := blk_frozen BK243.out 0; have hfz24_1 := blk_frozen BK243.out 1) | ((with_reducible refine gate_builtin (b := .append) (xs := #[.tmp 62, .tmp 64]) rfl ?_); at_builtin; refine Kd.R_append k67 (w0 := w) w.heap.size rfl (.tmp 62) (.tmp 64) 40 67 (.agg #[(.int .i64 0), (.int .i64 0)]) 16 rfl Try.underlying40 info67 rfl (by decide) (by omega) u12 x12_2 (⟨(rd_T67 l0 x13_2).f0, a1⟩ : S67) [.int .i64 ((rd_T67 l0 x13_2).f0), .int .i64 a1] (fun k_ => (w.heap.size ≤ k_) ∧ k_ ≠ gb243) (fun _ => False) rfl (by first | (go_simp; done) | (go_simp; rfl)) ?aP (fun _ hk => hk.elim) ?aF ?aO ?aB ?aS ?aL ?_; (case aP => exact k67_mkM _ _ _ (⟨(rd_T67 l0 x13_2).f0, a1⟩ : S67)); (case aB => exact (by repeat (with_reducible first | exact HB.out | apply below_alloc | apply pw_below_drewN | apply below_drew1 | refine below_set ?_ GE243.out))); (case aF => exact (fun k_ hk => ⟨(Nat.le_trans (below_size (by repeat (with_reducible first | exact HB.out | apply below_alloc | apply pw_below_drewN | apply below_drew1 | refine below_set ?_ GE243.out))) hk), Kd.freshB (g := gb243) (o := .cells #[.int .i64 ((rd_T67 l0 x13_2).f0), .int .i64 a1] 67 (0, 0)) (by (with_reducible repeat (first | refine blk_drewN ?_ _ | refine blk_drew ?_ | refine blk_alloc ?_ _)); refine blk_put (cs := #[.int .i64 ((rd_T67 l0 x13_2).f0), .int .i64 ((rd_T67 l0 x13_2).f1)]) ?_ 1 _ rfl; (with_reducible repeat (first | refine blk_drewN ?_ _ | refine blk_drew ?_ | refine blk_alloc ?_ _)); exact BK243.out) k_ hk⟩)); (case aO => exact (by (with_reducible repeat (first | apply Kd.R_alloc | apply Kd.R_drewN | apply Kd.R_drew)); exact Kd.R_mono (Kd.R_far (p := ⟨gb243, 1, none⟩) (Kd.R_mono HO_12.out (fun k_ hk => (⟨hk, hk.2⟩ : _ ∧ k_ ≠ gb243))) (fun _ hk => hk.2) (.int .i64 a1)) (fun _ hk => ⟨hk.1.1, hk.1.2⟩))); (case aS => exact (below_size (by repeat (with_reducible first | exact HB.out | apply below_alloc | apply pw_below_drewN | apply below_drew1 | refine below_set ?_ GE243.out)))); (case aL => have := LMc19.out; omega); intro v246 w25 ho hb hg hat; rw [← Ny245.out] at ho; have n0_ := Aside0.mk (Kd.V_afterv (ok := (fun k_ => (P0_ k_ ∨ w.heap.size ≤ k_) ∧ some k_ ≠ (.slice Ao23 t239.length co23 : Value).ownBlock ∧ k_ ≠ gb243)) (by (with_reducible repeat (first | apply Kd.V_alloc | apply Kd.V_drewN | apply Kd.V_drew)); exact Kd.V_mono (Kd.V_far (p := ⟨gb243, 1, none⟩) (Kd.V_mono HO_0.out (fun k_ hk => (⟨hk, hk.2.2.2⟩ : _ ∧ k_ ≠ gb243))) (fun _ hk => hk.2) (.int .i64 a1)) (fun _ hk => ⟨⟨hk.1.1, ⟨hk.1.2.1, hk.1.2.2.2⟩⟩, hk.1.2.2.1⟩)) hg hat); have n1_ := Aside0.mk (Kd.R_over' (by (with_reducible repeat (first | apply Kd.R_alloc | apply Kd.R_drewN | apply Kd.R_drew)); exact (Kd.R_mono (Kd.R_far (p := ⟨gb243, 1, none⟩) (Kd.R_types HO_11.out BK243.out (by decide)) (fun _ hk => hk.2) (.int .i64 a1)) (fun _ h_ => h_.1))) (Kd.R_typed (by (with_reducible repeat (first | apply Kd.R_alloc | apply Kd.R_drewN | apply Kd.R_drew)); exact (Kd.R_mono (Kd.R_far (p := ⟨gb243, 1, none⟩) (Kd.R_mono HO_12.out (fun k_ hk => (⟨hk, hk.2⟩ : _ ∧ k_ ≠ gb243))) (fun _ hk => hk.2) (.int .i64 a1)) (fun _ h_ => h_.1)))) (by decide) hg); have n2_ := Aside0.mk (blk_grown (g := gb243) (o := .cells #[.int .i64 ((rd_T67 l0 x13_2).f0), .int .i64 a1] 67 (0, 0)) (by (with_reducible repeat (first | refine blk_drewN ?_ _ | refine blk_drew ?_ | refine blk_alloc ?_ _)); refine blk_put (cs := #[.int .i64 ((rd_T67 l0 x13_2).f0), .int .i64 ((rd_T67 l0 x13_2).f1)]) ?_ 1 _ rfl; (with_reducible repeat (first | refine blk_drewN ?_ _ | refine blk_drew ?_ | refine blk_alloc ?_ _)); exact BK243.out) hg (Kd.R_away HO_12.out (fun _ hk => hk.2))); have n3_ := Aside0.mk (hb); have n4_ := Aside0.mk (ho); clear HO_0; clear HO_11; clear BK243; clear HB; clear HO_12; have HO_0 := n0_; have HO_11 := n1_; have BK243 := n2_; have HB := n3_; have HO247 := n4_; clear n0_ n1_ n2_ n3_ n4_; clear ho hb hg hat))
                   go_roundg k2
                   case measure => have := HJ6.out; have := HK2.out; omega
                   case rel => exact ⟨(y245), (wrap64 (x13_2 + 1)), (by first | rfl | (simp; done) | (simp [*]; done)), H', ⟨by have := HJ6.out; have := HK2.out; omega⟩, ⟨by (with_reducible repeat (first | apply Kd.V_alloc | apply Kd.V_drewN | apply Kd.V_drew)); exact Kd.V_mono HO_0.out (fun _ hk => ⟨hk.1.1, ⟨hk.1.2.1, hk.2⟩⟩)⟩, ⟨by (with_reducible repeat (first | apply Kd.R_alloc | apply Kd.R_drewN | apply Kd.R_drew)); exact HO_11.out⟩, ⟨by (with_reducible repeat (first | apply Kd.R_alloc | apply Kd.R_drewN | apply Kd.R_drew)); exact Kd.R_mono HO247.out (fun _ hk => hk.1)⟩, ⟨by repeat (with_reducible first | exact HB.out | apply below_alloc | apply pw_below_drewN | apply below_drew1 | refine below_set ?_ GE243.out)⟩⟩
                 · rw [if_neg c19] at H
                   exact absurd H (by simp)
               · rw [if_neg c18] at H
                 have c18b0 : (((rd_T67 l0 x13_2).f1) == a1) = false := beq_eq_false_iff_ne.mpr c18
                 have c18b1 : (((rd_T67 l0 x13_2).f1) != a1) = true := bne_iff_ne.mpr c18
                 simp only [Option.some.injEq, Prod.mk.injEq] at H
                 obtain ⟨rfl, rfl⟩ := H
                 have p242 : 0 ≤ (x13_2 : Int) := of_decide_eq_true (by first | (with_reducible assumption) | assumption)
                 have q242 : x13_2 < (l0.length : Int) := of_decide_eq_true (by first | (with_reducible assumption) | assumption)
                 obtain ⟨ad242, e242, hx242_0, hx242_1⟩ := at_T67 (Kd.V_reads' HO_0.out).2.2 x13_2 p242 q242
                 cases e242
                 replace p242 := eq_true p242
                 replace q242 := eq_true q242
                 go_wp2_with (first | ((with_reducible refine gate_dst (N := 14) rfl ?_); refine box_event ?hg (N := 14) ?hd (cs := #[.int .i64 0, .int .i64 0]) (t := 67) ?hr ?_; (case hd => rfl); (case hg => rfl); (case hr => first | (go_simp; done) | (go_simp; rfl)); intro gb243 hg w26 hbox hb; have n0_ := Aside0.mk (Kd.V_below (Kd.V_elderB (by (with_reducible repeat (first | apply Kd.V_alloc | apply Kd.V_drewN | apply Kd.V_drew)); exact HO_0.out) gb243 (Nat.le_of_eq hg.symm)) hb); have n1_ := Aside0.mk (Kd.R_below (by (with_reducible repeat (first | apply Kd.R_alloc | apply Kd.R_drewN | apply Kd.R_drew)); exact HO_11.out) hb); have n2_ := Aside0.mk (Kd.R_below (Kd.R_elderB (by (with_reducible repeat (first | apply Kd.R_alloc | apply Kd.R_drewN | apply Kd.R_drew)); exact HO_12.out) gb243 (Nat.le_of_eq hg.symm)) hb); have n3_ := Aside0.mk (bst_ hb); have n4_ := Aside0.mk (hbox); have n5_ := Aside0.mk ((by rw [hg]; exact bsz_ : w.heap.size ≤ gb243)); have n6_ := n5_; clear HO_0; clear HO_11; clear HO_12; clear HB; have HO_0 := n0_; have HO_11 := n1_; have HO_12 := n2_; have HB := n3_; have BK243 := n4_; have GW243 := n5_; have GE243 := n6_; clear n0_ n1_ n2_ n3_ n4_ n5_ n6_; clear hb hbox hg; have hcz27_0 : w26.cell? ⟨gb243, 0, none⟩ = some (.int .i64 0) := (blk_cell BK243.out 0).trans rfl; have hcz27_1 : w26.cell? ⟨gb243, 1, none⟩ = some (.int .i64 0) := (blk_cell BK243.out 1).trans rfl; have hfz27_0 := blk_frozen BK243.out 0; have hfz27_1 := blk_frozen BK243.out 1; obtain ⟨Ao28, co28, eo28⟩ := Kd.R_slice HO_11.out; subst eo28) | ((with_reducible refine gate_callee (f := 65) rfl ?_); refine goesL_ (some 48) rfl rfl Try.func65 (by kernel_rfl) rfl #[.slice Ao28 t239.length co28, .int .i64 x13_2] rfl (by (try simp only [List.map_toArray, List.map_cons, List.map_nil]); first | done | rfl) ?_; (with_reducible refine (handshakerref03_in.calls k2 _ _ t239 x13_2 true _ ?side1 ?side2 A15.out).mono ?_); (case side1 => refine (Kd.R_reads' (e := 3) (base := w.heap.size) (ok := fun k_ => (w.heap.size ≤ k_)) (n := t239.length) (c := co28) ?_).2.2; exact (by (with_reducible repeat (first | apply Kd.R_alloc | apply Kd.R_drewN | apply Kd.R_drew)); exact (Kd.R_mono (Kd.R_far (p := ⟨gb243, 1, none⟩) (Kd.R_far (p := ⟨gb243, 0, none⟩) (Kd.R_types HO_11.out BK243.out (by decide)) (fun _ hk => hk.2) (.int .i64 ((rd_T67 l0 x13_2).f0))) (fun _ hk => hk.2) (.int .i64 ((rd_T67 l0 x13_2).f1))) (fun _ h_ => h_.1)))); (case side2 => exact (Kd.R_reads' HO_11.out).2.1); rintro e w' ⟨rfl, ⟨nd, rfl⟩⟩; refine ⟨_, rfl, ?_⟩))
                 go_ret2
                 exact ⟨_, by first | rfl | (simp [errW_none, errW_some] <;> rfl) | (simp [*, errW_none, errW_some] <;> rfl), by (with_reducible repeat (first | apply Kd.V_alloc | apply Kd.V_drewN | apply Kd.V_drew)); exact Kd.V_mono (Kd.V_far (p := ⟨gb243, 1, none⟩) (Kd.V_far (p := ⟨gb243, 0, none⟩) (Kd.V_mono HO_0.out (fun k_ hk => (⟨hk, hk.2⟩ : _ ∧ k_ ≠ gb243))) (fun _ hk => hk.2) (.int .i64 ((rd_T67 l0 x13_2).f0))) (fun _ hk => hk.2) (.int .i64 ((rd_T67 l0 x13_2).f1))) (fun _ hk => hk.1.1.1), by repeat (with_reducible first | exact HB.out | apply below_alloc | apply pw_below_drewN | apply below_drew1 | refine below_set ?_ GE243.out)⟩
             · rw [if_neg c17] at H
               have c17b0 : decide (0 < ((rd_T67 l0 x13_2).f1)) = false := decide_eq_false c17
               clear c17
               by_cases c29 : x12_2.length < 8796093022208
               · rw [if_pos c29] at H
                 have LMc29 := Aside0.mk c29
                 clear c29
                 obtain ⟨y248, hy248⟩ : ∃ y_ : List (S67), y_ = (x12_2 ++ [(⟨(rd_T67 l0 x13_2).f0, a1⟩ : S67)]) := ⟨_, rfl⟩
                 replace H : (handshakerref03_Lock.l0 k2 l0 a1 t239 y248 (wrap64 (x13_2 + 1))) = some (r1, r2) := by first | (rw [hy248]; with_reducible exact H) | (have H2_ := (Option.bind_some _ _).symm.trans H; rw [hy248]; with_reducible exact H2_) | (have H2_ := (Option.bind_some _ _).symm.trans H; with_reducible exact H2_) | with_reducible exact H | (rw [hy248]; exact H) | exact H
                 have Ny248 := Aside0.mk hy248
                 clear hy248
                 have H' := Aside0.mk H
                 clear H
                 have p242 : 0 ≤ (x13_2 : Int) := of_decide_eq_true (by first | (with_reducible assumption) | assumption)
                 have q242 : x13_2 < (l0.length : Int) := of_decide_eq_true (by first | (with_reducible assumption) | assumption)
                 obtain ⟨ad242, e242, hx242_0, hx242_1⟩ := at_T67 (Kd.V_reads' HO_0.out).2.2 x13_2 p242 q242
                 cases e242
                 replace p242 := eq_true p242
                 replace q242 := eq_true q242
                 go_wp2_with (first | ((with_reducible refine gate_dst (N := 14) rfl ?_); refine box_event ?hg (N := 14) ?hd (cs := #[.int .i64 0, .int .i64 0]) (t := 67) ?hr ?_; (case hd => rfl); (case hg => rfl); (case hr => first | (go_simp; done) | (go_simp; rfl)); intro gb243 hg w30 hbox hb; have n0_ := Aside0.mk (Kd.V_below (Kd.V_elderB (by (with_reducible repeat (first | apply Kd.V_alloc | apply Kd.V_drewN | apply Kd.V_drew)); exact HO_0.out) gb243 (Nat.le_of_eq hg.symm)) hb); have n1_ := Aside0.mk (Kd.R_below (by (with_reducible repeat (first | apply Kd.R_alloc | apply Kd.R_drewN | apply Kd.R_drew)); exact HO_11.out) hb); have n2_ := Aside0.mk (Kd.R_below (Kd.R_elderB (by (with_reducible repeat (first | apply Kd.R_alloc | apply Kd.R_drewN | apply Kd.R_drew)); exact HO_12.out) gb243 (Nat.le_of_eq hg.symm)) hb); have n3_ := Aside0.mk (bst_ hb); have n4_ := Aside0.mk (hbox); have n5_ := Aside0.mk ((by rw [hg]; exact bsz_ : w.heap.size ≤ gb243)); have n6_ := n5_; clear HO_0; clear HO_11; clear HO_12; clear HB; have HO_0 := n0_; have HO_11 := n1_; have HO_12 := n2_; have HB := n3_; have BK243 := n4_; have GW243 := n5_; have GE243 := n6_; clear n0_ n1_ n2_ n3_ n4_ n5_ n6_; clear hb hbox hg; have hcz31_0 : w30.cell? ⟨gb243, 0, none⟩ = some (.int .i64 0) := (blk_cell BK243.out 0).trans rfl; have hcz31_1 : w30.cell? ⟨gb243, 1, none⟩ = some (.int .i64 0) := (blk_cell BK243.out 1).trans rfl; have hfz31_0 := blk_frozen BK243.out 0; have hfz31_1 := blk_frozen BK243.out 1) | ((with_reducible refine gate_store (t := 67) (p := 14) rfl ?_); refine store_event (t := 67) (p := 14) (v := ?vo_w32) (w1 := ((w30.setCell ⟨gb243, 0, none⟩ (.int .i64 ((rd_T67 l0 x13_2).f0))).setCell ⟨gb243, 1, none⟩ (.int .i64 ((rd_T67 l0 x13_2).f1)))) ?hg ?ho ?hn ?hr ?_; (case ho => rfl); (case hg => rfl); (case hn => rfl); (case hr => first | (go_simp; done) | (go_simp; rfl)); intro w32 hw; have n0_ : Aside0 (Kd.V k67 67 w32 w.heap.size (fun k_ => (P0_ k_ ∨ w.heap.size ≤ k_) ∧ some k_ ≠ (v240 : Value).ownBlock ∧ some k_ ≠ (u12 : Value).ownBlock ∧ k_ ≠ gb243) (.slice (some ad242) l0.length c0) l0) := ⟨(by rw [hw]; exact (by (with_reducible repeat (first | apply Kd.V_alloc | apply Kd.V_drewN | apply Kd.V_drew)); exact Kd.V_mono (Kd.V_far (p := ⟨gb243, 1, none⟩) (Kd.V_far (p := ⟨gb243, 0, none⟩) (Kd.V_mono HO_0.out (fun k_ hk => (⟨hk, hk.2⟩ : _ ∧ k_ ≠ gb243))) (fun _ hk => hk.2) (.int .i64 ((rd_T67 l0 x13_2).f0))) (fun _ hk => hk.2) (.int .i64 ((rd_T67 l0 x13_2).f1))) (fun _ hk => ⟨hk.1.1.1, ⟨hk.1.1.2.1, ⟨hk.1.1.2.2, hk.1.2⟩⟩⟩)))⟩; have n1_ : Aside0 (Kd.R (Kd.int .i64) 3 w32 w.heap.size (fun k_ => (w.heap.size ≤ k_)) v240 t239) := ⟨(by rw [hw]; exact (by (with_reducible repeat (first | apply Kd.R_alloc | apply Kd.R_drewN | apply Kd.R_drew)); exact Kd.R_mono (Kd.R_far (p := ⟨gb243, 1, none⟩) (Kd.R_far (p := ⟨gb243, 0, none⟩) (Kd.R_types HO_11.out BK243.out (by decide)) (fun _ hk => hk.2) (.int .i64 ((rd_T67 l0 x13_2).f0))) (fun _ hk => hk.2) (.int .i64 ((rd_T67 l0 x13_2).f1))) (fun _ hk => hk.1)))⟩; have n2_ : Aside0 (Kd.R k67 67 w32 w.heap.size (fun k_ => (w.heap.size ≤ k_) ∧ k_ ≠ gb243) u12 x12_2) := ⟨(by rw [hw]; exact (by (with_reducible repeat (first | apply Kd.R_alloc | apply Kd.R_drewN | apply Kd.R_drew)); exact Kd.R_mono (Kd.R_far (p := ⟨gb243, 1, none⟩) (Kd.R_far (p := ⟨gb243, 0, none⟩) (Kd.R_mono HO_12.out (fun k_ hk => (⟨hk, hk.2⟩ : _ ∧ k_ ≠ gb243))) (fun _ hk => hk.2) (.int .i64 ((rd_T67 l0 x13_2).f0))) (fun _ hk => hk.2) (.int .i64 ((rd_T67 l0 x13_2).f1))) (fun _ hk => ⟨hk.1.1, hk.1.2⟩)))⟩; have n3_ : Aside0 (w32.heap[gb243]? = some (.cells #[.int .i64 ((rd_T67 l0 x13_2).f0), .int .i64 ((rd_T67 l0 x13_2).f1)] 67 (0, 0))) := ⟨(by rw [hw]; exact (by (with_reducible repeat (first | refine blk_drewN ?_ _ | refine blk_drew ?_ | refine blk_alloc ?_ _)); refine blk_put (cs := #[.int .i64 ((rd_T67 l0 x13_2).f0), .int .i64 0]) ?_ 1 _ rfl; (with_reducible repeat (first | refine blk_drewN ?_ _ | refine blk_drew ?_ | refine blk_alloc ?_ _)); refine blk_put (cs := #[.int .i64 0, .int .i64 0]) ?_ 0 _ rfl; (with_reducible repeat (first | refine blk_drewN ?_ _ | refine blk_drew ?_ | refine blk_alloc ?_ _)); exact BK243.out))⟩; have n4_ : Aside0 (Below w.heap.size w w32) := ⟨(by rw [hw]; exact (by repeat (with_reducible first | exact HB.out | apply below_alloc | apply pw_below_drewN | apply below_drew1 | refine below_set ?_ GE243.out)))⟩; clear hw; clear HO_0; clear HO_11; clear HO_12; clear BK243; clear HB; have HO_0 := n0_; have HO_11 := n1_; have HO_12 := n2_; have BK243 := n3_; have HB := n4_; clear n0_ n1_ n2_ n3_ n4_; obtain ⟨Ao33, co33, eo33⟩ := Kd.R_slice HO_11.out; subst eo33) | ((with_reducible refine gate_callee (f := 65) rfl ?_); refine goesL_ (some 48) rfl rfl Try.func65 (by kernel_rfl) rfl #[.slice Ao33 t239.length co33, .int .i64 x13_2] rfl (by (try simp only [List.map_toArray, List.map_cons, List.map_nil]); first | done | rfl) ?_; (with_reducible refine (handshakerref03_in.calls k2 _ _ t239 x13_2 true _ ?side1 ?side2 A15.out).mono ?_); (case side1 => repeat (first | exact (Kd.R_reads' HO_11.out).2.2 | with_reducible first | refine Kd.C_alloc ?_ _ | refine Kd.C_drewN ?_ _ | refine Kd.C_drew ?_)); (case side2 => exact (Kd.R_reads' HO_11.out).2.1); rintro e w' ⟨rfl, ⟨nd, rfl⟩⟩; refine ⟨_, rfl, ?_⟩; (try (rw [drewN_self w32]; generalize hq_ : World.drewN w32 _ = w32; have n0_ : Aside0 (Kd.V k67 67 w32 w.heap.size (fun k_ => (P0_ k_ ∨ w.heap.size ≤ k_) ∧ some k_ ≠ (.slice Ao33 t239.length co33 : Value).ownBlock ∧ some k_ ≠ (u12 : Value).ownBlock ∧ k_ ≠ gb243) (.slice (some ad242) l0.length c0) l0) := ⟨by rw [← hq_]; exact (by (with_reducible repeat (first | apply Kd.V_alloc | apply Kd.V_drewN | apply Kd.V_drew)); exact HO_0.out)⟩; have n1_ : Aside0 (Kd.R (Kd.int .i64) 3 w32 w.heap.size (fun k_ => (w.heap.size ≤ k_)) (.slice Ao33 t239.length co33) t239) := ⟨by rw [← hq_]; exact (by (with_reducible repeat (first | apply Kd.R_alloc | apply Kd.R_drewN | apply Kd.R_drew)); exact HO_11.out)⟩; have n2_ : Aside0 (Kd.R k67 67 w32 w.heap.size (fun k_ => (w.heap.size ≤ k_) ∧ k_ ≠ gb243) u12 x12_2) := ⟨by rw [← hq_]; exact (by (with_reducible repeat (first | apply Kd.R_alloc | apply Kd.R_drewN | apply Kd.R_drew)); exact HO_12.out)⟩; have n3_ : Aside0 (w32.heap[gb243]? = some (.cells #[.int .i64 ((rd_T67 l0 x13_2).f0), .int .i64 ((rd_T67 l0 x13_2).f1)] 67 (0, 0))) := ⟨by rw [← hq_]; exact (by (with_reducible repeat (first | refine blk_drewN ?_ _ | refine blk_drew ?_ | refine blk_alloc ?_ _)); exact BK243.out)⟩; have n4_ : Aside0 (Below w.heap.size w w32) := ⟨by rw [← hq_]; exact (by repeat (with_reducible first | exact HB.out | apply below_alloc | apply pw_below_drewN | apply below_drew1 | refine below_set ?_ GE243.out))⟩; clear HO_0 HO_11 HO_12 BK243 HB hq_; have HO_0 := n0_; have HO_11 := n1_; have HO_12 := n2_; have BK243 := n3_; have HB := n4_; clear n0_ n1_ n2_ n3_ n4_)); (try have hcu243_0 : w32.cell? ⟨gb243, 0, none⟩ = some (.int .i64 ((rd_T67 l0 x13_2).f0)) := (blk_cell BK243.out 0).trans rfl); (try have hcu243_1 : w32.cell? ⟨gb243, 1, none⟩ = some (.int .i64 ((rd_T67 l0 x13_2).f1)) := (blk_cell BK243.out 1).trans rfl); have hcz34_0 : w32.cell? ⟨gb243, 0, none⟩ = some (.int .i64 ((rd_T67 l0 x13_2).f0)) := (blk_cell BK243.out 0).trans rfl; have hcz34_1 : w32.cell? ⟨gb243, 1, none⟩ = some (.int .i64 ((rd_T67 l0 x13_2).f1)) := (blk_cell BK243.out 1).trans rfl; have hfz34_0 := blk_frozen BK243.out 0; have hfz34_1 := blk_frozen BK243.out 1) | ((with_reducible refine gate_builtin (b := .append) (xs := #[.tmp 62, .tmp 64]) rfl ?_); at_builtin; refine Kd.R_append k67 (w0 := w) w.heap.size rfl (.tmp 62) (.tmp 64) 40 67 (.agg #[(.int .i64 0), (.int .i64 0)]) 16 rfl Try.underlying40 info67 rfl (by decide) (by omega) u12 x12_2 (⟨(rd_T67 l0 x13_2).f0, a1⟩ : S67) [.int .i64 ((rd_T67 l0 x13_2).f0), .int .i64 a1] (fun k_ => (w.heap.size ≤ k_) ∧ k_ ≠ gb243) (fun _ => False) rfl (by first | (go_simp; done) | (go_simp; rfl)) ?aP (fun _ hk => hk.elim) ?aF ?aO ?aB ?aS ?aL ?_; (case aP => exact k67_mkM _ _ _ (⟨(rd_T67 l0 x13_2).f0, a1⟩ : S67)); (case aB => exact (by repeat (with_reducible first | exact HB.out | apply below_alloc | apply pw_below_drewN | apply below_drew1 | refine below_set ?_ GE243.out))); (case aF => exact (fun k_ hk => ⟨(Nat.le_trans (below_size (by repeat (with_reducible first | exact HB.out | apply below_alloc | apply pw_below_drewN | apply below_drew1 | refine below_set ?_ GE243.out))) hk), Kd.freshB (g := gb243) (o := .cells #[.int .i64 ((rd_T67 l0 x13_2).f0), .int .i64 a1] 67 (0, 0)) (by (with_reducible repeat (first | refine blk_drewN ?_ _ | refine blk_drew ?_ | refine blk_alloc ?_ _)); refine blk_put (cs := #[.int .i64 ((rd_T67 l0 x13_2).f0), .int .i64 ((rd_T67 l0 x13_2).f1)]) ?_ 1 _ rfl; (with_reducible repeat (first | refine blk_drewN ?_ _ | refine blk_drew ?_ | refine blk_alloc ?_ _)); exact BK243.out) k_ hk⟩)); (case aO => exact (by (with_reducible repeat (first | apply Kd.R_alloc | apply Kd.R_drewN | apply Kd.R_drew)); exact Kd.R_mono (Kd.R_far (p := ⟨gb243, 1, none⟩) (Kd.R_mono HO_12.out (fun k_ hk => (⟨hk, hk.2⟩ : _ ∧ k_ ≠ gb243))) (fun _ hk => hk.2) (.int .i64 a1)) (fun _ hk => ⟨hk.1.1, hk.1.2⟩))); (case aS => exact (below_size (by repeat (with_reducible first | exact HB.out | apply below_alloc | apply pw_below_drewN | apply below_drew1 | refine below_set ?_ GE243.out)))); (case aL => have := LMc29.out; omega); intro v249 w35 ho hb hg hat; rw [← Ny248.out] at ho; have n0_ := Aside0.mk (Kd.V_afterv (ok := (fun k_ => (P0_ k_ ∨ w.heap.size ≤ k_) ∧ some k_ ≠ (.slice Ao33 t239.length co33 : Value).ownBlock ∧ k_ ≠ gb243)) (by (with_reducible repeat (first | apply Kd.V_alloc | apply Kd.V_drewN | apply Kd.V_drew)); exact Kd.V_mono (Kd.V_far (p := ⟨gb243, 1, none⟩) (Kd.V_mono HO_0.out (fun k_ hk => (⟨hk, hk.2.2.2⟩ : _ ∧ k_ ≠ gb243))) (fun _ hk => hk.2) (.int .i64 a1)) (fun _ hk => ⟨⟨hk.1.1, ⟨hk.1.2.1, hk.1.2.2.2⟩⟩, hk.1.2.2.1⟩)) hg hat); have n1_ := Aside0.mk (Kd.R_over' (by (with_reducible repeat (first | apply Kd.R_alloc | apply Kd.R_drewN | apply Kd.R_drew)); exact (Kd.R_mono (Kd.R_far (p := ⟨gb243, 1, none⟩) (Kd.R_types HO_11.out BK243.out (by decide)) (fun _ hk => hk.2) (.int .i64 a1)) (fun _ h_ => h_.1))) (Kd.R_typed (by (with_reducible repeat (first | apply Kd.R_alloc | apply Kd.R_drewN | apply Kd.R_drew)); exact (Kd.R_mono (Kd.R_far (p := ⟨gb243, 1, none⟩) (Kd.R_mono HO_12.out (fun k_ hk => (⟨hk, hk.2⟩ : _ ∧ k_ ≠ gb243))) (fun _ hk => hk.2) (.int .i64 a1)) (fun _ h_ => h_.1)))) (by decide) hg); have n2_ := Aside0.mk (blk_grown (g := gb243) (o := .cells #[.int .i64 ((rd_T67 l0 x13_2).f0), .int .i64 a1] 67 (0, 0)) (by (with_reducible repeat (first | refine blk_drewN ?_ _ | refine blk_drew ?_ | refine blk_alloc ?_ _)); refine blk_put (cs := #[.int .i64 ((rd_T67 l0 x13_2).f0), .int .i64 ((rd_T67 l0 x13_2).f1)]) ?_ 1 _ rfl; (with_reducible repeat (first | refine blk_drewN ?_ _ | refine blk_drew ?_ | refine blk_alloc ?_ _)); exact BK243.out) hg (Kd.R_away HO_12.out (fun _ hk => hk.2))); have n3_ := Aside0.mk (hb); have n4_ := Aside0.mk (ho); clear HO_0; clear HO_11; clear BK243; clear HB; clear HO_12; have HO_0 := n0_; have HO_11 := n1_; have BK243 := n2_; have HB := n3_; have HO250 := n4_; clear n0_ n1_ n2_ n3_ n4_; clear ho hb hg hat))
                 go_roundg k2
                 case measure => have := HJ6.out; have := HK2.out; omega
                 case rel => exact ⟨(y248), (wrap64 (x13_2 + 1)), (by first | rfl | (simp; done) | (simp [*]; done)), H', ⟨by have := HJ6.out; have := HK2.out; omega⟩, ⟨by (with_reducible repeat (first | apply Kd.V_alloc | apply Kd.V_drewN | apply Kd.V_drew)); exact Kd.V_mono HO_0.out (fun _ hk => ⟨hk.1.1, ⟨hk.1.2.1, hk.2⟩⟩)⟩, ⟨by (with_reducible repeat (first | apply Kd.R_alloc | apply Kd.R_drewN | apply Kd.R_drew)); exact HO_11.out⟩, ⟨by (with_reducible repeat (first | apply Kd.R_alloc | apply Kd.R_drewN | apply Kd.R_drew)); exact Kd.R_mono HO250.out (fun _ hk => hk.1)⟩, ⟨by repeat (with_reducible first | exact HB.out | apply below_alloc | apply pw_below_drewN | apply below_drew1 | refine below_set ?_ GE243.out)⟩⟩
               · rw [if_neg c29] at H
                 exact absurd H (by simp)
           · replace c16 := Bool.eq_false_iff.mpr c16
             subst c16
             have H1 : (if x12_2.length < 8796093022208 then (handshakerref03_Lock.l0 k2 l0 a1 t239 (x12_2 ++ [(⟨(rd_T67 l0 x13_2).f0, (rd_T67 l0 x13_2).f1⟩ : S67)]) (wrap64 (x13_2 + 1))) else (none)) = some (r1, r2) := by rw [if_neg (show ¬ (false = true) by decide)] at H; exact H
             clear H
             have H := H1
             clear H1
             by_cases c36 : x12_2.length < 8796093022208
             · rw [if_pos c36] at H
               have LMc36 := Aside0.mk c36
               clear c36
               obtain ⟨y251, hy251⟩ : ∃ y_ : List (S67), y_ = (x12_2 ++ [(⟨(rd_T67 l0 x13_2).f0, (rd_T67 l0 x13_2).f1⟩ : S67)]) := ⟨_, rfl⟩
               replace H : (handshakerref03_Lock.l0 k2 l0 a1 t239 y251 (wrap64 (x13_2 + 1))) = some (r1, r2) := by first | (rw [hy251]; with_reducible exact H) | (have H2_ := (Option.bind_some _ _).symm.trans H; rw [hy251]; with_reducible exact H2_) | (have H2_ := (Option.bind_some _ _).symm.trans H; with_reducible exact H2_) | with_reducible exact H | (rw [hy251]; exact H) | exact H
               have Ny251 := Aside0.mk hy251
               clear hy251
               have H' := Aside0.mk H
               clear H
               have p242 : 0 ≤ (x13_2 : Int) := of_decide_eq_true (by first | (with_reducible assumption) | assumption)
               have q242 : x13_2 < (l0.length : Int) := of_decide_eq_true (by first | (with_reducible assumption) | assumption)
               obtain ⟨ad242, e242, hx242_0, hx242_1⟩ := at_T67 (Kd.V_reads' HO_0.out).2.2 x13_2 p242 q242
               cases e242
               replace p242 := eq_true p242
               replace q242 := eq_true q242
               go_wp2_with (first | ((with_reducible refine gate_dst (N := 14) rfl ?_); refine box_event ?hg (N := 14) ?hd (cs := #[.int .i64 0, .int .i64 0]) (t := 67) ?hr ?_; (case hd => rfl); (case hg => rfl); (case hr => first | (go_simp; done) | (go_simp; rfl)); intro gb243 hg w37 hbox hb; have n0_ := Aside0.mk (Kd.V_below (Kd.V_elderB (by (with_reducible repeat (first | apply Kd.V_alloc | apply Kd.V_drewN | apply Kd.V_drew)); exact HO_0.out) gb243 (Nat.le_of_eq hg.symm)) hb); have n1_ := Aside0.mk (Kd.R_below (by (with_reducible repeat (first | apply Kd.R_alloc | apply Kd.R_drewN | apply Kd.R_drew)); exact HO_11.out) hb); have n2_ := Aside0.mk (Kd.R_below (Kd.R_elderB (by (with_reducible repeat (first | apply Kd.R_alloc | apply Kd.R_drewN | apply Kd.R_drew)); exact HO_12.out) gb243 (Nat.le_of_eq hg.symm)) hb); have n3_ := Aside0.mk (bst_ hb); have n4_ := Aside0.mk (hbox); have n5_ := Aside0.mk ((by rw [hg]; exact bsz_ : w.heap.size ≤ gb243)); have n6_ := n5_; clear HO_0; clear HO_11; clear HO_12; clear HB; have HO_0 := n0_; have HO_11 := n1_; have HO_12 := n2_; have HB := n3_; have BK243 := n4_; have GW243 := n5_; have GE243 := n6_; clear n0_ n1_ n2_ n3_ n4_ n5_ n6_; clear hb hbox hg; have hcz38_0 : w37.cell? ⟨gb243, 0, none⟩ = some (.int .i64 0) := (blk_cell BK243.out 0).trans rfl; have hcz38_1 : w37.cell? ⟨gb243, 1, none⟩ = some (.int .i64 0) := (blk_cell BK243.out 1).trans rfl; have hfz38_0 := blk_frozen BK243.out 0; have hfz38_1 := blk_frozen BK243.out 1; obtain ⟨Ao39, co39, eo39⟩ := Kd.R_slice HO_11.out; subst eo39) | ((with_reducible refine gate_callee (f := 65) rfl ?_); refine goesL_ (some 48) rfl rfl Try.func65 (by kernel_rfl) rfl #[.slice Ao39 t239.length co39, .int .i64 x13_2] rfl (by (try simp only [List.map_toArray, List.map_cons, List.map_nil]); first | done | rfl) ?_; (with_reducible refine (handshakerref03_in.calls k2 _ _ t239 x13_2 false _ ?side1 ?side2 A15.out).mono ?_); (case side1 => refine (Kd.R_reads' (e := 3) (base := w.heap.size) (ok := fun k_ => (w.heap.size ≤ k_)) (n := t239.length) (c := co39) ?_).2.2; exact (by (with_reducible repeat (first | apply Kd.R_alloc | apply Kd.R_drewN | apply Kd.R_drew)); exact (Kd.R_mono (Kd.R_far (p := ⟨gb243, 1, none⟩) (Kd.R_far (p := ⟨gb243, 0, none⟩) (Kd.R_types HO_11.out BK243.out (by decide)) (fun _ hk => hk.2) (.int .i64 ((rd_T67 l0 x13_2).f0))) (fun _ hk => hk.2) (.int .i64 ((rd_T67 l0 x13_2).f1))) (fun _ h_ => h_.1)))); (case side2 => exact (Kd.R_reads' HO_11.out).2.1); rintro e w' ⟨rfl, ⟨nd, rfl⟩⟩; refine ⟨_, rfl, ?_⟩) | ((with_reducible refine gate_builtin (b := .append) (xs := #[.tmp 62, .tmp 64]) rfl ?_); at_builtin; refine Kd.R_append k67 (w0 := w) w.heap.size rfl (.tmp 62) (.tmp 64) 40 67 (.agg #[(.int .i64 0), (.int .i64 0)]) 16 rfl Try.underlying40 info67 rfl (by decide) (by omega) u12 x12_2 (⟨(rd_T67 l0 x13_2).f0, (rd_T67 l0 x13_2).f1⟩ : S67) [.int .i64 ((rd_T67 l0 x13_2).f0), .int .i64 ((rd_T67 l0 x13_2).f1)] (fun k_ => (w.heap.size ≤ k_) ∧ k_ ≠ gb243) (fun _ => False) rfl (by first | (go_simp; done) | (go_simp; rfl)) ?aP (fun _ hk => hk.elim) ?aF ?aO ?aB ?aS ?aL ?_; (case aP => exact k67_mkM _ _ _ (⟨(rd_T67 l0 x13_2).f0, (rd_T67 l0 x13_2).f1⟩ : S67)); (case aB => exact (by repeat (with_reducible first | exact HB.out | apply below_alloc | apply pw_below_drewN | apply below_drew1 | refine below_set ?_ GE243.out))); (case aF => exact (fun k_ hk => ⟨(Nat.le_trans (below_size (by repeat (with_reducible first | exact HB.out | apply below_alloc | apply pw_below_drewN | apply below_drew1 | refine below_set ?_ GE243.out))) hk), Kd.freshB (g := gb243) (o := .cells #[.int .i64 ((rd_T67 l0 x13_2).f0), .int .i64 ((rd_T67 l0 x13_2).f1)] 67 (0, 0)) (by (with_reducible repeat (first | refine blk_drewN ?_ _ | refine blk_drew ?_ | refine blk_alloc ?_ _)); refine blk_put (cs := #[.int .i64 ((rd_T67 l0 x13_2).f0), .int .i64 0]) ?_ 1 _ rfl; (with_reducible repeat (first | refine blk_drewN ?_ _ | refine blk_drew ?_ | refine blk_alloc ?_ _)); refine blk_put (cs := #[.int .i64 0, .int .i64 0]) ?_ 0 _ rfl; (with_reducible repeat (first | refine blk_drewN ?_ _ | refine blk_drew ?_ | refine blk_alloc ?_ _)); exact BK243.out) k_ hk⟩)); (case aO => exact (by (with_reducible repeat (first | apply Kd.R_alloc | apply Kd.R_drewN | apply Kd.R_drew)); exact Kd.R_mono (Kd.R_far (p := ⟨gb243, 1, none⟩) (Kd.R_far (p := ⟨gb243, 0, none⟩) (Kd.R_mono HO_12.out (fun k_ hk => (⟨hk, hk.2⟩ : _ ∧ k_ ≠ gb243))) (fun _ hk => hk.2) (.int .i64 ((rd_T67 l0 x13_2).f0))) (fun _ hk => hk.2) (.int .i64 ((rd_T67 l0 x13_2).f1))) (fun _ hk => ⟨hk.1.1, hk.1.2⟩))); (case aS => exact (below_size (by repeat (with_reducible first | exact HB.out | apply below_alloc | apply pw_below_drewN | apply below_drew1 | refine below_set ?_ GE243.out)))); (case aL => have := LMc36.out; omega); intro v252 w40 ho hb hg hat; rw [← Ny251.out] at ho; have n0_ := Aside0.mk (Kd.V_afterv (ok := (fun k_ => (P0_ k_ ∨ w.heap.size ≤ k_) ∧ some k_ ≠ (.slice Ao39 t239.length co39 : Value).ownBlock ∧ k_ ≠ gb243)) (by (with_reducible repeat (first | apply Kd.V_alloc | apply Kd.V_drewN | apply Kd.V_drew)); exact Kd.V_mono (Kd.V_far (p := ⟨gb243, 1, none⟩) (Kd.V_far (p := ⟨gb243, 0, none⟩) (Kd.V_mono HO_0.out (fun k_ hk => (⟨hk, hk.2⟩ : _ ∧ k_ ≠ gb243))) (fun _ hk => hk.2) (.int .i64 ((rd_T67 l0 x13_2).f0))) (fun _ hk => hk.2) (.int .i64 ((rd_T67 l0 x13_2).f1))) (fun _ hk => ⟨⟨hk.1.1.1, ⟨hk.1.1.2.1, hk.1.2⟩⟩, hk.1.1.2.2⟩)) hg hat); have n1_ := Aside0.mk (Kd.R_over' (by (with_reducible repeat (first | apply Kd.R_alloc | apply Kd.R_drewN | apply Kd.R_drew)); exact (Kd.R_mono (Kd.R_far (p := ⟨gb243, 1, none⟩) (Kd.R_far (p := ⟨gb243, 0, none⟩) (Kd.R_types HO_11.out BK243.out (by decide)) (fun _ hk => hk.2) (.int .i64 ((rd_T67 l0 x13_2).f0))) (fun _ hk => hk.2) (.int .i64 ((rd_T67 l0 x13_2).f1))) (fun _ h_ => h_.1))) (Kd.R_typed (by (with_reducible repeat (first | apply Kd.R_alloc | apply Kd.R_drewN | apply Kd.R_drew)); exact (Kd.R_mono (Kd.R_far (p := ⟨gb243, 1, none⟩) (Kd.R_far (p := ⟨gb243, 0, none⟩) (Kd.R_mono HO_12.out (fun k_ hk => (⟨hk, hk.2⟩ : _ ∧ k_ ≠ gb243))) (fun _ hk => hk.2) (.int .i64 ((rd_T67 l0 x13_2).f0))) (fun _ hk => hk.2) (.int .i64 ((rd_T67 l0 x13_2).f1))) (fun _ h_ => h_.1)))) (by decide) hg); have n2_ := Aside0.mk (blk_grown (g := gb243) (o := .cells #[.int .i64 ((rd_T67 l0 x13_2).f0), .int .i64 ((rd_T67 l0 x13_2).f1)] 67 (0, 0)) (by (with_reducible repeat (first | refine blk_drewN ?_ _ | refine blk_drew ?_ | refine blk_alloc ?_ _)); refine blk_put (cs := #[.int .i64 ((rd_T67 l0 x13_2).f0), .int .i64 0]) ?_ 1 _ rfl; (with_reducible repeat (first | refine blk_drewN ?_ _ | refine blk_drew ?_ | refine blk_alloc ?_ _)); refine blk_put (cs := #[.int .i64 0, .int .i64 0]) ?_ 0 _ rfl; (with_reducible repeat (first | refine blk_drewN ?_ _ | refine blk_drew ?_ | refine blk_alloc ?_ _)); exact BK243.out) hg (Kd.R_away HO_12.out (fun _ hk => hk.2))); have n3_ := Aside0.mk (hb); have n4_ := Aside0.mk (ho); clear HO_0; clear HO_11; clear BK243; clear HB; clear HO_12; have HO_0 := n0_; have HO_11 := n1_; have BK243 := n2_; have HB := n3_; have HO253 := n4_; clear n0_ n1_ n2_ n3_ n4_; clear ho hb hg hat))
               go_roundg k2
               case measure => have := HJ6.out; have := HK2.out; omega
               case rel => exact ⟨(y251), (wrap64 (x13_2 + 1)), (by first | rfl | (simp; done) | (simp [*]; done)), H', ⟨by have := HJ6.out; have := HK2.out; omega⟩, ⟨by (with_reducible repeat (first | apply Kd.V_alloc | apply Kd.V_drewN | apply Kd.V_drew)); exact Kd.V_mono HO_0.out (fun _ hk => ⟨hk.1.1, ⟨hk.1.2.1, hk.2⟩⟩)⟩, ⟨by (with_reducible repeat (first | apply Kd.R_alloc | apply Kd.R_drewN | apply Kd.R_drew)); exact HO_11.out⟩, ⟨by (with_reducible repeat (first | apply Kd.R_alloc | apply Kd.R_drewN | apply Kd.R_drew)); exact Kd.R_mono HO253.out (fun _ hk => hk.1)⟩, ⟨by repeat (with_reducible first | exact HB.out | apply below_alloc | apply pw_below_drewN | apply below_drew1 | refine below_set ?_ GE243.out)⟩⟩
             · rw [if_neg c36] at H
               exact absurd H (by simp)
         · rw [if_neg c14] at H
           exact absurd H (by simp)
       · rw [if_neg c13] at H
         have c13b0 : decide (x13_2 < (l0.length : Int)) = false := decide_eq_false c13
         clear c13
         simp only [Option.some.injEq, Prod.mk.injEq] at H
         obtain ⟨rfl, rfl⟩ := H
         go_wp2
         go_ret2
         exact ⟨_, by first | rfl | (simp [errW_none, errW_some] <;> rfl) | (simp [*, errW_none, errW_some] <;> rfl), Kd.V_mono (Kd.R_V (by (with_reducible repeat (first | apply Kd.R_alloc | apply Kd.R_drewN | apply Kd.R_drew)); exact HO_12.out)) (fun k_ hk => by first | exact ⟨(.inr (hk.1)), hk.2⟩ | exact (.inr (hk))), by repeat (with_reducible first | exact HB.out | apply below_alloc | apply pw_below_drewN | apply below_drew1)⟩

/-! ### handshakerref03_Stamp: function 35 -/
mutual
def handshakerref03_Stamp.j0 : Nat → List (S67) → Int → Int → Bool → Option ((List (S67)) × Int)
 | 0, _, _, _, _ => none
 | k + 1, x0, x1, x2, x21 => if x21 = true then (some (x0, 1)) else (if x2 < 0 then (handshakerref03_Stamp.j1 k x0 x1 x2 true) else (handshakerref03_Stamp.j1 k x0 x1 x2 (decide (x2 > 2147483647))))
def handshakerref03_Stamp.j1 : Nat → List (S67) → Int → Int → Bool → Option ((List (S67)) × Int)
 | 0, _, _, _, _ => none
 | k + 1, x0, x1, x2, x28 => if x28 = true then (some (x0, 6)) else (handshakerref03_Stamp.l0 k x0 x1 x2 ([] : List (S67)) 0)
def handshakerref03_Stamp.l0 : Nat → List (S67) → Int → Int → List (S67) → Int → Option ((List (S67)) × Int)
 | 0, _, _, _, _, _ => none
 | k + 1, x0, x1, x2, x10, x11 => if x11 < (x0.length : Int) then (if 0 ≤ x11 then (if ((rd_T67 x0 x11).f1) = x1 then (if ((rd_T67 x0 x11).f0) ≥ x2 then (some (x0, 6)) else (if x10.length < 8796093022208 then (handshakerref03_Stamp.l0 k x0 x1 x2 (x10 ++ [(⟨x2, 0⟩ : S67)]) (wrap64 (x11 + 1))) else (none))) else (if x10.length < 8796093022208 then (handshakerref03_Stamp.l0 k x0 x1 x2 (x10 ++ [(⟨(rd_T67 x0 x11).f0, (rd_T67 x0 x11).f1⟩ : S67)]) (wrap64 (x11 + 1))) else (none))) else (none)) else (some (x10, 0))
end
def handshakerref03_Stamp.f (k : Nat) (l0 : List (S67)) (a1 : Int) (a2 : Int) : Option ((List (S67)) × Int) := (handshakerref03_Right.f k l0).bind fun t254 => ((handshakerref03_Who.f a1).bind fun t255 => (if t254 = true then (handshakerref03_Stamp.j0 k l0 a1 a2 (!t255)) else (handshakerref03_Stamp.j0 k l0 a1 a2 true)))
theorem handshakerref03_Stamp.mono_l : ∀ k, (∀ y0 y1 y2 y3, LeO (handshakerref03_Stamp.j0 k y0 y1 y2 y3) (handshakerref03_Stamp.j0 (k + 1) y0 y1 y2 y3)) ∧ (∀ y0 y1 y2 y3, LeO (handshakerref03_Stamp.j1 k y0 y1 y2 y3) (handshakerref03_Stamp.j1 (k + 1) y0 y1 y2 y3)) ∧ (∀ y0 y1 y2 y3 y4, LeO (handshakerref03_Stamp.l0 k y0 y1 y2 y3 y4) (handshakerref03_Stamp.l0 (k + 1) y0 y1 y2 y3 y4))
 | 0 => ⟨fun _ _ _ _ r h => by simp [handshakerref03_Stamp.j0] at h, fun _ _ _ _ r h => by simp [handshakerref03_Stamp.j1] at h, fun _ _ _ _ _ r h => by simp [handshakerref03_Stamp.l0] at h⟩
 | k + 1 => by
  obtain ⟨ih0, ih1, ih2⟩ := handshakerref03_Stamp.mono_l k
  refine ⟨?_, ?_, ?_⟩
  · intro y0 y1 y2 y3
    unfold handshakerref03_Stamp.j0
    repeat' first
    | (with_reducible exact ih0 _ _ _ _)
    | (with_reducible exact ih1 _ _ _ _)
    | (with_reducible exact ih2 _ _ _ _ _)
    | (with_reducible exact handshakerref03_Right.mono _ _)
    | (with_reducible exact LeO.refl _)
    | (with_reducible exact LeO.none _)
    | (with_reducible refine LeO.ite ?_ ?_)
    | (with_reducible refine LeO.bind ?_ (fun _ => ?_))
    | exact ih0 _ _ _ _
    | exact ih1 _ _ _ _
    | exact ih2 _ _ _ _ _
    | exact handshakerref03_Right.mono _ _
    | exact LeO.none _
    | refine LeO.ite ?_ ?_
    | refine LeO.bind ?_ (fun _ => ?_)
  · intro y0 y1 y2 y3
    unfold handshakerref03_Stamp.j1
    repeat' first
    | (with_reducible exact ih0 _ _ _ _)
    | (with_reducible exact ih1 _ _ _ _)
    | (with_reducible exact ih2 _ _ _ _ _)
    | (with_reducible exact handshakerref03_Right.mono _ _)
    | (with_reducible exact LeO.refl _)
    | (with_reducible exact LeO.none _)
    | (with_reducible refine LeO.ite ?_ ?_)
    | (with_reducible refine LeO.bind ?_ (fun _ => ?_))
    | exact ih0 _ _ _ _
    | exact ih1 _ _ _ _
    | exact ih2 _ _ _ _ _
    | exact handshakerref03_Right.mono _ _
    | exact LeO.none _
    | refine LeO.ite ?_ ?_
    | refine LeO.bind ?_ (fun _ => ?_)
  · intro y0 y1 y2 y3 y4
    unfold handshakerref03_Stamp.l0
    repeat' first
    | (with_reducible exact ih0 _ _ _ _)
    | (with_reducible exact ih1 _ _ _ _)
    | (with_reducible exact ih2 _ _ _ _ _)
    | (with_reducible exact handshakerref03_Right.mono _ _)
    | (with_reducible exact LeO.refl _)
    | (with_reducible exact LeO.none _)
    | (with_reducible refine LeO.ite ?_ ?_)
    | (with_reducible refine LeO.bind ?_ (fun _ => ?_))
    | exact ih0 _ _ _ _
    | exact ih1 _ _ _ _
    | exact ih2 _ _ _ _ _
    | exact handshakerref03_Right.mono _ _
    | exact LeO.none _
    | refine LeO.ite ?_ ?_
    | refine LeO.bind ?_ (fun _ => ?_)
theorem handshakerref03_Stamp.mono : ∀ a0 a1 a2 k, LeO (handshakerref03_Stamp.f k a0 a1 a2) (handshakerref03_Stamp.f (k + 1) a0 a1 a2) := by
 intro a0 a1 a2 k
 obtain ⟨ih0, ih1, ih2⟩ := handshakerref03_Stamp.mono_l k
 unfold handshakerref03_Stamp.f
 repeat' first
  | (with_reducible exact ih0 _ _ _ _)
  | (with_reducible exact ih1 _ _ _ _)
  | (with_reducible exact ih2 _ _ _ _ _)
  | (with_reducible exact handshakerref03_Right.mono _ _)
  | (with_reducible exact LeO.refl _)
  | (with_reducible exact LeO.none _)
  | (with_reducible refine LeO.ite ?_ ?_)
  | (with_reducible refine LeO.bind ?_ (fun _ => ?_))
  | exact ih0 _ _ _ _
  | exact ih1 _ _ _ _
  | exact ih2 _ _ _ _ _
  | exact handshakerref03_Right.mono _ _
  | exact LeO.none _
  | refine LeO.ite ?_ ?_
  | refine LeO.bind ?_ (fun _ => ?_)
set_option maxHeartbeats 8000000 in
set_option maxRecDepth 100000 in
theorem handshakerref03_Stamp.calls (k : Nat) (P0_ : Nat → Prop) (A0 : Option Addr) (c0 : Nat) (l0 : List (S67)) (a1 : Int) (a2 : Int) (r1 : List (S67)) (r2 : Int) (w : World) (hs0 : Kd.V k67 67 w w.heap.size (fun k_ => P0_ k_) (.slice A0 l0.length c0) l0) (h : handshakerref03_Stamp.f k l0 a1 a2 = some (r1, r2)) :
 Calls Try.prog 35 #[.slice A0 l0.length c0, .int .i64 a1, .int .i64 a2] w fun e w' => ∃ v0_ : Value, e = .returned (.tuple #[v0_, .int .i64 r2]) ∧ Kd.V k67 67 w' w.heap.size (fun k_ => (P0_ k_ ∨ w.heap.size ≤ k_)) v0_ r1 ∧ Below w.heap.size w w' := by
 have hu67 := Try.underlying67
 have HO0 := Aside0.mk (show Kd.V k67 67 w w.heap.size (fun k_ => (P0_ k_ ∨ w.heap.size ≤ k_)) (.slice A0 l0.length c0) l0 from Kd.V_mono hs0 (fun k_ hk => .inl hk))
 have HB := Aside0.mk (Below.refl w.heap.size w)
 have H : ((handshakerref03_Right.f k l0).bind fun t254 => ((handshakerref03_Who.f a1).bind fun t255 => (if t254 = true then (handshakerref03_Stamp.j0 k l0 a1 a2 (!t255)) else (handshakerref03_Stamp.j0 k l0 a1 a2 true)))) = some (r1, r2) := h
 clear h
 replace H := Option.bind_eq_some_iff.mp H
 obtain ⟨t254, A40, H⟩ := H
 replace H : ((handshakerref03_Who.f a1).bind fun t255 => (if t254 = true then (handshakerref03_Stamp.j0 k l0 a1 a2 (!t255)) else (handshakerref03_Stamp.j0 k l0 a1 a2 true))) = some (r1, r2) := H
 have A4 := Aside0.mk A40
 clear A40
 replace H := Option.bind_eq_some_iff.mp H
 obtain ⟨t255, A50, H⟩ := H
 replace H : (if t254 = true then (handshakerref03_Stamp.j0 k l0 a1 a2 (!t255)) else (handshakerref03_Stamp.j0 k l0 a1 a2 true)) = some (r1, r2) := H
 have A5 := Aside0.mk A50
 clear A50
 have HC6 := Aside0.mk H
 clear H
 go_enter Try.func35, Try.ntmps35
 go_upto_region 2 with (first | ((with_reducible refine gate_callee (f := 38) rfl ?_); refine goesL_ (some 13) rfl rfl Try.func38 (by kernel_rfl) rfl #[.slice A0 l0.length c0] rfl (by (try simp only [List.map_toArray, List.map_cons, List.map_nil]); first | done | rfl) ?_; (with_reducible refine (handshakerref03_Right.calls k _ _ l0 t254 _ ?side1 ?side2 A4.out).mono ?_); (case side1 => repeat (first | exact (Kd.V_reads' HO0.out).2.2 | with_reducible first | refine Kd.C_alloc ?_ _ | refine Kd.C_drewN ?_ _ | refine Kd.C_drew ?_)); (case side2 => exact (Kd.V_reads' HO0.out).2.1); rintro e w' ⟨rfl, ⟨nd, rfl⟩⟩; refine ⟨_, rfl, ?_⟩) | ((with_reducible refine gate_callee (f := 51) rfl ?_); refine goesL_ (some 15) rfl rfl Try.func51 (by kernel_rfl) rfl #[.int .i64 a1] rfl (by (try simp only [List.map_toArray, List.map_cons, List.map_nil]); first | done | rfl) ?_; (with_reducible refine (handshakerref03_Who.calls a1 t255 _ A5.out).mono ?_); rintro e w' ⟨rfl, ⟨nd, rfl⟩⟩; refine ⟨_, rfl, ?_⟩))
 (try simp only [Act.put, List.setIfInBounds_toArray, List.set_cons_zero, List.set_cons_succ])
 go_cut [21] (fun v21 wc => ∃ (kq : Nat) (x21_5 : Bool), v21 = .bool x21_5 ∧ Aside0 (handshakerref03_Stamp.j0 kq l0 a1 a2 x21_5 = some (r1, r2)) ∧ Aside0 (kq ≤ k) ∧ Aside0 (Kd.V k67 67 wc w.heap.size (fun k_ => (P0_ k_ ∨ w.heap.size ≤ k_)) (.slice A0 l0.length c0) l0) ∧ Aside0 (Below w.heap.size w wc))
 case first =>
  have H := HC6.out
  clear HC6
  by_cases c7 : t254 = true
  · subst c7
    have H1 : (handshakerref03_Stamp.j0 k l0 a1 a2 (!t255)) = some (r1, r2) := by rw [if_pos rfl] at H; exact H
    clear H
    have H := H1
    clear H1
    have H' := Aside0.mk H
    clear H
    go_wp2
    go_meet
    case rel => exact ⟨_, (!t255), (by first | rfl | (simp; done) | (simp [*]; done)), H', ⟨by first | omega | exact Nat.le_refl _⟩, ⟨by (with_reducible repeat (first | apply Kd.V_alloc | apply Kd.V_drewN | apply Kd.V_drew)); exact HO0.out⟩, ⟨by repeat (with_reducible first | exact HB.out | apply below_alloc | apply pw_below_drewN | apply below_drew1)⟩⟩
  · replace c7 := Bool.eq_false_iff.mpr c7
    subst c7
    have H1 : (handshakerref03_Stamp.j0 k l0 a1 a2 true) = some (r1, r2) := by rw [if_neg (show ¬ (false = true) by decide)] at H; exact H
    clear H
    have H := H1
    clear H1
    have H' := Aside0.mk H
    clear H
    go_wp2
    go_meet
    case rel => exact ⟨_, (true), (by first | rfl | (simp; done) | (simp [*]; done)), H', ⟨by first | omega | exact Nat.le_refl _⟩, ⟨by (with_reducible repeat (first | apply Kd.V_alloc | apply Kd.V_drewN | apply Kd.V_drew)); exact HO0.out⟩, ⟨by repeat (with_reducible first | exact HB.out | apply below_alloc | apply pw_below_drewN | apply below_drew1)⟩⟩
 case rest =>
  clear HC6
  try clear p2
  try clear c3
  try clear c5
  try clear c7
  obtain ⟨kq, x21_5, rfl, HA, HJ5, HO_0, HB⟩ := hcut
  cases kq with
  | zero => exact absurd HA.out (by simp [handshakerref03_Stamp.j0])
  | succ kj5 =>
   have H := HA.out
   clear HA
   simp only [handshakerref03_Stamp.j0] at H
   by_cases c8 : x21_5 = true
   · subst c8
     have H1 : (some (l0, 1)) = some (r1, r2) := by rw [if_pos rfl] at H; exact H
     clear H
     have H := H1
     clear H1
     simp only [Option.some.injEq, Prod.mk.injEq] at H
     obtain ⟨rfl, rfl⟩ := H
     go_wp2
     go_ret2
     exact ⟨_, by first | rfl | (simp [errW_none, errW_some] <;> rfl) | (simp [*, errW_none, errW_some] <;> rfl), by (with_reducible repeat (first | apply Kd.V_alloc | apply Kd.V_drewN | apply Kd.V_drew)); exact HO_0.out, by repeat (with_reducible first | exact HB.out | apply below_alloc | apply pw_below_drewN | apply below_drew1)⟩
   · replace c8 := Bool.eq_false_iff.mpr c8
     subst c8
     have H1 : (if a2 < 0 then (handshakerref03_Stamp.j1 kj5 l0 a1 a2 true) else (handshakerref03_Stamp.j1 kj5 l0 a1 a2 (decide (a2 > 2147483647)))) = some (r1, r2) := by rw [if_neg (show ¬ (false = true) by decide)] at H; exact H
     clear H
     have H := H1
     clear H1
     have HC9 := Aside0.mk H
     clear H
     go_upto_region 4 with (fail)
     go_cut [28] (fun v28 wc => ∃ (kq : Nat) (x28_8 : Bool), v28 = .bool x28_8 ∧ Aside0 (handshakerref03_Stamp.j1 kq l0 a1 a2 x28_8 = some (r1, r2)) ∧ Aside0 (kq ≤ kj5) ∧ Aside0 (Kd.V k67 67 wc w.heap.size (fun k_ => (P0_ k_ ∨ w.heap.size ≤ k_)) (.slice A0 l0.length c0) l0) ∧ Aside0 (Below w.heap.size w wc))
     case first =>
      have H := HC9.out
      clear HC9
      by_cases c10 : a2 < 0
      · rw [if_pos c10] at H
        have c10b0 : decide (a2 < 0) = true := decide_eq_true c10
        clear c10
        (first | rw [c10b0] | (simp only [i64_w, i32_w]; rw [c10b0]) | skip)
        have H' := Aside0.mk H
        clear H
        go_wp2
        go_meet
        case rel => exact ⟨_, (true), (by first | rfl | (simp; done) | (simp [*]; done)), H', ⟨by have := HJ5.out; first | omega | exact Nat.le_refl _⟩, ⟨by (with_reducible repeat (first | apply Kd.V_alloc | apply Kd.V_drewN | apply Kd.V_drew)); exact HO_0.out⟩, ⟨by repeat (with_reducible first | exact HB.out | apply below_alloc | apply pw_below_drewN | apply below_drew1)⟩⟩
      · rw [if_neg c10] at H
        have c10b0 : decide (a2 < 0) = false := decide_eq_false c10
        clear c10
        (first | rw [c10b0] | (simp only [i64_w, i32_w]; rw [c10b0]) | skip)
        have H' := Aside0.mk H
        clear H
        go_wp2
        go_meet
        case rel => exact ⟨_, (decide (a2 > 2147483647)), (by first | rfl | (simp; done) | (simp [*]; done)), H', ⟨by have := HJ5.out; first | omega | exact Nat.le_refl _⟩, ⟨by (with_reducible repeat (first | apply Kd.V_alloc | apply Kd.V_drewN | apply Kd.V_drew)); exact HO_0.out⟩, ⟨by repeat (with_reducible first | exact HB.out | apply below_alloc | apply pw_below_drewN | apply below_drew1)⟩⟩
     case rest =>
      clear HC9
      try clear c1
      try clear p2
      try clear c3
      try clear c5
      try clear c7
      try clear c8
      try clear c10
      try clear c10b0
      try clear p2
      obtain ⟨kq, x28_8, rfl, HA, HJ8, HO_0, HB⟩ := hcut
      cases kq with
      | zero => exact absurd HA.out (by simp [handshakerref03_Stamp.j1])
      | succ kj8 =>
       have H := HA.out
       clear HA
       simp only [handshakerref03_Stamp.j1] at H
       by_cases c11 : x28_8 = true
       · subst c11
         have H1 : (some (l0, 6)) = some (r1, r2) := by rw [if_pos rfl] at H; exact H
         clear H
         have H := H1
         clear H1
         simp only [Option.some.injEq, Prod.mk.injEq] at H
         obtain ⟨rfl, rfl⟩ := H
         go_wp2
         go_ret2
         exact ⟨_, by first | rfl | (simp [errW_none, errW_some] <;> rfl) | (simp [*, errW_none, errW_some] <;> rfl), by (with_reducible repeat (first | apply Kd.V_alloc | apply Kd.V_drewN | apply Kd.V_drew)); exact HO_0.out, by repeat (with_reducible first | exact HB.out | apply below_alloc | apply pw_below_drewN | apply below_drew1)⟩
       · replace c11 := Bool.eq_false_iff.mpr c11
         subst c11
         have H1 : (handshakerref03_Stamp.l0 kj8 l0 a1 a2 ([] : List (S67)) 0) = some (r1, r2) := by rw [if_neg (show ¬ (false = true) by decide)] at H; exact H
         clear H
         have H := H1
         clear H1
         have H' := Aside0.mk H
         clear H
         go_wp2
         go_loopg [10, 11] kj8 (fun kq v10 v11 w' => ∃ (x10_3 : List (S67)) (x11_3 : Int), v11 = .int .i64 x11_3 ∧ Aside0 (handshakerref03_Stamp.l0 kq l0 a1 a2 x10_3 x11_3 = some (r1, r2)) ∧ Aside0 (kq ≤ kj8) ∧ Aside0 (Kd.V k67 67 w' w.heap.size (fun k_ => (P0_ k_ ∨ w.heap.size ≤ k_) ∧ some k_ ≠ (v10 : Value).ownBlock) (.slice A0 l0.length c0) l0) ∧ Aside0 (Kd.R k67 67 w' w.heap.size (fun k_ => (w.heap.size ≤ k_)) v10 x10_3) ∧ Aside0 (Below w.heap.size w w'))
         case atStart => exact ⟨(([] : List (S67))), (0), (by first | rfl | (simp; done) | (simp [*]; done)), H', ⟨Nat.le_refl _⟩, ⟨by (with_reducible repeat (first | apply Kd.V_alloc | apply Kd.V_drewN | apply Kd.V_drew)); exact Kd.V_mono HO_0.out (fun _ hk => ⟨hk, (by simp [Value.ownBlock])⟩)⟩, ⟨by first | exact Kd.R_nil _ _ _ _ _ | exact Kd.N_nil _ _ _ _ _ | exact Kd.V_nil _ _ _ _ _ | exact Kd.Q_nil _ _ _ _ _ | exact Kd.S_nil _ _ _ _ _⟩, ⟨by repeat (with_reducible first | exact HB.out | apply below_alloc | apply pw_below_drewN | apply below_drew1)⟩⟩
         case round =>
          clear H'
          try clear c1
          try clear p2
          try clear c3
          try clear c5
          try clear c7
          try clear c8
          try clear c10
          try clear c10b0
          try clear c11
          try clear p2
          obtain ⟨x10_3, x11_3, rfl, HA, HK3, HO_0, HO_10, HB⟩ := hrel
          cases gk with
          | zero => exact absurd HA.out (by simp [handshakerref03_Stamp.l0])
          | succ k3 =>
           have H := HA.out
           clear HA
           simp only [handshakerref03_Stamp.l0] at H
           by_cases c12 : x11_3 < (l0.length : Int)
           · rw [if_pos c12] at H
             have c12b0 : decide (x11_3 < (l0.length : Int)) = true := decide_eq_true c12
             clear c12
             by_cases c13 : 0 ≤ x11_3
             · rw [if_pos c13] at H
               have c13b0 : decide (0 ≤ x11_3) = true := decide_eq_true c13
               clear c13
               by_cases c14 : ((rd_T67 l0 x11_3).f1) = a1
               · rw [if_pos c14] at H
                 have c14b0 : (((rd_T67 l0 x11_3).f1) == a1) = true := beq_iff_eq.mpr c14
                 have c14b1 : (((rd_T67 l0 x11_3).f1) != a1) = false := bne_eq_false_iff_eq.mpr c14
                 clear c14
                 by_cases c15 : ((rd_T67 l0 x11_3).f0) ≥ a2
                 · rw [if_pos c15] at H
                   have c15b0 : decide (a2 ≤ ((rd_T67 l0 x11_3).f0)) = true := decide_eq_true c15
                   clear c15
                   simp only [Option.some.injEq, Prod.mk.injEq] at H
                   obtain ⟨rfl, rfl⟩ := H
                   have p256 : 0 ≤ (x11_3 : Int) := of_decide_eq_true (by first | (with_reducible assumption) | assumption)
                   have q256 : x11_3 < (l0.length : Int) := of_decide_eq_true (by first | (with_reducible assumption) | assumption)
                   obtain ⟨ad256, e256, hx256_0, hx256_1⟩ := at_T67 (Kd.V_reads' HO_0.out).2.2 x11_3 p256 q256
                   cases e256
                   replace p256 := eq_true p256
                   replace q256 := eq_true q256
                   have p257 : 0 ≤ (x11_3 : Int) := of_decide_eq_true (by first | (with_reducible assumption) | assumption)
                   have q257 : x11_3 < (l0.length : Int) := of_decide_eq_true (by first | (with_reducible assumption) | assumption)
                   obtain ⟨ad257, e257, hx257_0, hx257_1⟩ := at_T67 (Kd.V_reads' HO_0.out).2.2 x11_3 p257 q257
                   obtain rfl : ad256 = ad257 := (by injection e257)
                   replace p257 := eq_true p257
                   replace q257 := eq_true q257
                   go_wp2
                   go_ret2
                   exact ⟨_, by first | rfl | (simp [errW_none, errW_some] <;> rfl) | (simp [*, errW_none, errW_some] <;> rfl), by (with_reducible repeat (first | apply Kd.V_alloc | apply Kd.V_drewN | apply Kd.V_drew)); exact Kd.V_mono HO_0.out (fun _ hk => hk.1), by repeat (with_reducible first | exact HB.out | apply below_alloc | apply pw_below_drewN | apply below_drew1)⟩
                 · rw [if_neg c15] at H
                   have c15b0 : decide (a2 ≤ ((rd_T67 l0 x11_3).f0)) = false := decide_eq_false c15
                   clear c15
                   by_cases c16 : x10_3.length < 8796093022208
                   · rw [if_pos c16] at H
                     have LMc16 := Aside0.mk c16
                     clear c16
                     obtain ⟨y258, hy258⟩ : ∃ y_ : List (S67), y_ = (x10_3 ++ [(⟨a2, 0⟩ : S67)]) := ⟨_, rfl⟩
                     replace H : (handshakerref03_Stamp.l0 k3 l0 a1 a2 y258 (wrap64 (x11_3 + 1))) = some (r1, r2) := by first | (rw [hy258]; with_reducible exact H) | (have H2_ := (Option.bind_some _ _).symm.trans H; rw [hy258]; with_reducible exact H2_) | (have H2_ := (Option.bind_some _ _).symm.trans H; with_reducible exact H2_) | with_reducible exact H | (rw [hy258]; exact H) | exact H
                     have Ny258 := Aside0.mk hy258
                     clear hy258
                     have H' := Aside0.mk H
                     clear H
                     have p256 : 0 ≤ (x11_3 : Int) := of_decide_eq_true (by first | (with_reducible assumption) | assumption)
                     have q256 : x11_3 < (l0.length : Int) := of_decide_eq_true (by first | (with_reducible assumption) | assumption)
                     obtain ⟨ad256, e256, hx256_0, hx256_1⟩ := at_T67 (Kd.V_reads' HO_0.out).2.2 x11_3 p256 q256
                     cases e256
                     replace p256 := eq_true p256
                     replace q256 := eq_true q256
                     have p257 : 0 ≤ (x11_3 : Int) := of_decide_eq_true (by first | (with_reducible assumption) | assumption)
                     have q257 : x11_3 < (l0.length : Int) := of_decide_eq_true (by first | (with_reducible assumption) | assumption)
                     obtain ⟨ad257, e257, hx257_0, hx257_1⟩ := at_T67 (Kd.V_reads' HO_0.out).2.2 x11_3 p257 q257
                     obtain rfl : ad256 = ad257 := (by injection e257)
                     replace p257 := eq_true p257
                     replace q257 := eq_true q257
                     go_wp2_with (first | ((with_reducible refine gate_builtin (b := .append) (xs := #[.tmp 58, .tmp 61]) rfl ?_); at_builtin; refine Kd.R_append k67 (w0 := w) w.heap.size rfl (.tmp 58) (.tmp 61) 40 67 (.agg #[(.int .i64 0), (.int .i64 0)]) 16 rfl Try.underlying40 info67 rfl (by decide) (by omega) u10 x10_3 (⟨a2, 0⟩ : S67) [.int .i64 a2, .int .i64 0] (fun k_ => (w.heap.size ≤ k_)) (fun _ => False) rfl rfl ?aP (fun _ hk => hk.elim) ?aF ?aO ?aB ?aS ?aL ?_; (case aP => exact k67_mkM _ _ _ (⟨a2, 0⟩ : S67)); (case aB => exact (by repeat (with_reducible first | exact HB.out | apply below_alloc | apply pw_below_drewN | apply below_drew1))); (case aF => exact (fun k_ hk => (Nat.le_trans bsz_ hk))); (case aO => exact (by (with_reducible repeat (first | apply Kd.R_alloc | apply Kd.R_drewN | apply Kd.R_drew)); exact HO_10.out)); (case aS => exact bsz_); (case aL => have := LMc16.out; omega); intro v259 w17 ho hb hg hat; rw [← Ny258.out] at ho; have n0_ := Aside0.mk (Kd.V_afterv (ok := (fun k_ => (P0_ k_ ∨ w.heap.size ≤ k_))) (by (with_reducible repeat (first | apply Kd.V_alloc | apply Kd.V_drewN | apply Kd.V_drew)); exact HO_0.out) hg hat); have n1_ := Aside0.mk (hb); have n2_ := Aside0.mk (ho); clear HO_0; clear HB; clear HO_10; have HO_0 := n0_; have HB := n1_; have HO260 := n2_; clear n0_ n1_ n2_; clear ho hb hg hat))
                     go_roundg k3
                     case measure => have := HJ5.out; have := HJ8.out; have := HK3.out; omega
                     case rel => exact ⟨(y258), (wrap64 (x11_3 + 1)), (by first | rfl | (simp; done) | (simp [*]; done)), H', ⟨by have := HJ5.out; have := HJ8.out; have := HK3.out; omega⟩, ⟨by (with_reducible repeat (first | apply Kd.V_alloc | apply Kd.V_drewN | apply Kd.V_drew)); exact HO_0.out⟩, ⟨by (with_reducible repeat (first | apply Kd.R_alloc | apply Kd.R_drewN | apply Kd.R_drew)); exact HO260.out⟩, ⟨by repeat (with_reducible first | exact HB.out | apply below_alloc | apply pw_below_drewN | apply below_drew1)⟩⟩
                   · rw [if_neg c16] at H
                     exact absurd H (by simp)
               · rw [if_neg c14] at H
                 have c14b0 : (((rd_T67 l0 x11_3).f1) == a1) = false := beq_eq_false_iff_ne.mpr c14
                 have c14b1 : (((rd_T67 l0 x11_3).f1) != a1) = true := bne_iff_ne.mpr c14
                 by_cases c18 : x10_3.length < 8796093022208
                 · rw [if_pos c18] at H
                   have LMc18 := Aside0.mk c18
                   clear c18
                   obtain ⟨y262, hy262⟩ : ∃ y_ : List (S67), y_ = (x10_3 ++ [(⟨(rd_T67 l0 x11_3).f0, (rd_T67 l0 x11_3).f1⟩ : S67)]) := ⟨_, rfl⟩
                   replace H : (handshakerref03_Stamp.l0 k3 l0 a1 a2 y262 (wrap64 (x11_3 + 1))) = some (r1, r2) := by first | (rw [hy262]; with_reducible exact H) | (have H2_ := (Option.bind_some _ _).symm.trans H; rw [hy262]; with_reducible exact H2_) | (have H2_ := (Option.bind_some _ _).symm.trans H; with_reducible exact H2_) | with_reducible exact H | (rw [hy262]; exact H) | exact H
                   have Ny262 := Aside0.mk hy262
                   clear hy262
                   have H' := Aside0.mk H
                   clear H
                   have p256 : 0 ≤ (x11_3 : Int) := of_decide_eq_true (by first | (with_reducible assumption) | assumption)
                   have q256 : x11_3 < (l0.length : Int) := of_decide_eq_true (by first | (with_reducible assumption) | assumption)
                   obtain ⟨ad256, e256, hx256_0, hx256_1⟩ := at_T67 (Kd.V_reads' HO_0.out).2.2 x11_3 p256 q256
                   cases e256
                   replace p256 := eq_true p256
                   replace q256 := eq_true q256
                   have p261 : 0 ≤ (x11_3 : Int) := of_decide_eq_true (by first | (with_reducible assumption) | assumption)
                   have q261 : x11_3 < (l0.length : Int) := of_decide_eq_true (by first | (with_reducible assumption) | assumption)
                   obtain ⟨ad261, e261, hx261_0, hx261_1⟩ := at_T67 (Kd.V_reads' HO_0.out).2.2 x11_3 p261 q261
                   obtain rfl : ad256 = ad261 := (by injection e261)
                   replace p261 := eq_true p261
                   replace q261 := eq_true q261
                   go_wp2_with (first | ((with_reducible refine gate_builtin (b := .append) (xs := #[.tmp 43, .tmp 48]) rfl ?_); at_builtin; refine Kd.R_append k67 (w0 := w) w.heap.size rfl (.tmp 43) (.tmp 48) 40 67 (.agg #[(.int .i64 0), (.int .i64 0)]) 16 rfl Try.underlying40 info67 rfl (by decide) (by omega) u10 x10_3 (⟨(rd_T67 l0 x11_3).f0, (rd_T67 l0 x11_3).f1⟩ : S67) [.int .i64 ((rd_T67 l0 x11_3).f0), .int .i64 ((rd_T67 l0 x11_3).f1)] (fun k_ => (w.heap.size ≤ k_)) (fun _ => False) rfl rfl ?aP (fun _ hk => hk.elim) ?aF ?aO ?aB ?aS ?aL ?_; (case aP => exact k67_mkM _ _ _ (⟨(rd_T67 l0 x11_3).f0, (rd_T67 l0 x11_3).f1⟩ : S67)); (case aB => exact (by repeat (with_reducible first | exact HB.out | apply below_alloc | apply pw_below_drewN | apply below_drew1))); (case aF => exact (fun k_ hk => (Nat.le_trans bsz_ hk))); (case aO => exact (by (with_reducible repeat (first | apply Kd.R_alloc | apply Kd.R_drewN | apply Kd.R_drew)); exact HO_10.out)); (case aS => exact bsz_); (case aL => have := LMc18.out; omega); intro v263 w19 ho hb hg hat; rw [← Ny262.out] at ho; have n0_ := Aside0.mk (Kd.V_afterv (ok := (fun k_ => (P0_ k_ ∨ w.heap.size ≤ k_))) (by (with_reducible repeat (first | apply Kd.V_alloc | apply Kd.V_drewN | apply Kd.V_drew)); exact HO_0.out) hg hat); have n1_ := Aside0.mk (hb); have n2_ := Aside0.mk (ho); clear HO_0; clear HB; clear HO_10; have HO_0 := n0_; have HB := n1_; have HO264 := n2_; clear n0_ n1_ n2_; clear ho hb hg hat))
                   go_roundg k3
                   case measure => have := HJ5.out; have := HJ8.out; have := HK3.out; omega
                   case rel => exact ⟨(y262), (wrap64 (x11_3 + 1)), (by first | rfl | (simp; done) | (simp [*]; done)), H', ⟨by have := HJ5.out; have := HJ8.out; have := HK3.out; omega⟩, ⟨by (with_reducible repeat (first | apply Kd.V_alloc | apply Kd.V_drewN | apply Kd.V_drew)); exact HO_0.out⟩, ⟨by (with_reducible repeat (first | apply Kd.R_alloc | apply Kd.R_drewN | apply Kd.R_drew)); exact HO264.out⟩, ⟨by repeat (with_reducible first | exact HB.out | apply below_alloc | apply pw_below_drewN | apply below_drew1)⟩⟩
                 · rw [if_neg c18] at H
                   exact absurd H (by simp)
             · rw [if_neg c13] at H
               exact absurd H (by simp)
           · rw [if_neg c12] at H
             have c12b0 : decide (x11_3 < (l0.length : Int)) = false := decide_eq_false c12
             clear c12
             simp only [Option.some.injEq, Prod.mk.injEq] at H
             obtain ⟨rfl, rfl⟩ := H
             go_wp2
             go_ret2
             exact ⟨_, by first | rfl | (simp [errW_none, errW_some] <;> rfl) | (simp [*, errW_none, errW_some] <;> rfl), Kd.V_mono (Kd.R_V (by (with_reducible repeat (first | apply Kd.R_alloc | apply Kd.R_drewN | apply Kd.R_drew)); exact HO_10.out)) (fun k_ hk => by first | exact ⟨(.inr (hk.1)), hk.2⟩ | exact (.inr (hk))), by repeat (with_reducible first | exact HB.out | apply below_alloc | apply pw_below_drewN | apply below_drew1)⟩

end Go.Proofs.Ytlfmobnmohnjmaa.T
