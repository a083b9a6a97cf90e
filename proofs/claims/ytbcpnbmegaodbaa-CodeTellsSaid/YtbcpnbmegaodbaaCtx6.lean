-- PRINTED by print.py (a twelfth state) out of the translation. Not trusted: Lean checks it.
import Derived.Test.YtbcpnbmegaodbaaCtx0
import Derived.Test.YtbcpnbmegaodbaaCtx5
namespace Go.Proofs.Ytbcpnbmegaodbaa.Ct
open Go.Proofs.Ytbcpnbmegaodbaa.Ho
open Go.RowKit Go.Proofs.YtbcpnbmegaodbaaW.PrintWords Go.Proofs.YtbcpnbmegaodbaaW.PrintLast Go.Proofs.YtbcpnbmegaodbaaW.PrintMore
attribute [local go_sem] max2_int min2_int max_two min_two max_three min_three max_four min_four   -- for this text's walks alone
set_option linter.unusedVariables false
set_option linter.unusedSimpArgs false

/-! ### handshakerref07_Check: function 31 -/
mutual
def handshakerref07_Check.j0 : Nat → List (S82) → Bool → Option (Int)
 | 0, _, _ => none
 | k + 1, x0, x12 => if x12 = true then (some 1) else (handshakerref07_Check.l0 k x0 0)
def handshakerref07_Check.l0 : Nat → List (S82) → Int → Option (Int)
 | 0, _, _ => none
 | k + 1, x0, x3 => if x3 < (x0.length : Int) then (if 0 ≤ x3 then ((handshakerref07_one.f ((rd_T82 x0 x3).f0) ((rd_T82 x0 x3).f1)).bind fun t229 => (if t229 = true then (handshakerref07_Check.l0 k x0 (wrap64 (x3 + 1))) else (some 1))) else (none)) else ((handshakerref07_start.f k x0 (wrap64 ((x0.length : Int) - 1))).bind fun t230 => (if t230 = 0 then (some 0) else (some 2)))
end
def handshakerref07_Check.f (k : Nat) (l0 : List (S82)) : Option (Int) := if (l0.length : Int) < 1 then (handshakerref07_Check.j0 k l0 true) else (handshakerref07_Check.j0 k l0 (decide ((l0.length : Int) > 12)))
theorem handshakerref07_Check.mono_l : ∀ k, (∀ y0 y1, LeO (handshakerref07_Check.j0 k y0 y1) (handshakerref07_Check.j0 (k + 1) y0 y1)) ∧ (∀ y0 y1, LeO (handshakerref07_Check.l0 k y0 y1) (handshakerref07_Check.l0 (k + 1) y0 y1))
 | 0 => ⟨fun _ _ r h => by simp [handshakerref07_Check.j0] at h, fun _ _ r h => by simp [handshakerref07_Check.l0] at h⟩
 | k + 1 => by
  obtain ⟨ih0, ih1⟩ := handshakerref07_Check.mono_l k
  refine ⟨?_, ?_⟩
  · intro y0 y1
    unfold handshakerref07_Check.j0
    repeat' first
    | (with_reducible exact ih0 _ _)
    | (with_reducible exact ih1 _ _)
    | (with_reducible exact handshakerref07_start.mono _ _ _)
    | (with_reducible exact LeO.refl _)
    | (with_reducible exact LeO.none _)
    | (with_reducible refine LeO.ite ?_ ?_)
    | (with_reducible refine LeO.bind ?_ (fun _ => ?_))
    | exact ih0 _ _
    | exact ih1 _ _
    | exact handshakerref07_start.mono _ _ _
    | exact LeO.none _
    | refine LeO.ite ?_ ?_
    | refine LeO.bind ?_ (fun _ => ?_)
  · intro y0 y1
    unfold handshakerref07_Check.l0
    repeat' first
    | (with_reducible exact ih0 _ _)
    | (with_reducible exact ih1 _ _)
    | (with_reducible exact handshakerref07_start.mono _ _ _)
    | (with_reducible exact LeO.refl _)
    | (with_reducible exact LeO.none _)
    | (with_reducible refine LeO.ite ?_ ?_)
    | (with_reducible refine LeO.bind ?_ (fun _ => ?_))
    | exact ih0 _ _
    | exact ih1 _ _
    | exact handshakerref07_start.mono _ _ _
    | exact LeO.none _
    | refine LeO.ite ?_ ?_
    | refine LeO.bind ?_ (fun _ => ?_)
theorem handshakerref07_Check.mono : ∀ a0 k, LeO (handshakerref07_Check.f k a0) (handshakerref07_Check.f (k + 1) a0) := by
 intro a0 k
 obtain ⟨ih0, ih1⟩ := handshakerref07_Check.mono_l k
 unfold handshakerref07_Check.f
 repeat' first
  | (with_reducible exact ih0 _ _)
  | (with_reducible exact ih1 _ _)
  | (with_reducible exact handshakerref07_start.mono _ _ _)
  | (with_reducible exact LeO.refl _)
  | (with_reducible exact LeO.none _)
  | (with_reducible refine LeO.ite ?_ ?_)
  | (with_reducible refine LeO.bind ?_ (fun _ => ?_))
  | exact ih0 _ _
  | exact ih1 _ _
  | exact handshakerref07_start.mono _ _ _
  | exact LeO.none _
  | refine LeO.ite ?_ ?_
  | refine LeO.bind ?_ (fun _ => ?_)
set_option maxHeartbeats 8000000 in
set_option maxRecDepth 100000 in
theorem handshakerref07_Check.calls (k : Nat) (A0 : Option Addr) (c0 : Nat) (l0 : List (S82)) (r : Int) (w : World) (hr0 : Kd.C k82 w A0 l0.length l0) (hc0 : l0.length ≤ c0) (h : handshakerref07_Check.f k l0 = some r) :
 Calls Try.prog 31 #[.slice A0 l0.length c0] w fun e w' => e = .returned (.int .i64 r) ∧ Below w.heap.size w w' := by
 have hu82 := Try.underlying82
 have HR0 := Aside0.mk hr0
 have HC0 := Aside0.mk hc0
 clear hr0 hc0
 have HB := Aside0.mk (Below.refl w.heap.size w)
 have H : (if (l0.length : Int) < 1 then (handshakerref07_Check.j0 k l0 true) else (handshakerref07_Check.j0 k l0 (decide ((l0.length : Int) > 12)))) = some r := h
 clear h
 have HC2 := Aside0.mk H
 clear H
 go_enter Try.func31, Try.ntmps31
 go_upto_region 1 with (fail)
 go_cut [12] (fun v12 wc => ∃ (kq : Nat) (x12_1 : Bool), v12 = .bool x12_1 ∧ Aside0 (handshakerref07_Check.j0 kq l0 x12_1 = some r) ∧ Aside0 (kq ≤ k) ∧ Aside0 (Below w.heap.size w wc))
 case first =>
  have H := HC2.out
  clear HC2
  by_cases c3 : (l0.length : Int) < 1
  · rw [if_pos c3] at H
    have c3b0 : decide ((l0.length : Int) < 1) = true := decide_eq_true c3
    have c3b1 : decide (l0.length < 1) = true := decide_eq_true (by omega)
    clear c3
    (first | rw [c3b0] | (simp only [i64_w, i32_w]; rw [c3b0]) | skip)
    have H' := Aside0.mk H
    clear H
    go_wp2
    go_meet
    case rel => exact ⟨_, (true), (by first | rfl | (simp; done) | (simp [*]; done)), H', ⟨by first | omega | exact Nat.le_refl _⟩, ⟨by repeat (with_reducible first | exact HB.out | apply below_alloc | apply pw_below_drewN | apply below_drew1)⟩⟩
  · rw [if_neg c3] at H
    have c3b0 : decide ((l0.length : Int) < 1) = false := decide_eq_false c3
    have c3b1 : decide (l0.length < 1) = false := decide_eq_false (by omega)
    clear c3
    (first | rw [c3b0] | (simp only [i64_w, i32_w]; rw [c3b0]) | skip)
    have H' := Aside0.mk H
    clear H
    go_wp2
    go_meet
    case rel => exact ⟨_, (decide ((l0.length : Int) > 12)), (by first | rfl | (simp; done) | (simp [*]; done)), H', ⟨by first | omega | exact Nat.le_refl _⟩, ⟨by repeat (with_reducible first | exact HB.out | apply below_alloc | apply pw_below_drewN | apply below_drew1)⟩⟩
 case rest =>
  clear HC2
  try clear p2
  try clear c3
  try clear c3b0
  try clear c3b1
  obtain ⟨kq, x12_1, rfl, HA, HJ1, HB⟩ := hcut
  cases kq with
  | zero => exact absurd HA.out (by simp [handshakerref07_Check.j0])
  | succ kj1 =>
   have H := HA.out
   clear HA
   simp only [handshakerref07_Check.j0] at H
   by_cases c4 : x12_1 = true
   · subst c4
     have H1 : (some 1) = some r := by rw [if_pos rfl] at H; exact H
     clear H
     have H := H1
     clear H1
     obtain rfl := Option.some.inj H
     go_wp2
     go_ret
     exact ⟨by first | rfl | (simp [errW_none, errW_some] <;> rfl) | (simp [*, errW_none, errW_some] <;> rfl), by repeat (with_reducible first | exact HB.out | apply below_alloc | apply pw_below_drewN | apply below_drew1)⟩
   · replace c4 := Bool.eq_false_iff.mpr c4
     subst c4
     have H1 : (handshakerref07_Check.l0 kj1 l0 0) = some r := by rw [if_neg (show ¬ (false = true) by decide)] at H; exact H
     clear H
     have H := H1
     clear H1
     have H' := Aside0.mk H
     clear H
     go_wp2
     go_loopg [3] kj1 (fun kq v3 w' => ∃ (x3_2 : Int), v3 = .int .i64 x3_2 ∧ Aside0 (handshakerref07_Check.l0 kq l0 x3_2 = some r) ∧ Aside0 (kq ≤ kj1) ∧ Aside0 (Below w.heap.size w w'))
     case atStart => exact ⟨(0), (by first | rfl | (simp; done) | (simp [*]; done)), H', ⟨Nat.le_refl _⟩, ⟨by repeat (with_reducible first | exact HB.out | apply below_alloc | apply pw_below_drewN | apply below_drew1)⟩⟩
     case round =>
      clear H'
      try clear p2
      try clear c3
      try clear c3b0
      try clear c3b1
      try clear c4
      try clear p2
      obtain ⟨x3_2, rfl, HA, HK2, HB⟩ := hrel
      cases gk with
      | zero => exact absurd HA.out (by simp [handshakerref07_Check.l0])
      | succ k2 =>
       have H := HA.out
       clear HA
       simp only [handshakerref07_Check.l0] at H
       by_cases c5 : x3_2 < (l0.length : Int)
       · rw [if_pos c5] at H
         have c5b0 : decide (x3_2 < (l0.length : Int)) = true := decide_eq_true c5
         clear c5
         by_cases c6 : 0 ≤ x3_2
         · rw [if_pos c6] at H
           have c6b0 : decide (0 ≤ x3_2) = true := decide_eq_true c6
           clear c6
           replace H := Option.bind_eq_some_iff.mp H
           obtain ⟨t229, A70, H⟩ := H
           replace H : (if t229 = true then (handshakerref07_Check.l0 k2 l0 (wrap64 (x3_2 + 1))) else (some 1)) = some r := H
           have A7 := Aside0.mk A70
           clear A70
           by_cases c8 : t229 = true
           · subst c8
             have H1 : (handshakerref07_Check.l0 k2 l0 (wrap64 (x3_2 + 1))) = some r := by rw [if_pos rfl] at H; exact H
             clear H
             have H := H1
             clear H1
             have H' := Aside0.mk H
             clear H
             have p228 : 0 ≤ (x3_2 : Int) := of_decide_eq_true (by first | (with_reducible assumption) | assumption)
             have q228 : x3_2 < (l0.length : Int) := of_decide_eq_true (by first | (with_reducible assumption) | assumption)
             obtain ⟨ad228, e228, hx228_0, hx228_1⟩ := at_T82 HR0.out x3_2 p228 q228
             cases e228
             replace hx228_0 := (HB.out.cell (World.block_lt_of_cell? w _ hx228_0)).trans hx228_0
             replace hx228_1 := (HB.out.cell (World.block_lt_of_cell? w _ hx228_1)).trans hx228_1
             replace p228 := eq_true p228
             replace q228 := eq_true q228
             go_wp2_with (first | ((with_reducible refine gate_callee (f := 55) rfl ?_); refine goesL_ (some 23) rfl rfl Try.func55 (by kernel_rfl) rfl #[.agg #[.int .i64 ((rd_T82 l0 x3_2).f0), .int .i64 ((rd_T82 l0 x3_2).f1)]] rfl (by (try simp only [List.map_toArray, List.map_cons, List.map_nil]); first | done | rfl) ?_; (with_reducible refine (handshakerref07_one.calls ((rd_T82 l0 x3_2).f0) ((rd_T82 l0 x3_2).f1) true _ A7.out).mono ?_); rintro e w9 ⟨rfl, hb⟩; refine ⟨_, rfl, ?_⟩; have n0_ := Aside0.mk (bst_ hb); clear HB; have HB := n0_; clear n0_; (try clear hb); (try clear hb2); (try clear hk); (try clear hi)))
             go_roundg k2
             case measure => have := HJ1.out; have := HK2.out; omega
             case rel => exact ⟨(wrap64 (x3_2 + 1)), (by first | rfl | (simp; done) | (simp [*]; done)), H', ⟨by have := HJ1.out; have := HK2.out; omega⟩, ⟨by repeat (with_reducible first | exact HB.out | apply below_alloc | apply pw_below_drewN | apply below_drew1)⟩⟩
           · replace c8 := Bool.eq_false_iff.mpr c8
             subst c8
             have H1 : (some 1) = some r := by rw [if_neg (show ¬ (false = true) by decide)] at H; exact H
             clear H
             have H := H1
             clear H1
             obtain rfl := Option.some.inj H
             have p228 : 0 ≤ (x3_2 : Int) := of_decide_eq_true (by first | (with_reducible assumption) | assumption)
             have q228 : x3_2 < (l0.length : Int) := of_decide_eq_true (by first | (with_reducible assumption) | assumption)
             obtain ⟨ad228, e228, hx228_0, hx228_1⟩ := at_T82 HR0.out x3_2 p228 q228
             cases e228
             replace hx228_0 := (HB.out.cell (World.block_lt_of_cell? w _ hx228_0)).trans hx228_0
             replace hx228_1 := (HB.out.cell (World.block_lt_of_cell? w _ hx228_1)).trans hx228_1
             replace p228 := eq_true p228
             replace q228 := eq_true q228
             go_wp2_with (first | ((with_reducible refine gate_callee (f := 55) rfl ?_); refine goesL_ (some 23) rfl rfl Try.func55 (by kernel_rfl) rfl #[.agg #[.int .i64 ((rd_T82 l0 x3_2).f0), .int .i64 ((rd_T82 l0 x3_2).f1)]] rfl (by (try simp only [List.map_toArray, List.map_cons, List.map_nil]); first | done | rfl) ?_; (with_reducible refine (handshakerref07_one.calls ((rd_T82 l0 x3_2).f0) ((rd_T82 l0 x3_2).f1) false _ A7.out).mono ?_); rintro e w10 ⟨rfl, hb⟩; refine ⟨_, rfl, ?_⟩; have n0_ := Aside0.mk (bst_ hb); clear HB; have HB := n0_; clear n0_; (try clear hb); (try clear hb2); (try clear hk); (try clear hi)))
             go_ret
             exact ⟨by first | rfl | (simp [errW_none, errW_some] <;> rfl) | (simp [*, errW_none, errW_some] <;> rfl), by repeat (with_reducible first | exact HB.out | apply below_alloc | apply pw_below_drewN | apply below_drew1)⟩
         · rw [if_neg c6] at H
           exact absurd H (by simp)
       · rw [if_neg c5] at H
         have c5b0 : decide (x3_2 < (l0.length : Int)) = false := decide_eq_false c5
         clear c5
         replace H := Option.bind_eq_some_iff.mp H
         obtain ⟨t230, A110, H⟩ := H
         replace H : (if t230 = 0 then (some 0) else (some 2)) = some r := H
         have A11 := Aside0.mk A110
         clear A110
         by_cases c12 : t230 = 0
         · rw [if_pos c12] at H
           have c12b0 : (t230 == 0) = true := beq_iff_eq.mpr c12
           have c12b1 : (t230 != 0) = false := bne_eq_false_iff_eq.mpr c12
           clear c12
           obtain rfl := Option.some.inj H
           go_wp2_with (first | ((with_reducible refine gate_callee (f := 56) rfl ?_); refine goesL_ (some 30) rfl rfl Try.func56 (by kernel_rfl) rfl #[.slice A0 l0.length c0, .int .i64 (wrap64 ((l0.length : Int) - 1))] rfl (by (try simp only [List.map_toArray, List.map_cons, List.map_nil]); first | done | rfl) ?_; (with_reducible refine (handshakerref07_start.calls k2 _ _ l0 (wrap64 ((l0.length : Int) - 1)) t230 _ ?side1 ?side2 A11.out).mono ?_); (case side1 => repeat (first | exact (Kd.C_below HR0.out HB.out) | with_reducible first | refine Kd.C_alloc ?_ _ | refine Kd.C_drewN ?_ _ | refine Kd.C_drew ?_)); (case side2 => exact HC0.out); rintro e w13 ⟨rfl, hb⟩; refine ⟨_, rfl, ?_⟩; have n0_ := Aside0.mk (bst_ hb); clear HB; have HB := n0_; clear n0_; (try clear hb); (try clear hb2); (try clear hk); (try clear hi)))
           go_ret
           exact ⟨by first | rfl | (simp [errW_none, errW_some] <;> rfl) | (simp [*, errW_none, errW_some] <;> rfl), by repeat (with_reducible first | exact HB.out | apply below_alloc | apply pw_below_drewN | apply below_drew1)⟩
         · rw [if_neg c12] at H
           have c12b0 : (t230 == 0) = false := beq_eq_false_iff_ne.mpr c12
           have c12b1 : (t230 != 0) = true := bne_iff_ne.mpr c12
           obtain rfl := Option.some.inj H
           go_wp2_with (first | ((with_reducible refine gate_callee (f := 56) rfl ?_); refine goesL_ (some 30) rfl rfl Try.func56 (by kernel_rfl) rfl #[.slice A0 l0.length c0, .int .i64 (wrap64 ((l0.length : Int) - 1))] rfl (by (try simp only [List.map_toArray, List.map_cons, List.map_nil]); first | done | rfl) ?_; (with_reducible refine (handshakerref07_start.calls k2 _ _ l0 (wrap64 ((l0.length : Int) - 1)) t230 _ ?side1 ?side2 A11.out).mono ?_); (case side1 => repeat (first | exact (Kd.C_below HR0.out HB.out) | with_reducible first | refine Kd.C_alloc ?_ _ | refine Kd.C_drewN ?_ _ | refine Kd.C_drew ?_)); (case side2 => exact HC0.out); rintro e w14 ⟨rfl, hb⟩; refine ⟨_, rfl, ?_⟩; have n0_ := Aside0.mk (bst_ hb); clear HB; have HB := n0_; clear n0_; (try clear hb); (try clear hb2); (try clear hk); (try clear hi)))
           go_ret
           exact ⟨by first | rfl | (simp [errW_none, errW_some] <;> rfl) | (simp [*, errW_none, errW_some] <;> rfl), by repeat (with_reducible first | exact HB.out | apply below_alloc | apply pw_below_drewN | apply below_drew1)⟩

/-! ### handshakerref07_Cells: function 32 -/
mutual
def handshakerref07_Cells.l0 : Nat → List (S82) → List Int → Int → Option (List Int)
 | 0, _, _, _ => none
 | k + 1, x0, x3, x4 => if x4 < 64 then (handshakerref07_Cells.l1 k x0 x3 x4 false 0) else (some x3)
def handshakerref07_Cells.l1 : Nat → List (S82) → List Int → Int → Bool → Int → Option (List Int)
 | 0, _, _, _, _, _ => none
 | k + 1, x0, x3, x4, x5, x6 => if x6 < (x0.length : Int) then (if x5 = true then (handshakerref07_Cells.l1 k x0 x3 x4 true (wrap64 (x6 + 1))) else (if 0 ≤ x6 then (if ((rd_T82 x0 x6).f0) = 2 then (handshakerref07_Cells.l1 k x0 x3 x4 (((rd_T82 x0 x6).f1) == x4) (wrap64 (x6 + 1))) else (handshakerref07_Cells.l1 k x0 x3 x4 false (wrap64 (x6 + 1)))) else (none))) else (if x5 = true then (if x3.length < 17592186044416 then (handshakerref07_Cells.l0 k x0 (x3 ++ [x4]) (wrap64 (x4 + 1))) else (none)) else (handshakerref07_Cells.l0 k x0 x3 (wrap64 (x4 + 1))))
end
def handshakerref07_Cells.f (k : Nat) (l0 : List (S82)) : Option (List Int) := (handshakerref07_Check.f k l0).bind fun t231 => (if t231 = 0 then (handshakerref07_Cells.l0 k l0 ([] : List Int) 0) else (some ([] : List Int)))
theorem handshakerref07_Cells.mono_l : ∀ k, (∀ y0 y1 y2, LeO (handshakerref07_Cells.l0 k y0 y1 y2) (handshakerref07_Cells.l0 (k + 1) y0 y1 y2)) ∧ (∀ y0 y1 y2 y3 y4, LeO (handshakerref07_Cells.l1 k y0 y1 y2 y3 y4) (handshakerref07_Cells.l1 (k + 1) y0 y1 y2 y3 y4))
 | 0 => ⟨fun _ _ _ r h => by simp [handshakerref07_Cells.l0] at h, fun _ _ _ _ _ r h => by simp [handshakerref07_Cells.l1] at h⟩
 | k + 1 => by
  obtain ⟨ih0, ih1⟩ := handshakerref07_Cells.mono_l k
  refine ⟨?_, ?_⟩
  · intro y0 y1 y2
    unfold handshakerref07_Cells.l0
    repeat' first
    | (with_reducible exact ih0 _ _ _)
    | (with_reducible exact ih1 _ _ _ _ _)
    | (with_reducible exact handshakerref07_Check.mono _ _)
    | (with_reducible exact LeO.refl _)
    | (with_reducible exact LeO.none _)
    | (with_reducible refine LeO.ite ?_ ?_)
    | (with_reducible refine LeO.bind ?_ (fun _ => ?_))
    | exact ih0 _ _ _
    | exact ih1 _ _ _ _ _
    | exact handshakerref07_Check.mono _ _
    | exact LeO.none _
    | refine LeO.ite ?_ ?_
    | refine LeO.bind ?_ (fun _ => ?_)
  · intro y0 y1 y2 y3 y4
    unfold handshakerref07_Cells.l1
    repeat' first
    | (with_reducible exact ih0 _ _ _)
    | (with_reducible exact ih1 _ _ _ _ _)
    | (with_reducible exact handshakerref07_Check.mono _ _)
    | (with_reducible exact LeO.refl _)
    | (with_reducible exact LeO.none _)
    | (with_reducible refine LeO.ite ?_ ?_)
    | (with_reducible refine LeO.bind ?_ (fun _ => ?_))
    | exact ih0 _ _ _
    | exact ih1 _ _ _ _ _
    | exact handshakerref07_Check.mono _ _
    | exact LeO.none _
    | refine LeO.ite ?_ ?_
    | refine LeO.bind ?_ (fun _ => ?_)
theorem handshakerref07_Cells.mono : ∀ a0 k, LeO (handshakerref07_Cells.f k a0) (handshakerref07_Cells.f (k + 1) a0) := by
 intro a0 k
 obtain ⟨ih0, ih1⟩ := handshakerref07_Cells.mono_l k
 unfold handshakerref07_Cells.f
 repeat' first
  | (with_reducible exact ih0 _ _ _)
  | (with_reducible exact ih1 _ _ _ _ _)
  | (with_reducible exact handshakerref07_Check.mono _ _)
  | (with_reducible exact LeO.refl _)
  | (with_reducible exact LeO.none _)
  | (with_reducible refine LeO.ite ?_ ?_)
  | (with_reducible refine LeO.bind ?_ (fun _ => ?_))
  | exact ih0 _ _ _
  | exact ih1 _ _ _ _ _
  | exact handshakerref07_Check.mono _ _
  | exact LeO.none _
  | refine LeO.ite ?_ ?_
  | refine LeO.bind ?_ (fun _ => ?_)
set_option maxHeartbeats 8000000 in
set_option maxRecDepth 100000 in
theorem handshakerref07_Cells.calls (k : Nat) (A0 : Option Addr) (c0 : Nat) (l0 : List (S82)) (r : List Int) (w : World) (hr0 : Kd.C k82 w A0 l0.length l0) (hc0 : l0.length ≤ c0) (h : handshakerref07_Cells.f k l0 = some r) :
 Calls Try.prog 32 #[.slice A0 l0.length c0] w fun e w' => ∃ v0_ : Value, e = .returned (v0_) ∧ Kd.R (Kd.int .i64) 3 w' w.heap.size (fun _ => True) v0_ r ∧ Below w.heap.size w w' := by
 have HR0 := Aside0.mk hr0
 have HC0 := Aside0.mk hc0
 clear hr0 hc0
 have HB := Aside0.mk (Below.refl w.heap.size w)
 have H : ((handshakerref07_Check.f k l0).bind fun t231 => (if t231 = 0 then (handshakerref07_Cells.l0 k l0 ([] : List Int) 0) else (some ([] : List Int)))) = some r := h
 clear h
 replace H := Option.bind_eq_some_iff.mp H
 obtain ⟨t231, A20, H⟩ := H
 replace H : (if t231 = 0 then (handshakerref07_Cells.l0 k l0 ([] : List Int) 0) else (some ([] : List Int))) = some r := H
 have A2 := Aside0.mk A20
 clear A20
 by_cases c3 : t231 = 0
 · rw [if_pos c3] at H
   have c3b0 : (t231 == 0) = true := beq_iff_eq.mpr c3
   have c3b1 : (t231 != 0) = false := bne_eq_false_iff_eq.mpr c3
   clear c3
   have H' := Aside0.mk H
   clear H
   go_enter Try.func32, Try.ntmps32
   go_wp2_with (first | ((with_reducible refine gate_callee (f := 31) rfl ?_); refine goesL_ (some 8) rfl rfl Try.func31 (by kernel_rfl) rfl #[.slice A0 l0.length c0] rfl (by (try simp only [List.map_toArray, List.map_cons, List.map_nil]); first | done | rfl) ?_; (with_reducible refine (handshakerref07_Check.calls k _ _ l0 t231 _ ?side1 ?side2 A2.out).mono ?_); (case side1 => repeat (first | exact HR0.out | with_reducible first | refine Kd.C_alloc ?_ _ | refine Kd.C_drewN ?_ _ | refine Kd.C_drew ?_)); (case side2 => exact HC0.out); rintro e w4 ⟨rfl, hb⟩; refine ⟨_, rfl, ?_⟩; have n0_ := Aside0.mk (bst_ hb); clear HB; have HB := n0_; clear n0_; (try clear hb); (try clear hb2); (try clear hk); (try clear hi)))
   go_loopg [3, 4] k (fun kq v3 v4 w' => ∃ (x3_1 : List Int) (x4_1 : Int), v4 = .int .i64 x4_1 ∧ Aside0 (handshakerref07_Cells.l0 kq l0 x3_1 x4_1 = some r) ∧ Aside0 (kq ≤ k) ∧ Aside0 (Kd.R (Kd.int .i64) 3 w' w.heap.size (fun _ => True) v3 x3_1) ∧ Aside0 (Below w.heap.size w w'))
   case atStart => exact ⟨(([] : List Int)), (0), (by first | rfl | (simp; done) | (simp [*]; done)), H', ⟨Nat.le_refl _⟩, ⟨by first | exact Kd.R_nil _ _ _ _ _ | exact Kd.N_nil _ _ _ _ _ | exact Kd.V_nil _ _ _ _ _ | exact Kd.Q_nil _ _ _ _ _ | exact Kd.S_nil _ _ _ _ _⟩, ⟨by repeat (with_reducible first | exact HB.out | apply below_alloc | apply pw_below_drewN | apply below_drew1)⟩⟩
   case round =>
    clear H'
    try clear p2
    try clear c3
    try clear c3b0
    try clear c3b1
    obtain ⟨x3_1, x4_1, rfl, HA, HK1, HO_3, HB⟩ := hrel
    cases gk with
    | zero => exact absurd HA.out (by simp [handshakerref07_Cells.l0])
    | succ k1 =>
     have H := HA.out
     clear HA
     simp only [handshakerref07_Cells.l0] at H
     by_cases c5 : x4_1 < 64
     · rw [if_pos c5] at H
       have c5b0 : decide (x4_1 < 64) = true := decide_eq_true c5
       clear c5
       have H' := Aside0.mk H
       clear H
       go_wp2
       go_loopg [5, 6] k1 (fun kq v5 v6 w' => ∃ (x5_2 : Bool) (x6_2 : Int), v5 = .bool x5_2 ∧ v6 = .int .i64 x6_2 ∧ Aside0 (handshakerref07_Cells.l1 kq l0 x3_1 x4_1 x5_2 x6_2 = some r) ∧ Aside0 (kq ≤ k1) ∧ Aside0 (Kd.R (Kd.int .i64) 3 w' w.heap.size (fun _ => True) u3 x3_1) ∧ Aside0 (Below w.heap.size w w'))
       case atStart => exact ⟨(false), (0), (by first | rfl | (simp; done) | (simp [*]; done)), (by first | rfl | (simp; done) | (simp [*]; done)), H', ⟨Nat.le_refl _⟩, ⟨by (with_reducible repeat (first | apply Kd.R_alloc | apply Kd.R_drewN | apply Kd.R_drew)); exact HO_3.out⟩, ⟨by repeat (with_reducible first | exact HB.out | apply below_alloc | apply pw_below_drewN | apply below_drew1)⟩⟩
       case round =>
        clear H'
        try clear p2
        try clear c3
        try clear c3b0
        try clear c3b1
        try clear c5
        try clear c5b0
        try clear p2
        obtain ⟨x5_2, x6_2, rfl, rfl, HA, HK2, HO_3, HB⟩ := hrel
        cases gk with
        | zero => exact absurd HA.out (by simp [handshakerref07_Cells.l1])
        | succ k2 =>
         have H := HA.out
         clear HA
         simp only [handshakerref07_Cells.l1] at H
         by_cases c6 : x6_2 < (l0.length : Int)
         · rw [if_pos c6] at H
           have c6b0 : decide (x6_2 < (l0.length : Int)) = true := decide_eq_true c6
           clear c6
           by_cases c7 : x5_2 = true
           · subst c7
             have H1 : (handshakerref07_Cells.l1 k2 l0 x3_1 x4_1 true (wrap64 (x6_2 + 1))) = some r := by rw [if_pos rfl] at H; exact H
             clear H
             have H := H1
             clear H1
             have H' := Aside0.mk H
             clear H
             go_wp2
             go_roundg k2
             case measure => have := HK1.out; have := HK2.out; omega
             case rel => exact ⟨(true), (wrap64 (x6_2 + 1)), (by first | rfl | (simp; done) | (simp [*]; done)), (by first | rfl | (simp; done) | (simp [*]; done)), H', ⟨by have := HK1.out; have := HK2.out; omega⟩, ⟨by (with_reducible repeat (first | apply Kd.R_alloc | apply Kd.R_drewN | apply Kd.R_drew)); exact HO_3.out⟩, ⟨by repeat (with_reducible first | exact HB.out | apply below_alloc | apply pw_below_drewN | apply below_drew1)⟩⟩
           · replace c7 := Bool.eq_false_iff.mpr c7
             subst c7
             have H1 : (if 0 ≤ x6_2 then (if ((rd_T82 l0 x6_2).f0) = 2 then (handshakerref07_Cells.l1 k2 l0 x3_1 x4_1 (((rd_T82 l0 x6_2).f1) == x4_1) (wrap64 (x6_2 + 1))) else (handshakerref07_Cells.l1 k2 l0 x3_1 x4_1 false (wrap64 (x6_2 + 1)))) else (none)) = some r := by rw [if_neg (show ¬ (false = true) by decide)] at H; exact H
             clear H
             have H := H1
             clear H1
             by_cases c8 : 0 ≤ x6_2
             · rw [if_pos c8] at H
               have c8b0 : decide (0 ≤ x6_2) = true := decide_eq_true c8
               clear c8
               by_cases c9 : ((rd_T82 l0 x6_2).f0) = 2
               · rw [if_pos c9] at H
                 have c9b0 : (((rd_T82 l0 x6_2).f0) == 2) = true := beq_iff_eq.mpr c9
                 have c9b1 : (((rd_T82 l0 x6_2).f0) != 2) = false := bne_eq_false_iff_eq.mpr c9
                 clear c9
                 have H' := Aside0.mk H
                 clear H
                 have p232 : 0 ≤ (x6_2 : Int) := of_decide_eq_true (by first | (with_reducible assumption) | assumption)
                 have q232 : x6_2 < (l0.length : Int) := of_decide_eq_true (by first | (with_reducible assumption) | assumption)
                 obtain ⟨ad232, e232, hx232_0, hx232_1⟩ := at_T82 HR0.out x6_2 p232 q232
                 cases e232
                 replace hx232_0 := (HB.out.cell (World.block_lt_of_cell? w _ hx232_0)).trans hx232_0
                 replace hx232_1 := (HB.out.cell (World.block_lt_of_cell? w _ hx232_1)).trans hx232_1
                 replace p232 := eq_true p232
                 replace q232 := eq_true q232
                 have p233 : 0 ≤ (x6_2 : Int) := of_decide_eq_true (by first | (with_reducible assumption) | assumption)
                 have q233 : x6_2 < (l0.length : Int) := of_decide_eq_true (by first | (with_reducible assumption) | assumption)
                 obtain ⟨ad233, e233, hx233_0, hx233_1⟩ := at_T82 HR0.out x6_2 p233 q233
                 obtain rfl : ad232 = ad233 := (by injection e233)
                 replace hx233_0 := (HB.out.cell (World.block_lt_of_cell? w _ hx233_0)).trans hx233_0
                 replace hx233_1 := (HB.out.cell (World.block_lt_of_cell? w _ hx233_1)).trans hx233_1
                 replace p233 := eq_true p233
                 replace q233 := eq_true q233
                 go_wp2
                 go_roundg k2
                 case measure => have := HK1.out; have := HK2.out; omega
                 case rel => exact ⟨((((rd_T82 l0 x6_2).f1) == x4_1)), (wrap64 (x6_2 + 1)), (by first | rfl | (simp; done) | (simp [*]; done)), (by first | rfl | (simp; done) | (simp [*]; done)), H', ⟨by have := HK1.out; have := HK2.out; omega⟩, ⟨by (with_reducible repeat (first | apply Kd.R_alloc | apply Kd.R_drewN | apply Kd.R_drew)); exact HO_3.out⟩, ⟨by repeat (with_reducible first | exact HB.out | apply below_alloc | apply pw_below_drewN | apply below_drew1)⟩⟩
               · rw [if_neg c9] at H
                 have c9b0 : (((rd_T82 l0 x6_2).f0) == 2) = false := beq_eq_false_iff_ne.mpr c9
                 have c9b1 : (((rd_T82 l0 x6_2).f0) != 2) = true := bne_iff_ne.mpr c9
                 have H' := Aside0.mk H
                 clear H
                 have p232 : 0 ≤ (x6_2 : Int) := of_decide_eq_true (by first | (with_reducible assumption) | assumption)
                 have q232 : x6_2 < (l0.length : Int) := of_decide_eq_true (by first | (with_reducible assumption) | assumption)
                 obtain ⟨ad232, e232, hx232_0, hx232_1⟩ := at_T82 HR0.out x6_2 p232 q232
                 cases e232
                 replace hx232_0 := (HB.out.cell (World.block_lt_of_cell? w _ hx232_0)).trans hx232_0
                 replace hx232_1 := (HB.out.cell (World.block_lt_of_cell? w _ hx232_1)).trans hx232_1
                 replace p232 := eq_true p232
                 replace q232 := eq_true q232
                 go_wp2
                 go_roundg k2
                 case measure => have := HK1.out; have := HK2.out; omega
                 case rel => exact ⟨(false), (wrap64 (x6_2 + 1)), (by first | rfl | (simp; done) | (simp [*]; done)), (by first | rfl | (simp; done) | (simp [*]; done)), H', ⟨by have := HK1.out; have := HK2.out; omega⟩, ⟨by (with_reducible repeat (first | apply Kd.R_alloc | apply Kd.R_drewN | apply Kd.R_drew)); exact HO_3.out⟩, ⟨by repeat (with_reducible first | exact HB.out | apply below_alloc | apply pw_below_drewN | apply below_drew1)⟩⟩
             · rw [if_neg c8] at H
               exact absurd H (by simp)
         · rw [if_neg c6] at H
           have c6b0 : decide (x6_2 < (l0.length : Int)) = false := decide_eq_false c6
           clear c6
           by_cases c10 : x5_2 = true
           · subst c10
             have H1 : (if x3_1.length < 17592186044416 then (handshakerref07_Cells.l0 k2 l0 (x3_1 ++ [x4_1]) (wrap64 (x4_1 + 1))) else (none)) = some r := by rw [if_pos rfl] at H; exact H
             clear H
             have H := H1
             clear H1
             by_cases c11 : x3_1.length < 17592186044416
             · rw [if_pos c11] at H
               have LMc11 := Aside0.mk c11
               clear c11
               obtain ⟨y234, hy234⟩ : ∃ y_ : List Int, y_ = (x3_1 ++ [x4_1]) := ⟨_, rfl⟩
               replace H : (handshakerref07_Cells.l0 k2 l0 y234 (wrap64 (x4_1 + 1))) = some r := by first | (rw [hy234]; with_reducible exact H) | (have H2_ := (Option.bind_some _ _).symm.trans H; rw [hy234]; with_reducible exact H2_) | (have H2_ := (Option.bind_some _ _).symm.trans H; with_reducible exact H2_) | with_reducible exact H | (rw [hy234]; exact H) | exact H
               have Ny234 := Aside0.mk hy234
               clear hy234
               have H' := Aside0.mk H
               clear H
               go_wp2_with (first | ((with_reducible refine gate_builtin (b := .append) (xs := #[.tmp 39, .tmp 41]) rfl ?_); at_builtin; refine Kd.R_append (Kd.int .i64) (w0 := w) w.heap.size rfl (.tmp 39) (.tmp 41) 31 3 (.int .i64 0) 8 rfl Try.underlying31 info3 rfl (by decide) (by omega) u3 x3_1 x4_1 [.int .i64 x4_1] (fun _ => True) (fun _ => False) rfl rfl ?aP (fun _ hk => hk.elim) ?aF ?aO ?aB ?aS ?aL ?_; (case aP => exact rfl); (case aB => exact (by repeat (with_reducible first | exact HB.out | apply below_alloc | apply pw_below_drewN | apply below_drew1))); (case aF => exact (fun _ _ => trivial)); (case aO => exact (by (with_reducible repeat (first | apply Kd.R_alloc | apply Kd.R_drewN | apply Kd.R_drew)); exact HO_3.out)); (case aS => exact bsz_); (case aL => have := LMc11.out; omega); intro v235 w12 ho hb hg hat; rw [← Ny234.out] at ho; have n0_ := Aside0.mk (hb); have n1_ := Aside0.mk (ho); clear HB; clear HO_3; have HB := n0_; have HO236 := n1_; clear n0_ n1_; clear ho hb hg hat))
               go_roundg k2
               case measure => have := HK1.out; have := HK2.out; omega
               case rel => exact ⟨(y234), (wrap64 (x4_1 + 1)), (by first | rfl | (simp; done) | (simp [*]; done)), H', ⟨by have := HK1.out; have := HK2.out; omega⟩, ⟨by (with_reducible repeat (first | apply Kd.R_alloc | apply Kd.R_drewN | apply Kd.R_drew)); exact HO236.out⟩, ⟨by repeat (with_reducible first | exact HB.out | apply below_alloc | apply pw_below_drewN | apply below_drew1)⟩⟩
             · rw [if_neg c11] at H
               exact absurd H (by simp)
           · replace c10 := Bool.eq_false_iff.mpr c10
             subst c10
             have H1 : (handshakerref07_Cells.l0 k2 l0 x3_1 (wrap64 (x4_1 + 1))) = some r := by rw [if_neg (show ¬ (false = true) by decide)] at H; exact H
             clear H
             have H := H1
             clear H1
             have H' := Aside0.mk H
             clear H
             go_wp2
             go_roundg k2
             case measure => have := HK1.out; have := HK2.out; omega
             case rel => exact ⟨(x3_1), (wrap64 (x4_1 + 1)), (by first | rfl | (simp; done) | (simp [*]; done)), H', ⟨by have := HK1.out; have := HK2.out; omega⟩, ⟨by (with_reducible repeat (first | apply Kd.R_alloc | apply Kd.R_drewN | apply Kd.R_drew)); exact HO_3.out⟩, ⟨by repeat (with_reducible first | exact HB.out | apply below_alloc | apply pw_below_drewN | apply below_drew1)⟩⟩
     · rw [if_neg c5] at H
       have c5b0 : decide (x4_1 < 64) = false := decide_eq_false c5
       clear c5
       obtain rfl := Option.some.inj H
       go_wp2
       go_ret
       exact ⟨_, by first | rfl | (simp [errW_none, errW_some] <;> rfl) | (simp [*, errW_none, errW_some] <;> rfl), by (with_reducible repeat (first | apply Kd.R_alloc | apply Kd.R_drewN | apply Kd.R_drew)); exact HO_3.out, by repeat (with_reducible first | exact HB.out | apply below_alloc | apply pw_below_drewN | apply below_drew1)⟩
 · rw [if_neg c3] at H
   have c3b0 : (t231 == 0) = false := beq_eq_false_iff_ne.mpr c3
   have c3b1 : (t231 != 0) = true := bne_iff_ne.mpr c3
   obtain rfl := Option.some.inj H
   go_enter Try.func32, Try.ntmps32
   go_wp2_with (first | ((with_reducible refine gate_callee (f := 31) rfl ?_); refine goesL_ (some 8) rfl rfl Try.func31 (by kernel_rfl) rfl #[.slice A0 l0.length c0] rfl (by (try simp only [List.map_toArray, List.map_cons, List.map_nil]); first | done | rfl) ?_; (with_reducible refine (handshakerref07_Check.calls k _ _ l0 t231 _ ?side1 ?side2 A2.out).mono ?_); (case side1 => repeat (first | exact HR0.out | with_reducible first | refine Kd.C_alloc ?_ _ | refine Kd.C_drewN ?_ _ | refine Kd.C_drew ?_)); (case side2 => exact HC0.out); rintro e w13 ⟨rfl, hb⟩; refine ⟨_, rfl, ?_⟩; have n0_ := Aside0.mk (bst_ hb); clear HB; have HB := n0_; clear n0_; (try clear hb); (try clear hb2); (try clear hk); (try clear hi)))
   go_ret
   exact ⟨_, by first | rfl | (simp [errW_none, errW_some] <;> rfl) | (simp [*, errW_none, errW_some] <;> rfl), by first | exact Kd.R_nil _ _ _ _ _ | exact Kd.N_nil _ _ _ _ _ | exact Kd.V_nil _ _ _ _ _ | exact Kd.Q_nil _ _ _ _ _ | exact Kd.S_nil _ _ _ _ _, by repeat (with_reducible first | exact HB.out | apply below_alloc | apply pw_below_drewN | apply below_drew1)⟩

/-! ### handshakerref08_reckons: function 62 -/
def handshakerref08_reckons.f (k : Nat) (l0 : List (S82)) : Option (Bool) := (handshakerref07_Check.f k l0).bind fun t237 => (if t237 = 0 then ((handshakerref07_Cells.f k l0).bind fun t238 => (some ((t238.length : Int) == 0))) else (some false))
theorem handshakerref08_reckons.mono : ∀ a0 k, LeO (handshakerref08_reckons.f k a0) (handshakerref08_reckons.f (k + 1) a0) := by
 intro a0 k
 unfold handshakerref08_reckons.f
 repeat' first
  | (with_reducible exact handshakerref07_Cells.mono _ _)
  | (with_reducible exact handshakerref07_Check.mono _ _)
  | (with_reducible exact LeO.refl _)
  | (with_reducible exact LeO.none _)
  | (with_reducible refine LeO.ite ?_ ?_)
  | (with_reducible refine LeO.bind ?_ (fun _ => ?_))
  | exact handshakerref07_Cells.mono _ _
  | exact handshakerref07_Check.mono _ _
  | exact LeO.none _
  | refine LeO.ite ?_ ?_
  | refine LeO.bind ?_ (fun _ => ?_)
set_option maxHeartbeats 8000000 in
set_option maxRecDepth 100000 in
theorem handshakerref08_reckons.calls (k : Nat) (A0 : Option Addr) (c0 : Nat) (l0 : List (S82)) (r : Bool) (w : World) (hr0 : Kd.C k82 w A0 l0.length l0) (hc0 : l0.length ≤ c0) (h : handshakerref08_reckons.f k l0 = some r) :
 Calls Try.prog 62 #[.slice A0 l0.length c0] w fun e w' => e = .returned (.bool r) ∧ Below w.heap.size w w' := by
 have HR0 := Aside0.mk hr0
 have HC0 := Aside0.mk hc0
 clear hr0 hc0
 have HB := Aside0.mk (Below.refl w.heap.size w)
 have H : ((handshakerref07_Check.f k l0).bind fun t237 => (if t237 = 0 then ((handshakerref07_Cells.f k l0).bind fun t238 => (some ((t238.length : Int) == 0))) else (some false))) = some r := h
 clear h
 replace H := Option.bind_eq_some_iff.mp H
 obtain ⟨t237, A20, H⟩ := H
 replace H : (if t237 = 0 then ((handshakerref07_Cells.f k l0).bind fun t238 => (some ((t238.length : Int) == 0))) else (some false)) = some r := H
 have A2 := Aside0.mk A20
 clear A20
 by_cases c3 : t237 = 0
 · rw [if_pos c3] at H
   have c3b0 : (t237 == 0) = true := beq_iff_eq.mpr c3
   have c3b1 : (t237 != 0) = false := bne_eq_false_iff_eq.mpr c3
   clear c3
   replace H := Option.bind_eq_some_iff.mp H
   obtain ⟨t238, A40, H⟩ := H
   replace H : (some ((t238.length : Int) == 0)) = some r := H
   have A4 := Aside0.mk A40
   clear A40
   obtain rfl := Option.some.inj H
   go_enter Try.func62, Try.ntmps62
   go_wp2_with (first | ((with_reducible refine gate_callee (f := 31) rfl ?_); refine goesL_ (some 4) rfl rfl Try.func31 (by kernel_rfl) rfl #[.slice A0 l0.length c0] rfl (by (try simp only [List.map_toArray, List.map_cons, List.map_nil]); first | done | rfl) ?_; (with_reducible refine (handshakerref07_Check.calls k _ _ l0 t237 _ ?side1 ?side2 A2.out).mono ?_); (case side1 => repeat (first | exact HR0.out | with_reducible first | refine Kd.C_alloc ?_ _ | refine Kd.C_drewN ?_ _ | refine Kd.C_drew ?_)); (case side2 => exact HC0.out); rintro e w5 ⟨rfl, hb⟩; refine ⟨_, rfl, ?_⟩; have n0_ := Aside0.mk (bst_ hb); clear HB; have HB := n0_; clear n0_; (try clear hb); (try clear hb2); (try clear hk); (try clear hi)) | (go_at_call 32; (with_reducible refine (handshakerref07_Cells.calls k _ _ l0 t238 _ ?side1 ?side2 A4.out).mono ?_); (case side1 => repeat (first | exact (Kd.C_below HR0.out HB.out) | with_reducible first | refine Kd.C_alloc ?_ _ | refine Kd.C_drewN ?_ _ | refine Kd.C_drew ?_)); (case side2 => exact HC0.out); rintro e w6 ⟨v239, rfl, ho0, hb⟩; have n0_ := Aside0.mk (Kd.R_lower ho0 bsz_); have n1_ := Aside0.mk (bst_ hb); clear HB; have HO240 := n0_; have HB := n1_; clear n0_ n1_; (try clear hb); (try clear hb2); (try clear hk); (try clear hi); (try clear ho0); obtain ⟨Ao7, co7, eo7⟩ := Kd.R_slice HO240.out; subst eo7))
   go_ret
   exact ⟨by first | rfl | (simp [errW_none, errW_some] <;> rfl) | (simp [*, errW_none, errW_some] <;> rfl), by repeat (with_reducible first | exact HB.out | apply below_alloc | apply pw_below_drewN | apply below_drew1)⟩
 · rw [if_neg c3] at H
   have c3b0 : (t237 == 0) = false := beq_eq_false_iff_ne.mpr c3
   have c3b1 : (t237 != 0) = true := bne_iff_ne.mpr c3
   obtain rfl := Option.some.inj H
   go_enter Try.func62, Try.ntmps62
   go_wp2_with (first | ((with_reducible refine gate_callee (f := 31) rfl ?_); refine goesL_ (some 4) rfl rfl Try.func31 (by kernel_rfl) rfl #[.slice A0 l0.length c0] rfl (by (try simp only [List.map_toArray, List.map_cons, List.map_nil]); first | done | rfl) ?_; (with_reducible refine (handshakerref07_Check.calls k _ _ l0 t237 _ ?side1 ?side2 A2.out).mono ?_); (case side1 => repeat (first | exact HR0.out | with_reducible first | refine Kd.C_alloc ?_ _ | refine Kd.C_drewN ?_ _ | refine Kd.C_drew ?_)); (case side2 => exact HC0.out); rintro e w8 ⟨rfl, hb⟩; refine ⟨_, rfl, ?_⟩; have n0_ := Aside0.mk (bst_ hb); clear HB; have HB := n0_; clear n0_; (try clear hb); (try clear hb2); (try clear hk); (try clear hi)))
   go_ret
   exact ⟨by first | rfl | (simp [errW_none, errW_some] <;> rfl) | (simp [*, errW_none, errW_some] <;> rfl), by repeat (with_reducible first | exact HB.out | apply below_alloc | apply pw_below_drewN | apply below_drew1)⟩

end Go.Proofs.Ytbcpnbmegaodbaa.Ct
