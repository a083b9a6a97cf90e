-- PRINTED by print.py (a twelfth state) out of the translation. Not trusted: Lean checks it.
import Derived.Test.YtbcpnbmegaodbaaCtx0
import Derived.Test.YtbcpnbmegaodbaaCtx7
namespace Go.Proofs.Ytbcpnbmegaodbaa.Ct
open Go.Proofs.Ytbcpnbmegaodbaa.Ho
open Go.RowKit Go.Proofs.YtbcpnbmegaodbaaW.PrintWords Go.Proofs.YtbcpnbmegaodbaaW.PrintLast Go.Proofs.YtbcpnbmegaodbaaW.PrintMore
attribute [local go_sem] max2_int min2_int max_two min_two max_three min_three max_four min_four   -- for this text's walks alone
set_option linter.unusedVariables false
set_option linter.unusedSimpArgs false

/-! ### handshakerref08_Check: function 19 -/
def handshakerref08_Check.l0 : Nat → List (S66) → Int → Option (Int)
 | 0, _, _ => none
 | k + 1, x0, x3 => if x3 < (x0.length : Int) then (if 0 ≤ x3 then ((handshakerref08_one.f k ((rd_T66 x0 x3).f0) ((rd_T66 x0 x3).f1) ((rd_T66 x0 x3).f2) ((rd_T66 x0 x3).f3)).bind fun t254 => (if t254 = true then (handshakerref08_Check.l0 k x0 (wrap64 (x3 + 1))) else (some 1))) else (none)) else ((handshakerref08_well.f k x0 0 (x0.length : Int)).bind fun bt255 => (if bt255.2 = true then (if bt255.1 > 6 then (some 5) else (some 0)) else (some 2)))
def handshakerref08_Check.f (k : Nat) (l0 : List (S66)) : Option (Int) := if (l0.length : Int) > 24 then (some 1) else (handshakerref08_Check.l0 k l0 0)
theorem handshakerref08_Check.mono_l : ∀ k, (∀ y0 y1, LeO (handshakerref08_Check.l0 k y0 y1) (handshakerref08_Check.l0 (k + 1) y0 y1))
 | 0 => fun _ _ r h => by simp [handshakerref08_Check.l0] at h
 | k + 1 => by
  have ih0 := handshakerref08_Check.mono_l k
  · intro y0 y1
    unfold handshakerref08_Check.l0
    repeat' first
    | (with_reducible exact ih0 _ _)
    | (with_reducible exact handshakerref08_one.mono _ _ _ _ _)
    | (with_reducible exact handshakerref08_well.mono _ _ _ _)
    | (with_reducible exact LeO.refl _)
    | (with_reducible exact LeO.none _)
    | (with_reducible refine LeO.ite ?_ ?_)
    | (with_reducible refine LeO.bind ?_ (fun _ => ?_))
    | exact ih0 _ _
    | exact handshakerref08_one.mono _ _ _ _ _
    | exact handshakerref08_well.mono _ _ _ _
    | exact LeO.none _
    | refine LeO.ite ?_ ?_
    | refine LeO.bind ?_ (fun _ => ?_)
theorem handshakerref08_Check.mono : ∀ a0 k, LeO (handshakerref08_Check.f k a0) (handshakerref08_Check.f (k + 1) a0) := by
 intro a0 k
 have ih0 := handshakerref08_Check.mono_l k
 unfold handshakerref08_Check.f
 repeat' first
  | (with_reducible exact ih0 _ _)
  | (with_reducible exact handshakerref08_one.mono _ _ _ _ _)
  | (with_reducible exact handshakerref08_well.mono _ _ _ _)
  | (with_reducible exact LeO.refl _)
  | (with_reducible exact LeO.none _)
  | (with_reducible refine LeO.ite ?_ ?_)
  | (with_reducible refine LeO.bind ?_ (fun _ => ?_))
  | exact ih0 _ _
  | exact handshakerref08_one.mono _ _ _ _ _
  | exact handshakerref08_well.mono _ _ _ _
  | exact LeO.none _
  | refine LeO.ite ?_ ?_
  | refine LeO.bind ?_ (fun _ => ?_)
set_option maxHeartbeats 8000000 in
set_option maxRecDepth 100000 in
theorem handshakerref08_Check.calls (k : Nat) (A0 : Option Addr) (c0 : Nat) (l0 : List (S66)) (r : Int) (w : World) (hr0 : Kd.C k66 w A0 l0.length l0) (hc0 : l0.length ≤ c0) (h : handshakerref08_Check.f k l0 = some r) :
 Calls Try.prog 19 #[.slice A0 l0.length c0] w fun e w' => e = .returned (.int .i64 r) ∧ Below w.heap.size w w' := by
 have hu66 := Try.underlying66
 have HR0 := Aside0.mk hr0
 have HC0 := Aside0.mk hc0
 clear hr0 hc0
 have HB := Aside0.mk (Below.refl w.heap.size w)
 have H : (if (l0.length : Int) > 24 then (some 1) else (handshakerref08_Check.l0 k l0 0)) = some r := h
 clear h
 by_cases c2 : (l0.length : Int) > 24
 · rw [if_pos c2] at H
   have c2b0 : decide (24 < (l0.length : Int)) = true := decide_eq_true c2
   have c2b1 : decide (24 < l0.length) = true := decide_eq_true (by omega)
   clear c2
   obtain rfl := Option.some.inj H
   go_enter Try.func19, Try.ntmps19
   go_wp2
   go_ret
   exact ⟨by first | rfl | (simp [errW_none, errW_some] <;> rfl) | (simp [*, errW_none, errW_some] <;> rfl), by repeat (with_reducible first | exact HB.out | apply below_alloc | apply pw_below_drewN | apply below_drew1)⟩
 · rw [if_neg c2] at H
   have c2b0 : decide (24 < (l0.length : Int)) = false := decide_eq_false c2
   have c2b1 : decide (24 < l0.length) = false := decide_eq_false (by omega)
   clear c2
   have H' := Aside0.mk H
   clear H
   go_enter Try.func19, Try.ntmps19
   go_wp2
   go_loopg [3] k (fun kq v3 w' => ∃ (x3_1 : Int), v3 = .int .i64 x3_1 ∧ Aside0 (handshakerref08_Check.l0 kq l0 x3_1 = some r) ∧ Aside0 (kq ≤ k) ∧ Aside0 (Below w.heap.size w w'))
   case atStart => exact ⟨(0), (by first | rfl | (simp; done) | (simp [*]; done)), H', ⟨Nat.le_refl _⟩, ⟨by repeat (with_reducible first | exact HB.out | apply below_alloc | apply pw_below_drewN | apply below_drew1)⟩⟩
   case round =>
    clear H'
    try clear c1
    try clear c2
    try clear c2b0
    try clear c2b1
    try clear p2
    obtain ⟨x3_1, rfl, HA, HK1, HB⟩ := hrel
    cases gk with
    | zero => exact absurd HA.out (by simp [handshakerref08_Check.l0])
    | succ k1 =>
     have H := HA.out
     clear HA
     simp only [handshakerref08_Check.l0] at H
     by_cases c3 : x3_1 < (l0.length : Int)
     · rw [if_pos c3] at H
       have c3b0 : decide (x3_1 < (l0.length : Int)) = true := decide_eq_true c3
       clear c3
       by_cases c4 : 0 ≤ x3_1
       · rw [if_pos c4] at H
         have c4b0 : decide (0 ≤ x3_1) = true := decide_eq_true c4
         clear c4
         replace H := Option.bind_eq_some_iff.mp H
         obtain ⟨t254, A50, H⟩ := H
         replace H : (if t254 = true then (handshakerref08_Check.l0 k1 l0 (wrap64 (x3_1 + 1))) else (some 1)) = some r := H
         have A5 := Aside0.mk A50
         clear A50
         by_cases c6 : t254 = true
         · subst c6
           have H1 : (handshakerref08_Check.l0 k1 l0 (wrap64 (x3_1 + 1))) = some r := by rw [if_pos rfl] at H; exact H
           clear H
           have H := H1
           clear H1
           have H' := Aside0.mk H
           clear H
           have p253 : 0 ≤ (x3_1 : Int) := of_decide_eq_true (by first | (with_reducible assumption) | assumption)
           have q253 : x3_1 < (l0.length : Int) := of_decide_eq_true (by first | (with_reducible assumption) | assumption)
           obtain ⟨ad253, A253_3, c253_3, e253, hx253_0, hx253_1, hx253_2, hx253_3, hl253_3, hi253_3⟩ := at_T66 HR0.out x3_1 p253 q253
           cases e253
           replace hx253_0 := (HB.out.cell (World.block_lt_of_cell? w _ hx253_0)).trans hx253_0
           replace hx253_1 := (HB.out.cell (World.block_lt_of_cell? w _ hx253_1)).trans hx253_1
           replace hx253_2 := (HB.out.cell (World.block_lt_of_cell? w _ hx253_2)).trans hx253_2
           replace hx253_3 := (HB.out.cell (World.block_lt_of_cell? w _ hx253_3)).trans hx253_3
           have HR253_3 := Aside0.mk hi253_3
           have HC253_3 := Aside0.mk hl253_3
           clear hi253_3 hl253_3
           replace p253 := eq_true p253
           replace q253 := eq_true q253
           go_wp2_with (first | ((with_reducible refine gate_callee (f := 40) rfl ?_); refine goesL_ (some 20) rfl rfl Try.func40 (by kernel_rfl) rfl #[.agg #[.int .i64 ((rd_T66 l0 x3_1).f0), .int .i64 ((rd_T66 l0 x3_1).f1), .int .i64 ((rd_T66 l0 x3_1).f2), .slice A253_3 ((rd_T66 l0 x3_1).f3).length c253_3]] rfl (by (try simp only [List.map_toArray, List.map_cons, List.map_nil]); first | done | rfl) ?_; (with_reducible refine (handshakerref08_one.calls k1 ((rd_T66 l0 x3_1).f0) ((rd_T66 l0 x3_1).f1) ((rd_T66 l0 x3_1).f2) _ _ ((rd_T66 l0 x3_1).f3) true _ ?side1 ?side2 A5.out).mono ?_); (case side1 => repeat (first | exact (Kd.C_below HR253_3.out HB.out) | with_reducible first | refine Kd.C_alloc ?_ _ | refine Kd.C_drewN ?_ _ | refine Kd.C_drew ?_)); (case side2 => exact HC253_3.out); rintro e w7 ⟨rfl, hb⟩; refine ⟨_, rfl, ?_⟩; have n0_ := Aside0.mk (bst_ hb); clear HB; have HB := n0_; clear n0_; (try clear hb); (try clear hb2); (try clear hk); (try clear hi)))
           go_roundg k1
           case measure => have := HK1.out; omega
           case rel => exact ⟨(wrap64 (x3_1 + 1)), (by first | rfl | (simp; done) | (simp [*]; done)), H', ⟨by have := HK1.out; omega⟩, ⟨by repeat (with_reducible first | exact HB.out | apply below_alloc | apply pw_below_drewN | apply below_drew1)⟩⟩
         · replace c6 := Bool.eq_false_iff.mpr c6
           subst c6
           have H1 : (some 1) = some r := by rw [if_neg (show ¬ (false = true) by decide)] at H; exact H
           clear H
           have H := H1
           clear H1
           obtain rfl := Option.some.inj H
           have p253 : 0 ≤ (x3_1 : Int) := of_decide_eq_true (by first | (with_reducible assumption) | assumption)
           have q253 : x3_1 < (l0.length : Int) := of_decide_eq_true (by first | (with_reducible assumption) | assumption)
           obtain ⟨ad253, A253_3, c253_3, e253, hx253_0, hx253_1, hx253_2, hx253_3, hl253_3, hi253_3⟩ := at_T66 HR0.out x3_1 p253 q253
           cases e253
           replace hx253_0 := (HB.out.cell (World.block_lt_of_cell? w _ hx253_0)).trans hx253_0
           replace hx253_1 := (HB.out.cell (World.block_lt_of_cell? w _ hx253_1)).trans hx253_1
           replace hx253_2 := (HB.out.cell (World.block_lt_of_cell? w _ hx253_2)).trans hx253_2
           replace hx253_3 := (HB.out.cell (World.block_lt_of_cell? w _ hx253_3)).trans hx253_3
           have HR253_3 := Aside0.mk hi253_3
           have HC253_3 := Aside0.mk hl253_3
           clear hi253_3 hl253_3
           replace p253 := eq_true p253
           replace q253 := eq_true q253
           go_wp2_with (first | ((with_reducible refine gate_callee (f := 40) rfl ?_); refine goesL_ (some 20) rfl rfl Try.func40 (by kernel_rfl) rfl #[.agg #[.int .i64 ((rd_T66 l0 x3_1).f0), .int .i64 ((rd_T66 l0 x3_1).f1), .int .i64 ((rd_T66 l0 x3_1).f2), .slice A253_3 ((rd_T66 l0 x3_1).f3).length c253_3]] rfl (by (try simp only [List.map_toArray, List.map_cons, List.map_nil]); first | done | rfl) ?_; (with_reducible refine (handshakerref08_one.calls k1 ((rd_T66 l0 x3_1).f0) ((rd_T66 l0 x3_1).f1) ((rd_T66 l0 x3_1).f2) _ _ ((rd_T66 l0 x3_1).f3) false _ ?side1 ?side2 A5.out).mono ?_); (case side1 => repeat (first | exact (Kd.C_below HR253_3.out HB.out) | with_reducible first | refine Kd.C_alloc ?_ _ | refine Kd.C_drewN ?_ _ | refine Kd.C_drew ?_)); (case side2 => exact HC253_3.out); rintro e w8 ⟨rfl, hb⟩; refine ⟨_, rfl, ?_⟩; have n0_ := Aside0.mk (bst_ hb); clear HB; have HB := n0_; clear n0_; (try clear hb); (try clear hb2); (try clear hk); (try clear hi)))
           go_ret
           exact ⟨by first | rfl | (simp [errW_none, errW_some] <;> rfl) | (simp [*, errW_none, errW_some] <;> rfl), by repeat (with_reducible first | exact HB.out | apply below_alloc | apply pw_below_drewN | apply below_drew1)⟩
       · rw [if_neg c4] at H
         exact absurd H (by simp)
     · rw [if_neg c3] at H
       have c3b0 : decide (x3_1 < (l0.length : Int)) = false := decide_eq_false c3
       clear c3
       replace H := Option.bind_eq_some_iff.mp H
       obtain ⟨⟨t255, t256⟩, A90, H⟩ := H
       replace H : (if t256 = true then (if t255 > 6 then (some 5) else (some 0)) else (some 2)) = some r := H
       have A9 := Aside0.mk A90
       clear A90
       by_cases c10 : t256 = true
       · subst c10
         have H1 : (if t255 > 6 then (some 5) else (some 0)) = some r := by rw [if_pos rfl] at H; exact H
         clear H
         have H := H1
         clear H1
         by_cases c11 : t255 > 6
         · rw [if_pos c11] at H
           have c11b0 : decide (6 < t255) = true := decide_eq_true c11
           clear c11
           obtain rfl := Option.some.inj H
           go_wp2_with (first | ((with_reducible refine gate_callee (f := 41) rfl ?_); refine goesL_ (some 27) rfl rfl Try.func41 (by kernel_rfl) rfl #[.slice A0 l0.length c0, .int .i64 0, .int .i64 (l0.length : Int)] rfl (by (try simp only [List.map_toArray, List.map_cons, List.map_nil]); first | done | rfl) ?_; (with_reducible refine (handshakerref08_well.calls k1 _ _ l0 0 (l0.length : Int) t255 true _ ?side1 ?side2 A9.out).mono ?_); (case side1 => repeat (first | exact (Kd.C_below HR0.out HB.out) | with_reducible first | refine Kd.C_alloc ?_ _ | refine Kd.C_drewN ?_ _ | refine Kd.C_drew ?_)); (case side2 => exact HC0.out); rintro e w12 ⟨rfl, hb⟩; refine ⟨_, rfl, ?_⟩; have n0_ := Aside0.mk (bst_ hb); clear HB; have HB := n0_; clear n0_; (try clear hb); (try clear hb2); (try clear hk); (try clear hi)))
           go_ret
           exact ⟨by first | rfl | (simp [errW_none, errW_some] <;> rfl) | (simp [*, errW_none, errW_some] <;> rfl), by repeat (with_reducible first | exact HB.out | apply below_alloc | apply pw_below_drewN | apply below_drew1)⟩
         · rw [if_neg c11] at H
           have c11b0 : decide (6 < t255) = false := decide_eq_false c11
           clear c11
           obtain rfl := Option.some.inj H
           go_wp2_with (first | ((with_reducible refine gate_callee (f := 41) rfl ?_); refine goesL_ (some 27) rfl rfl Try.func41 (by kernel_rfl) rfl #[.slice A0 l0.length c0, .int .i64 0, .int .i64 (l0.length : Int)] rfl (by (try simp only [List.map_toArray, List.map_cons, List.map_nil]); first | done | rfl) ?_; (with_reducible refine (handshakerref08_well.calls k1 _ _ l0 0 (l0.length : Int) t255 true _ ?side1 ?side2 A9.out).mono ?_); (case side1 => repeat (first | exact (Kd.C_below HR0.out HB.out) | with_reducible first | refine Kd.C_alloc ?_ _ | refine Kd.C_drewN ?_ _ | refine Kd.C_drew ?_)); (case side2 => exact HC0.out); rintro e w13 ⟨rfl, hb⟩; refine ⟨_, rfl, ?_⟩; have n0_ := Aside0.mk (bst_ hb); clear HB; have HB := n0_; clear n0_; (try clear hb); (try clear hb2); (try clear hk); (try clear hi)))
           go_ret
           exact ⟨by first | rfl | (simp [errW_none, errW_some] <;> rfl) | (simp [*, errW_none, errW_some] <;> rfl), by repeat (with_reducible first | exact HB.out | apply below_alloc | apply pw_below_drewN | apply below_drew1)⟩
       · replace c10 := Bool.eq_false_iff.mpr c10
         subst c10
         have H1 : (some 2) = some r := by rw [if_neg (show ¬ (false = true) by decide)] at H; exact H
         clear H
         have H := H1
         clear H1
         obtain rfl := Option.some.inj H
         go_wp2_with (first | ((with_reducible refine gate_callee (f := 41) rfl ?_); refine goesL_ (some 27) rfl rfl Try.func41 (by kernel_rfl) rfl #[.slice A0 l0.length c0, .int .i64 0, .int .i64 (l0.length : Int)] rfl (by (try simp only [List.map_toArray, List.map_cons, List.map_nil]); first | done | rfl) ?_; (with_reducible refine (handshakerref08_well.calls k1 _ _ l0 0 (l0.length : Int) t255 false _ ?side1 ?side2 A9.out).mono ?_); (case side1 => repeat (first | exact (Kd.C_below HR0.out HB.out) | with_reducible first | refine Kd.C_alloc ?_ _ | refine Kd.C_drewN ?_ _ | refine Kd.C_drew ?_)); (case side2 => exact HC0.out); rintro e w14 ⟨rfl, hb⟩; refine ⟨_, rfl, ?_⟩; have n0_ := Aside0.mk (bst_ hb); clear HB; have HB := n0_; clear n0_; (try clear hb); (try clear hb2); (try clear hk); (try clear hi)))
         go_ret
         exact ⟨by first | rfl | (simp [errW_none, errW_some] <;> rfl) | (simp [*, errW_none, errW_some] <;> rfl), by repeat (with_reducible first | exact HB.out | apply below_alloc | apply pw_below_drewN | apply below_drew1)⟩

/-! ### handshakerref08_Deep: function 21 -/
def handshakerref08_Deep.f (k : Nat) (l0 : List (S66)) : Option (Int) := (handshakerref08_Check.f k l0).bind fun t257 => (if t257 = 0 then ((handshakerref08_well.f k l0 0 (l0.length : Int)).bind fun bt258 => (some bt258.1)) else (some 0))
theorem handshakerref08_Deep.mono : ∀ a0 k, LeO (handshakerref08_Deep.f k a0) (handshakerref08_Deep.f (k + 1) a0) := by
 intro a0 k
 unfold handshakerref08_Deep.f
 repeat' first
  | (with_reducible exact handshakerref08_Check.mono _ _)
  | (with_reducible exact handshakerref08_well.mono _ _ _ _)
  | (with_reducible exact LeO.refl _)
  | (with_reducible exact LeO.none _)
  | (with_reducible refine LeO.ite ?_ ?_)
  | (with_reducible refine LeO.bind ?_ (fun _ => ?_))
  | exact handshakerref08_Check.mono _ _
  | exact handshakerref08_well.mono _ _ _ _
  | exact LeO.none _
  | refine LeO.ite ?_ ?_
  | refine LeO.bind ?_ (fun _ => ?_)
set_option maxHeartbeats 8000000 in
set_option maxRecDepth 100000 in
theorem handshakerref08_Deep.calls (k : Nat) (A0 : Option Addr) (c0 : Nat) (l0 : List (S66)) (r : Int) (w : World) (hr0 : Kd.C k66 w A0 l0.length l0) (hc0 : l0.length ≤ c0) (h : handshakerref08_Deep.f k l0 = some r) :
 Calls Try.prog 21 #[.slice A0 l0.length c0] w fun e w' => e = .returned (.int .i64 r) ∧ Below w.heap.size w w' := by
 have HR0 := Aside0.mk hr0
 have HC0 := Aside0.mk hc0
 clear hr0 hc0
 have HB := Aside0.mk (Below.refl w.heap.size w)
 have H : ((handshakerref08_Check.f k l0).bind fun t257 => (if t257 = 0 then ((handshakerref08_well.f k l0 0 (l0.length : Int)).bind fun bt258 => (some bt258.1)) else (some 0))) = some r := h
 clear h
 replace H := Option.bind_eq_some_iff.mp H
 obtain ⟨t257, A20, H⟩ := H
 replace H : (if t257 = 0 then ((handshakerref08_well.f k l0 0 (l0.length : Int)).bind fun bt258 => (some bt258.1)) else (some 0)) = some r := H
 have A2 := Aside0.mk A20
 clear A20
 by_cases c3 : t257 = 0
 · rw [if_pos c3] at H
   have c3b0 : (t257 == 0) = true := beq_iff_eq.mpr c3
   have c3b1 : (t257 != 0) = false := bne_eq_false_iff_eq.mpr c3
   clear c3
   replace H := Option.bind_eq_some_iff.mp H
   obtain ⟨⟨t258, t259⟩, A40, H⟩ := H
   replace H : (some t258) = some r := H
   have A4 := Aside0.mk A40
   clear A40
   obtain rfl := Option.some.inj H
   go_enter Try.func21, Try.ntmps21
   go_wp2_with (first | ((with_reducible refine gate_callee (f := 19) rfl ?_); refine goesL_ (some 6) rfl rfl Try.func19 (by kernel_rfl) rfl #[.slice A0 l0.length c0] rfl (by (try simp only [List.map_toArray, List.map_cons, List.map_nil]); first | done | rfl) ?_; (with_reducible refine (handshakerref08_Check.calls k _ _ l0 t257 _ ?side1 ?side2 A2.out).mono ?_); (case side1 => repeat (first | exact HR0.out | with_reducible first | refine Kd.C_alloc ?_ _ | refine Kd.C_drewN ?_ _ | refine Kd.C_drew ?_)); (case side2 => exact HC0.out); rintro e w5 ⟨rfl, hb⟩; refine ⟨_, rfl, ?_⟩; have n0_ := Aside0.mk (bst_ hb); clear HB; have HB := n0_; clear n0_; (try clear hb); (try clear hb2); (try clear hk); (try clear hi)) | ((with_reducible refine gate_callee (f := 41) rfl ?_); refine goesL_ (some 12) rfl rfl Try.func41 (by kernel_rfl) rfl #[.slice A0 l0.length c0, .int .i64 0, .int .i64 (l0.length : Int)] rfl (by (try simp only [List.map_toArray, List.map_cons, List.map_nil]); first | done | rfl) ?_; (with_reducible refine (handshakerref08_well.calls k _ _ l0 0 (l0.length : Int) t258 t259 _ ?side1 ?side2 A4.out).mono ?_); (case side1 => repeat (first | exact (Kd.C_below HR0.out HB.out) | with_reducible first | refine Kd.C_alloc ?_ _ | refine Kd.C_drewN ?_ _ | refine Kd.C_drew ?_)); (case side2 => exact HC0.out); rintro e w6 ⟨rfl, hb⟩; refine ⟨_, rfl, ?_⟩; have n0_ := Aside0.mk (bst_ hb); clear HB; have HB := n0_; clear n0_; (try clear hb); (try clear hb2); (try clear hk); (try clear hi)))
   go_ret
   exact ⟨by first | rfl | (simp [errW_none, errW_some] <;> rfl) | (simp [*, errW_none, errW_some] <;> rfl), by repeat (with_reducible first | exact HB.out | apply below_alloc | apply pw_below_drewN | apply below_drew1)⟩
 · rw [if_neg c3] at H
   have c3b0 : (t257 == 0) = false := beq_eq_false_iff_ne.mpr c3
   have c3b1 : (t257 != 0) = true := bne_iff_ne.mpr c3
   obtain rfl := Option.some.inj H
   go_enter Try.func21, Try.ntmps21
   go_wp2_with (first | ((with_reducible refine gate_callee (f := 19) rfl ?_); refine goesL_ (some 6) rfl rfl Try.func19 (by kernel_rfl) rfl #[.slice A0 l0.length c0] rfl (by (try simp only [List.map_toArray, List.map_cons, List.map_nil]); first | done | rfl) ?_; (with_reducible refine (handshakerref08_Check.calls k _ _ l0 t257 _ ?side1 ?side2 A2.out).mono ?_); (case side1 => repeat (first | exact HR0.out | with_reducible first | refine Kd.C_alloc ?_ _ | refine Kd.C_drewN ?_ _ | refine Kd.C_drew ?_)); (case side2 => exact HC0.out); rintro e w7 ⟨rfl, hb⟩; refine ⟨_, rfl, ?_⟩; have n0_ := Aside0.mk (bst_ hb); clear HB; have HB := n0_; clear n0_; (try clear hb); (try clear hb2); (try clear hk); (try clear hi)))
   go_ret
   exact ⟨by first | rfl | (simp [errW_none, errW_some] <;> rfl) | (simp [*, errW_none, errW_some] <;> rfl), by repeat (with_reducible first | exact HB.out | apply below_alloc | apply pw_below_drewN | apply below_drew1)⟩

/-! ### handshakerref08_Cells: function 24 -/
mutual
def handshakerref08_Cells.l0 : Nat → List (S66) → List Int → Int → Option (List Int)
 | 0, _, _, _ => none
 | k + 1, x0, x3, x4 => if x4 < 64 then (handshakerref08_Cells.l1 k x0 x3 x4 false 0) else (some x3)
def handshakerref08_Cells.l1 : Nat → List (S66) → List Int → Int → Bool → Int → Option (List Int)
 | 0, _, _, _, _, _ => none
 | k + 1, x0, x3, x4, x5, x6 => if x6 < (x0.length : Int) then (if x5 = true then (handshakerref08_Cells.l1 k x0 x3 x4 true (wrap64 (x6 + 1))) else (if 0 ≤ x6 then (if ((rd_T66 x0 x6).f0) = 1 then (if ((rd_T66 x0 x6).f2) = x4 then (handshakerref08_Cells.l1 k x0 x3 x4 true (wrap64 (x6 + 1))) else (if ((rd_T66 x0 x6).f0) = 3 then (handshakerref08_Cells.l1 k x0 x3 x4 (((rd_T66 x0 x6).f1) == x4) (wrap64 (x6 + 1))) else (handshakerref08_Cells.l1 k x0 x3 x4 false (wrap64 (x6 + 1))))) else (if ((rd_T66 x0 x6).f0) = 3 then (handshakerref08_Cells.l1 k x0 x3 x4 (((rd_T66 x0 x6).f1) == x4) (wrap64 (x6 + 1))) else (handshakerref08_Cells.l1 k x0 x3 x4 false (wrap64 (x6 + 1))))) else (none))) else (if x5 = true then (if x3.length < 17592186044416 then (handshakerref08_Cells.l0 k x0 (x3 ++ [x4]) (wrap64 (x4 + 1))) else (none)) else (handshakerref08_Cells.l0 k x0 x3 (wrap64 (x4 + 1))))
end
def handshakerref08_Cells.f (k : Nat) (l0 : List (S66)) : Option (List Int) := (handshakerref08_Check.f k l0).bind fun t260 => (if t260 = 0 then (handshakerref08_Cells.l0 k l0 ([] : List Int) 0) else (some ([] : List Int)))
theorem handshakerref08_Cells.mono_l : ∀ k, (∀ y0 y1 y2, LeO (handshakerref08_Cells.l0 k y0 y1 y2) (handshakerref08_Cells.l0 (k + 1) y0 y1 y2)) ∧ (∀ y0 y1 y2 y3 y4, LeO (handshakerref08_Cells.l1 k y0 y1 y2 y3 y4) (handshakerref08_Cells.l1 (k + 1) y0 y1 y2 y3 y4))
 | 0 => ⟨fun _ _ _ r h => by simp [handshakerref08_Cells.l0] at h, fun _ _ _ _ _ r h => by simp [handshakerref08_Cells.l1] at h⟩
 | k + 1 => by
  obtain ⟨ih0, ih1⟩ := handshakerref08_Cells.mono_l k
  refine ⟨?_, ?_⟩
  · intro y0 y1 y2
    unfold handshakerref08_Cells.l0
    repeat' first
    | (with_reducible exact ih0 _ _ _)
    | (with_reducible exact ih1 _ _ _ _ _)
    | (with_reducible exact handshakerref08_Check.mono _ _)
    | (with_reducible exact LeO.refl _)
    | (with_reducible exact LeO.none _)
    | (with_reducible refine LeO.ite ?_ ?_)
    | (with_reducible refine LeO.bind ?_ (fun _ => ?_))
    | exact ih0 _ _ _
    | exact ih1 _ _ _ _ _
    | exact handshakerref08_Check.mono _ _
    | exact LeO.none _
    | refine LeO.ite ?_ ?_
    | refine LeO.bind ?_ (fun _ => ?_)
  · intro y0 y1 y2 y3 y4
    unfold handshakerref08_Cells.l1
    repeat' first
    | (with_reducible exact ih0 _ _ _)
    | (with_reducible exact ih1 _ _ _ _ _)
    | (with_reducible exact handshakerref08_Check.mono _ _)
    | (with_reducible exact LeO.refl _)
    | (with_reducible exact LeO.none _)
    | (with_reducible refine LeO.ite ?_ ?_)
    | (with_reducible refine LeO.bind ?_ (fun _ => ?_))
    | exact ih0 _ _ _
    | exact ih1 _ _ _ _ _
    | exact handshakerref08_Check.mono _ _
    | exact LeO.none _
    | refine LeO.ite ?_ ?_
    | refine LeO.bind ?_ (fun _ => ?_)
theorem handshakerref08_Cells.mono : ∀ a0 k, LeO (handshakerref08_Cells.f k a0) (handshakerref08_Cells.f (k + 1) a0) := by
 intro a0 k
 obtain ⟨ih0, ih1⟩ := handshakerref08_Cells.mono_l k
 unfold handshakerref08_Cells.f
 repeat' first
  | (with_reducible exact ih0 _ _ _)
  | (with_reducible exact ih1 _ _ _ _ _)
  | (with_reducible exact handshakerref08_Check.mono _ _)
  | (with_reducible exact LeO.refl _)
  | (with_reducible exact LeO.none _)
  | (with_reducible refine LeO.ite ?_ ?_)
  | (with_reducible refine LeO.bind ?_ (fun _ => ?_))
  | exact ih0 _ _ _
  | exact ih1 _ _ _ _ _
  | exact handshakerref08_Check.mono _ _
  | exact LeO.none _
  | refine LeO.ite ?_ ?_
  | refine LeO.bind ?_ (fun _ => ?_)
set_option maxHeartbeats 8000000 in
set_option maxRecDepth 100000 in
theorem handshakerref08_Cells.calls (k : Nat) (A0 : Option Addr) (c0 : Nat) (l0 : List (S66)) (r : List Int) (w : World) (hr0 : Kd.C k66 w A0 l0.length l0) (hc0 : l0.length ≤ c0) (h : handshakerref08_Cells.f k l0 = some r) :
 Calls Try.prog 24 #[.slice A0 l0.length c0] w fun e w' => ∃ v0_ : Value, e = .returned (v0_) ∧ Kd.R (Kd.int .i64) 3 w' w.heap.size (fun _ => True) v0_ r ∧ Below w.heap.size w w' := by
 have HR0 := Aside0.mk hr0
 have HC0 := Aside0.mk hc0
 clear hr0 hc0
 have HB := Aside0.mk (Below.refl w.heap.size w)
 have H : ((handshakerref08_Check.f k l0).bind fun t260 => (if t260 = 0 then (handshakerref08_Cells.l0 k l0 ([] : List Int) 0) else (some ([] : List Int)))) = some r := h
 clear h
 replace H := Option.bind_eq_some_iff.mp H
 obtain ⟨t260, A20, H⟩ := H
 replace H : (if t260 = 0 then (handshakerref08_Cells.l0 k l0 ([] : List Int) 0) else (some ([] : List Int))) = some r := H
 have A2 := Aside0.mk A20
 clear A20
 by_cases c3 : t260 = 0
 · rw [if_pos c3] at H
   have c3b0 : (t260 == 0) = true := beq_iff_eq.mpr c3
   have c3b1 : (t260 != 0) = false := bne_eq_false_iff_eq.mpr c3
   clear c3
   have H' := Aside0.mk H
   clear H
   go_enter Try.func24, Try.ntmps24
   go_wp2_with (first | ((with_reducible refine gate_callee (f := 19) rfl ?_); refine goesL_ (some 8) rfl rfl Try.func19 (by kernel_rfl) rfl #[.slice A0 l0.length c0] rfl (by (try simp only [List.map_toArray, List.map_cons, List.map_nil]); first | done | rfl) ?_; (with_reducible refine (handshakerref08_Check.calls k _ _ l0 t260 _ ?side1 ?side2 A2.out).mono ?_); (case side1 => repeat (first | exact HR0.out | with_reducible first | refine Kd.C_alloc ?_ _ | refine Kd.C_drewN ?_ _ | refine Kd.C_drew ?_)); (case side2 => exact HC0.out); rintro e w4 ⟨rfl, hb⟩; refine ⟨_, rfl, ?_⟩; have n0_ := Aside0.mk (bst_ hb); clear HB; have HB := n0_; clear n0_; (try clear hb); (try clear hb2); (try clear hk); (try clear hi)))
   go_loopg [3, 4] k (fun kq v3 v4 w' => ∃ (x3_1 : List Int) (x4_1 : Int), v4 = .int .i64 x4_1 ∧ Aside0 (handshakerref08_Cells.l0 kq l0 x3_1 x4_1 = some r) ∧ Aside0 (kq ≤ k) ∧ Aside0 (Kd.R (Kd.int .i64) 3 w' w.heap.size (fun _ => True) v3 x3_1) ∧ Aside0 (Below w.heap.size w w'))
   case atStart => exact ⟨(([] : List Int)), (0), (by first | rfl | (simp; done) | (simp [*]; done)), H', ⟨Nat.le_refl _⟩, ⟨by first | exact Kd.R_nil _ _ _ _ _ | exact Kd.N_nil _ _ _ _ _ | exact Kd.V_nil _ _ _ _ _ | exact Kd.Q_nil _ _ _ _ _ | exact Kd.S_nil _ _ _ _ _⟩, ⟨by repeat (with_reducible first | exact HB.out | apply below_alloc | apply pw_below_drewN | apply below_drew1)⟩⟩
   case round =>
    clear H'
    try clear c1
    try clear c2
    try clear p2
    try clear c3
    try clear c3b0
    try clear c3b1
    obtain ⟨x3_1, x4_1, rfl, HA, HK1, HO_3, HB⟩ := hrel
    cases gk with
    | zero => exact absurd HA.out (by simp [handshakerref08_Cells.l0])
    | succ k1 =>
     have H := HA.out
     clear HA
     simp only [handshakerref08_Cells.l0] at H
     by_cases c5 : x4_1 < 64
     · rw [if_pos c5] at H
       have c5b0 : decide (x4_1 < 64) = true := decide_eq_true c5
       clear c5
       have H' := Aside0.mk H
       clear H
       go_wp2
       go_loopg [5, 6] k1 (fun kq v5 v6 w' => ∃ (x5_2 : Bool) (x6_2 : Int), v5 = .bool x5_2 ∧ v6 = .int .i64 x6_2 ∧ Aside0 (handshakerref08_Cells.l1 kq l0 x3_1 x4_1 x5_2 x6_2 = some r) ∧ Aside0 (kq ≤ k1) ∧ Aside0 (Kd.R (Kd.int .i64) 3 w' w.heap.size (fun _ => True) u3 x3_1) ∧ Aside0 (Below w.heap.size w w'))
       case atStart => exact ⟨(false), (0), (by first | rfl | (simp; done) | (simp [*]; done)), (by first | rfl | (simp; done) | (simp [*]; done)), H', ⟨Nat.le_refl _⟩, ⟨by (with_reducible repeat (first | apply Kd.R_alloc | apply Kd.R_drewN | apply Kd.R_drew)); exact HO_3.out⟩, ⟨by repeat (with_reducible first | exact HB.out | apply below_alloc | apply pw_below_drewN | apply below_drew1)⟩⟩
       case round =>
        clear H'
        try clear c1
        try clear c2
        try clear p2
        try clear c3
        try clear c3b0
        try clear c3b1
        try clear c5
        try clear c5b0
        try clear p2
        obtain ⟨x5_2, x6_2, rfl, rfl, HA, HK2, HO_3, HB⟩ := hrel
        cases gk with
        | zero => exact absurd HA.out (by simp [handshakerref08_Cells.l1])
        | succ k2 =>
         have H := HA.out
         clear HA
         simp only [handshakerref08_Cells.l1] at H
         by_cases c6 : x6_2 < (l0.length : Int)
         · rw [if_pos c6] at H
           have c6b0 : decide (x6_2 < (l0.length : Int)) = true := decide_eq_true c6
           clear c6
           by_cases c7 : x5_2 = true
           · subst c7
             have H1 : (handshakerref08_Cells.l1 k2 l0 x3_1 x4_1 true (wrap64 (x6_2 + 1))) = some r := by rw [if_pos rfl] at H; exact H
             clear H
             have H := H1
             clear H1
             have H' := Aside0.mk H
             clear H
             go_wp2
             go_roundg k2
             case measure => have := HK1.out; have := HK2.out; omega
             case rel => exact ⟨(true), (wrap64 (x6_2 + 1)), (by first | rfl | (simp; done) | (simp [*]; done)), (by first | rfl | (simp; done) | (simp [*]; done)), H', ⟨by have := HK1.out; have := HK2.out; omega⟩, ⟨by (with_reducible repeat (first | apply Kd.R_alloc | apply Kd.R_drewN | apply Kd.R_drew)); exact HO_3.out⟩, ⟨by repeat (with_reducible first | exact HB.out | apply below_alloc | apply pw_below_drewN | apply below_drew1)⟩⟩
           · replace c7 := Bool.eq_false_iff.mpr c7
             subst c7
             have H1 : (if 0 ≤ x6_2 then (if ((rd_T66 l0 x6_2).f0) = 1 then (if ((rd_T66 l0 x6_2).f2) = x4_1 then (handshakerref08_Cells.l1 k2 l0 x3_1 x4_1 true (wrap64 (x6_2 + 1))) else (if ((rd_T66 l0 x6_2).f0) = 3 then (handshakerref08_Cells.l1 k2 l0 x3_1 x4_1 (((rd_T66 l0 x6_2).f1) == x4_1) (wrap64 (x6_2 + 1))) else (handshakerref08_Cells.l1 k2 l0 x3_1 x4_1 false (wrap64 (x6_2 + 1))))) else (if ((rd_T66 l0 x6_2).f0) = 3 then (handshakerref08_Cells.l1 k2 l0 x3_1 x4_1 (((rd_T66 l0 x6_2).f1) == x4_1) (wrap64 (x6_2 + 1))) else (handshakerref08_Cells.l1 k2 l0 x3_1 x4_1 false (wrap64 (x6_2 + 1))))) else (none)) = some r := by rw [if_neg (show ¬ (false = true) by decide)] at H; exact H
             clear H
             have H := H1
             clear H1
             by_cases c8 : 0 ≤ x6_2
             · rw [if_pos c8] at H
               have c8b0 : decide (0 ≤ x6_2) = true := decide_eq_true c8
               clear c8
               by_cases c9 : ((rd_T66 l0 x6_2).f0) = 1
               · rw [if_pos c9] at H
                 have c9b0 : (((rd_T66 l0 x6_2).f0) == 1) = true := beq_iff_eq.mpr c9
                 have c9b1 : (((rd_T66 l0 x6_2).f0) != 1) = false := bne_eq_false_iff_eq.mpr c9
                 clear c9
                 by_cases c10 : ((rd_T66 l0 x6_2).f2) = x4_1
                 · rw [if_pos c10] at H
                   have c10b0 : (((rd_T66 l0 x6_2).f2) == x4_1) = true := beq_iff_eq.mpr c10
                   have c10b1 : (((rd_T66 l0 x6_2).f2) != x4_1) = false := bne_eq_false_iff_eq.mpr c10
                   clear c10
                   have H' := Aside0.mk H
                   clear H
                   have p261 : 0 ≤ (x6_2 : Int) := of_decide_eq_true (by first | (with_reducible assumption) | assumption)
                   have q261 : x6_2 < (l0.length : Int) := of_decide_eq_true (by first | (with_reducible assumption) | assumption)
                   obtain ⟨ad261, A261_3, c261_3, e261, hx261_0, hx261_1, hx261_2, hx261_3, hl261_3, hi261_3⟩ := at_T66 HR0.out x6_2 p261 q261
                   cases e261
                   replace hx261_0 := (HB.out.cell (World.block_lt_of_cell? w _ hx261_0)).trans hx261_0
                   replace hx261_1 := (HB.out.cell (World.block_lt_of_cell? w _ hx261_1)).trans hx261_1
                   replace hx261_2 := (HB.out.cell (World.block_lt_of_cell? w _ hx261_2)).trans hx261_2
                   replace hx261_3 := (HB.out.cell (World.block_lt_of_cell? w _ hx261_3)).trans hx261_3
                   have HR261_3 := Aside0.mk hi261_3
                   have HC261_3 := Aside0.mk hl261_3
                   clear hi261_3 hl261_3
                   replace p261 := eq_true p261
                   replace q261 := eq_true q261
                   have p262 : 0 ≤ (x6_2 : Int) := of_decide_eq_true (by first | (with_reducible assumption) | assumption)
                   have q262 : x6_2 < (l0.length : Int) := of_decide_eq_true (by first | (with_reducible assumption) | assumption)
                   obtain ⟨ad262, A262_3, c262_3, e262, hx262_0, hx262_1, hx262_2, hx262_3, hl262_3, hi262_3⟩ := at_T66 HR0.out x6_2 p262 q262
                   obtain rfl : ad261 = ad262 := (by injection e262)
                   replace hx262_0 := (HB.out.cell (World.block_lt_of_cell? w _ hx262_0)).trans hx262_0
                   replace hx262_1 := (HB.out.cell (World.block_lt_of_cell? w _ hx262_1)).trans hx262_1
                   replace hx262_2 := (HB.out.cell (World.block_lt_of_cell? w _ hx262_2)).trans hx262_2
                   replace hx262_3 := (HB.out.cell (World.block_lt_of_cell? w _ hx262_3)).trans hx262_3
                   have HR262_3 := Aside0.mk hi262_3
                   have HC262_3 := Aside0.mk hl262_3
                   clear hi262_3 hl262_3
                   replace p262 := eq_true p262
                   replace q262 := eq_true q262
                   have ea_ := Option.some.inj (hx261_3.symm.trans hx262_3)
                   injection ea_ with ea_ en_ ec_
                   subst ea_
                   subst ec_
                   clear en_
                   go_wp2
                   go_roundg k2
                   case measure => have := HK1.out; have := HK2.out; omega
                   case rel => exact ⟨(true), (wrap64 (x6_2 + 1)), (by first | rfl | (simp; done) | (simp [*]; done)), (by first | rfl | (simp; done) | (simp [*]; done)), H', ⟨by have := HK1.out; have := HK2.out; omega⟩, ⟨by (with_reducible repeat (first | apply Kd.R_alloc | apply Kd.R_drewN | apply Kd.R_drew)); exact HO_3.out⟩, ⟨by repeat (with_reducible first | exact HB.out | apply below_alloc | apply pw_below_drewN | apply below_drew1)⟩⟩
                 · rw [if_neg c10] at H
                   have c10b0 : (((rd_T66 l0 x6_2).f2) == x4_1) = false := beq_eq_false_iff_ne.mpr c10
                   have c10b1 : (((rd_T66 l0 x6_2).f2) != x4_1) = true := bne_iff_ne.mpr c10
                   by_cases c11 : ((rd_T66 l0 x6_2).f0) = 3
                   · rw [if_pos c11] at H
                     have c11b0 : (((rd_T66 l0 x6_2).f0) == 3) = true := beq_iff_eq.mpr c11
                     have c11b1 : (((rd_T66 l0 x6_2).f0) != 3) = false := bne_eq_false_iff_eq.mpr c11
                     clear c11
                     have H' := Aside0.mk H
                     clear H
                     have p261 : 0 ≤ (x6_2 : Int) := of_decide_eq_true (by first | (with_reducible assumption) | assumption)
                     have q261 : x6_2 < (l0.length : Int) := of_decide_eq_true (by first | (with_reducible assumption) | assumption)
                     obtain ⟨ad261, A261_3, c261_3, e261, hx261_0, hx261_1, hx261_2, hx261_3, hl261_3, hi261_3⟩ := at_T66 HR0.out x6_2 p261 q261
                     cases e261
                     replace hx261_0 := (HB.out.cell (World.block_lt_of_cell? w _ hx261_0)).trans hx261_0
                     replace hx261_1 := (HB.out.cell (World.block_lt_of_cell? w _ hx261_1)).trans hx261_1
                     replace hx261_2 := (HB.out.cell (World.block_lt_of_cell? w _ hx261_2)).trans hx261_2
                     replace hx261_3 := (HB.out.cell (World.block_lt_of_cell? w _ hx261_3)).trans hx261_3
                     have HR261_3 := Aside0.mk hi261_3
                     have HC261_3 := Aside0.mk hl261_3
                     clear hi261_3 hl261_3
                     replace p261 := eq_true p261
                     replace q261 := eq_true q261
                     have p262 : 0 ≤ (x6_2 : Int) := of_decide_eq_true (by first | (with_reducible assumption) | assumption)
                     have q262 : x6_2 < (l0.length : Int) := of_decide_eq_true (by first | (with_reducible assumption) | assumption)
                     obtain ⟨ad262, A262_3, c262_3, e262, hx262_0, hx262_1, hx262_2, hx262_3, hl262_3, hi262_3⟩ := at_T66 HR0.out x6_2 p262 q262
                     obtain rfl : ad261 = ad262 := (by injection e262)
                     replace hx262_0 := (HB.out.cell (World.block_lt_of_cell? w _ hx262_0)).trans hx262_0
                     replace hx262_1 := (HB.out.cell (World.block_lt_of_cell? w _ hx262_1)).trans hx262_1
                     replace hx262_2 := (HB.out.cell (World.block_lt_of_cell? w _ hx262_2)).trans hx262_2
                     replace hx262_3 := (HB.out.cell (World.block_lt_of_cell? w _ hx262_3)).trans hx262_3
                     have HR262_3 := Aside0.mk hi262_3
                     have HC262_3 := Aside0.mk hl262_3
                     clear hi262_3 hl262_3
                     replace p262 := eq_true p262
                     replace q262 := eq_true q262
                     have ea_ := Option.some.inj (hx261_3.symm.trans hx262_3)
                     injection ea_ with ea_ en_ ec_
                     subst ea_
                     subst ec_
                     clear en_
                     have p263 : 0 ≤ (x6_2 : Int) := of_decide_eq_true (by first | (with_reducible assumption) | assumption)
                     have q263 : x6_2 < (l0.length : Int) := of_decide_eq_true (by first | (with_reducible assumption) | assumption)
                     obtain ⟨ad263, A263_3, c263_3, e263, hx263_0, hx263_1, hx263_2, hx263_3, hl263_3, hi263_3⟩ := at_T66 HR0.out x6_2 p263 q263
                     obtain rfl : ad261 = ad263 := (by injection e263)
                     replace hx263_0 := (HB.out.cell (World.block_lt_of_cell? w _ hx263_0)).trans hx263_0
                     replace hx263_1 := (HB.out.cell (World.block_lt_of_cell? w _ hx263_1)).trans hx263_1
                     replace hx263_2 := (HB.out.cell (World.block_lt_of_cell? w _ hx263_2)).trans hx263_2
                     replace hx263_3 := (HB.out.cell (World.block_lt_of_cell? w _ hx263_3)).trans hx263_3
                     have HR263_3 := Aside0.mk hi263_3
                     have HC263_3 := Aside0.mk hl263_3
                     clear hi263_3 hl263_3
                     replace p263 := eq_true p263
                     replace q263 := eq_true q263
                     have ea_ := Option.some.inj (hx261_3.symm.trans hx263_3)
                     injection ea_ with ea_ en_ ec_
                     subst ea_
                     subst ec_
                     clear en_
                     have p264 : 0 ≤ (x6_2 : Int) := of_decide_eq_true (by first | (with_reducible assumption) | assumption)
                     have q264 : x6_2 < (l0.length : Int) := of_decide_eq_true (by first | (with_reducible assumption) | assumption)
                     obtain ⟨ad264, A264_3, c264_3, e264, hx264_0, hx264_1, hx264_2, hx264_3, hl264_3, hi264_3⟩ := at_T66 HR0.out x6_2 p264 q264
                     obtain rfl : ad261 = ad264 := (by injection e264)
                     replace hx264_0 := (HB.out.cell (World.block_lt_of_cell? w _ hx264_0)).trans hx264_0
                     replace hx264_1 := (HB.out.cell (World.block_lt_of_cell? w _ hx264_1)).trans hx264_1
                     replace hx264_2 := (HB.out.cell (World.block_lt_of_cell? w _ hx264_2)).trans hx264_2
                     replace hx264_3 := (HB.out.cell (World.block_lt_of_cell? w _ hx264_3)).trans hx264_3
                     have HR264_3 := Aside0.mk hi264_3
                     have HC264_3 := Aside0.mk hl264_3
                     clear hi264_3 hl264_3
                     replace p264 := eq_true p264
                     replace q264 := eq_true q264
                     have ea_ := Option.some.inj (hx261_3.symm.trans hx264_3)
                     injection ea_ with ea_ en_ ec_
                     subst ea_
                     subst ec_
                     clear en_
                     go_wp2
                     go_roundg k2
                     case measure => have := HK1.out; have := HK2.out; omega
                     case rel => exact ⟨((((rd_T66 l0 x6_2).f1) == x4_1)), (wrap64 (x6_2 + 1)), (by first | rfl | (simp; done) | (simp [*]; done)), (by first | rfl | (simp; done) | (simp [*]; done)), H', ⟨by have := HK1.out; have := HK2.out; omega⟩, ⟨by (with_reducible repeat (first | apply Kd.R_alloc | apply Kd.R_drewN | apply Kd.R_drew)); exact HO_3.out⟩, ⟨by repeat (with_reducible first | exact HB.out | apply below_alloc | apply pw_below_drewN | apply below_drew1)⟩⟩
                   · rw [if_neg c11] at H
                     have c11b0 : (((rd_T66 l0 x6_2).f0) == 3) = false := beq_eq_false_iff_ne.mpr c11
                     have c11b1 : (((rd_T66 l0 x6_2).f0) != 3) = true := bne_iff_ne.mpr c11
                     have H' := Aside0.mk H
                     clear H
                     have p261 : 0 ≤ (x6_2 : Int) := of_decide_eq_true (by first | (with_reducible assumption) | assumption)
                     have q261 : x6_2 < (l0.length : Int) := of_decide_eq_true (by first | (with_reducible assumption) | assumption)
                     obtain ⟨ad261, A261_3, c261_3, e261, hx261_0, hx261_1, hx261_2, hx261_3, hl261_3, hi261_3⟩ := at_T66 HR0.out x6_2 p261 q261
                     cases e261
                     replace hx261_0 := (HB.out.cell (World.block_lt_of_cell? w _ hx261_0)).trans hx261_0
                     replace hx261_1 := (HB.out.cell (World.block_lt_of_cell? w _ hx261_1)).trans hx261_1
                     replace hx261_2 := (HB.out.cell (World.block_lt_of_cell? w _ hx261_2)).trans hx261_2
                     replace hx261_3 := (HB.out.cell (World.block_lt_of_cell? w _ hx261_3)).trans hx261_3
                     have HR261_3 := Aside0.mk hi261_3
                     have HC261_3 := Aside0.mk hl261_3
                     clear hi261_3 hl261_3
                     replace p261 := eq_true p261
                     replace q261 := eq_true q261
                     have p262 : 0 ≤ (x6_2 : Int) := of_decide_eq_true (by first | (with_reducible assumption) | assumption)
                     have q262 : x6_2 < (l0.length : Int) := of_decide_eq_true (by first | (with_reducible assumption) | assumption)
                     obtain ⟨ad262, A262_3, c262_3, e262, hx262_0, hx262_1, hx262_2, hx262_3, hl262_3, hi262_3⟩ := at_T66 HR0.out x6_2 p262 q262
                     obtain rfl : ad261 = ad262 := (by injection e262)
                     replace hx262_0 := (HB.out.cell (World.block_lt_of_cell? w _ hx262_0)).trans hx262_0
                     replace hx262_1 := (HB.out.cell (World.block_lt_of_cell? w _ hx262_1)).trans hx262_1
                     replace hx262_2 := (HB.out.cell (World.block_lt_of_cell? w _ hx262_2)).trans hx262_2
                     replace hx262_3 := (HB.out.cell (World.block_lt_of_cell? w _ hx262_3)).trans hx262_3
                     have HR262_3 := Aside0.mk hi262_3
                     have HC262_3 := Aside0.mk hl262_3
                     clear hi262_3 hl262_3
                     replace p262 := eq_true p262
                     replace q262 := eq_true q262
                     have ea_ := Option.some.inj (hx261_3.symm.trans hx262_3)
                     injection ea_ with ea_ en_ ec_
                     subst ea_
                     subst ec_
                     clear en_
                     have p263 : 0 ≤ (x6_2 : Int) := of_decide_eq_true (by first | (with_reducible assumption) | assumption)
                     have q263 : x6_2 < (l0.length : Int) := of_decide_eq_true (by first | (with_reducible assumption) | assumption)
                     obtain ⟨ad263, A263_3, c263_3, e263, hx263_0, hx263_1, hx263_2, hx263_3, hl263_3, hi263_3⟩ := at_T66 HR0.out x6_2 p263 q263
                     obtain rfl : ad261 = ad263 := (by injection e263)
                     replace hx263_0 := (HB.out.cell (World.block_lt_of_cell? w _ hx263_0)).trans hx263_0
                     replace hx263_1 := (HB.out.cell (World.block_lt_of_cell? w _ hx263_1)).trans hx263_1
                     replace hx263_2 := (HB.out.cell (World.block_lt_of_cell? w _ hx263_2)).trans hx263_2
                     replace hx263_3 := (HB.out.cell (World.block_lt_of_cell? w _ hx263_3)).trans hx263_3
                     have HR263_3 := Aside0.mk hi263_3
                     have HC263_3 := Aside0.mk hl263_3
                     clear hi263_3 hl263_3
                     replace p263 := eq_true p263
                     replace q263 := eq_true q263
                     have ea_ := Option.some.inj (hx261_3.symm.trans hx263_3)
                     injection ea_ with ea_ en_ ec_
                     subst ea_
                     subst ec_
                     clear en_
                     go_wp2
                     go_roundg k2
                     case measure => have := HK1.out; have := HK2.out; omega
                     case rel => exact ⟨(false), (wrap64 (x6_2 + 1)), (by first | rfl | (simp; done) | (simp [*]; done)), (by first | rfl | (simp; done) | (simp [*]; done)), H', ⟨by have := HK1.out; have := HK2.out; omega⟩, ⟨by (with_reducible repeat (first | apply Kd.R_alloc | apply Kd.R_drewN | apply Kd.R_drew)); exact HO_3.out⟩, ⟨by repeat (with_reducible first | exact HB.out | apply below_alloc | apply pw_below_drewN | apply below_drew1)⟩⟩
               · rw [if_neg c9] at H
                 have c9b0 : (((rd_T66 l0 x6_2).f0) == 1) = false := beq_eq_false_iff_ne.mpr c9
                 have c9b1 : (((rd_T66 l0 x6_2).f0) != 1) = true := bne_iff_ne.mpr c9
                 by_cases c12 : ((rd_T66 l0 x6_2).f0) = 3
                 · rw [if_pos c12] at H
                   have c12b0 : (((rd_T66 l0 x6_2).f0) == 3) = true := beq_iff_eq.mpr c12
                   have c12b1 : (((rd_T66 l0 x6_2).f0) != 3) = false := bne_eq_false_iff_eq.mpr c12
                   clear c12
                   have H' := Aside0.mk H
                   clear H
                   have p261 : 0 ≤ (x6_2 : Int) := of_decide_eq_true (by first | (with_reducible assumption) | assumption)
                   have q261 : x6_2 < (l0.length : Int) := of_decide_eq_true (by first | (with_reducible assumption) | assumption)
                   obtain ⟨ad261, A261_3, c261_3, e261, hx261_0, hx261_1, hx261_2, hx261_3, hl261_3, hi261_3⟩ := at_T66 HR0.out x6_2 p261 q261
                   cases e261
                   replace hx261_0 := (HB.out.cell (World.block_lt_of_cell? w _ hx261_0)).trans hx261_0
                   replace hx261_1 := (HB.out.cell (World.block_lt_of_cell? w _ hx261_1)).trans hx261_1
                   replace hx261_2 := (HB.out.cell (World.block_lt_of_cell? w _ hx261_2)).trans hx261_2
                   replace hx261_3 := (HB.out.cell (World.block_lt_of_cell? w _ hx261_3)).trans hx261_3
                   have HR261_3 := Aside0.mk hi261_3
                   have HC261_3 := Aside0.mk hl261_3
                   clear hi261_3 hl261_3
                   replace p261 := eq_true p261
                   replace q261 := eq_true q261
                   have p265 : 0 ≤ (x6_2 : Int) := of_decide_eq_true (by first | (with_reducible assumption) | assumption)
                   have q265 : x6_2 < (l0.length : Int) := of_decide_eq_true (by first | (with_reducible assumption) | assumption)
                   obtain ⟨ad265, A265_3, c265_3, e265, hx265_0, hx265_1, hx265_2, hx265_3, hl265_3, hi265_3⟩ := at_T66 HR0.out x6_2 p265 q265
                   obtain rfl : ad261 = ad265 := (by injection e265)
                   replace hx265_0 := (HB.out.cell (World.block_lt_of_cell? w _ hx265_0)).trans hx265_0
                   replace hx265_1 := (HB.out.cell (World.block_lt_of_cell? w _ hx265_1)).trans hx265_1
                   replace hx265_2 := (HB.out.cell (World.block_lt_of_cell? w _ hx265_2)).trans hx265_2
                   replace hx265_3 := (HB.out.cell (World.block_lt_of_cell? w _ hx265_3)).trans hx265_3
                   have HR265_3 := Aside0.mk hi265_3
                   have HC265_3 := Aside0.mk hl265_3
                   clear hi265_3 hl265_3
                   replace p265 := eq_true p265
                   replace q265 := eq_true q265
                   have ea_ := Option.some.inj (hx261_3.symm.trans hx265_3)
                   injection ea_ with ea_ en_ ec_
                   subst ea_
                   subst ec_
                   clear en_
                   have p266 : 0 ≤ (x6_2 : Int) := of_decide_eq_true (by first | (with_reducible assumption) | assumption)
                   have q266 : x6_2 < (l0.length : Int) := of_decide_eq_true (by first | (with_reducible assumption) | assumption)
                   obtain ⟨ad266, A266_3, c266_3, e266, hx266_0, hx266_1, hx266_2, hx266_3, hl266_3, hi266_3⟩ := at_T66 HR0.out x6_2 p266 q266
                   obtain rfl : ad261 = ad266 := (by injection e266)
                   replace hx266_0 := (HB.out.cell (World.block_lt_of_cell? w _ hx266_0)).trans hx266_0
                   replace hx266_1 := (HB.out.cell (World.block_lt_of_cell? w _ hx266_1)).trans hx266_1
                   replace hx266_2 := (HB.out.cell (World.block_lt_of_cell? w _ hx266_2)).trans hx266_2
                   replace hx266_3 := (HB.out.cell (World.block_lt_of_cell? w _ hx266_3)).trans hx266_3
                   have HR266_3 := Aside0.mk hi266_3
                   have HC266_3 := Aside0.mk hl266_3
                   clear hi266_3 hl266_3
                   replace p266 := eq_true p266
                   replace q266 := eq_true q266
                   have ea_ := Option.some.inj (hx261_3.symm.trans hx266_3)
                   injection ea_ with ea_ en_ ec_
                   subst ea_
                   subst ec_
                   clear en_
                   go_wp2
                   go_roundg k2
                   case measure => have := HK1.out; have := HK2.out; omega
                   case rel => exact ⟨((((rd_T66 l0 x6_2).f1) == x4_1)), (wrap64 (x6_2 + 1)), (by first | rfl | (simp; done) | (simp [*]; done)), (by first | rfl | (simp; done) | (simp [*]; done)), H', ⟨by have := HK1.out; have := HK2.out; omega⟩, ⟨by (with_reducible repeat (first | apply Kd.R_alloc | apply Kd.R_drewN | apply Kd.R_drew)); exact HO_3.out⟩, ⟨by repeat (with_reducible first | exact HB.out | apply below_alloc | apply pw_below_drewN | apply below_drew1)⟩⟩
                 · rw [if_neg c12] at H
                   have c12b0 : (((rd_T66 l0 x6_2).f0) == 3) = false := beq_eq_false_iff_ne.mpr c12
                   have c12b1 : (((rd_T66 l0 x6_2).f0) != 3) = true := bne_iff_ne.mpr c12
                   have H' := Aside0.mk H
                   clear H
                   have p261 : 0 ≤ (x6_2 : Int) := of_decide_eq_true (by first | (with_reducible assumption) | assumption)
                   have q261 : x6_2 < (l0.length : Int) := of_decide_eq_true (by first | (with_reducible assumption) | assumption)
                   obtain ⟨ad261, A261_3, c261_3, e261, hx261_0, hx261_1, hx261_2, hx261_3, hl261_3, hi261_3⟩ := at_T66 HR0.out x6_2 p261 q261
                   cases e261
                   replace hx261_0 := (HB.out.cell (World.block_lt_of_cell? w _ hx261_0)).trans hx261_0
                   replace hx261_1 := (HB.out.cell (World.block_lt_of_cell? w _ hx261_1)).trans hx261_1
                   replace hx261_2 := (HB.out.cell (World.block_lt_of_cell? w _ hx261_2)).trans hx261_2
                   replace hx261_3 := (HB.out.cell (World.block_lt_of_cell? w _ hx261_3)).trans hx261_3
                   have HR261_3 := Aside0.mk hi261_3
                   have HC261_3 := Aside0.mk hl261_3
                   clear hi261_3 hl261_3
                   replace p261 := eq_true p261
                   replace q261 := eq_true q261
                   have p265 : 0 ≤ (x6_2 : Int) := of_decide_eq_true (by first | (with_reducible assumption) | assumption)
                   have q265 : x6_2 < (l0.length : Int) := of_decide_eq_true (by first | (with_reducible assumption) | assumption)
                   obtain ⟨ad265, A265_3, c265_3, e265, hx265_0, hx265_1, hx265_2, hx265_3, hl265_3, hi265_3⟩ := at_T66 HR0.out x6_2 p265 q265
                   obtain rfl : ad261 = ad265 := (by injection e265)
                   replace hx265_0 := (HB.out.cell (World.block_lt_of_cell? w _ hx265_0)).trans hx265_0
                   replace hx265_1 := (HB.out.cell (World.block_lt_of_cell? w _ hx265_1)).trans hx265_1
                   replace hx265_2 := (HB.out.cell (World.block_lt_of_cell? w _ hx265_2)).trans hx265_2
                   replace hx265_3 := (HB.out.cell (World.block_lt_of_cell? w _ hx265_3)).trans hx265_3
                   have HR265_3 := Aside0.mk hi265_3
                   have HC265_3 := Aside0.mk hl265_3
                   clear hi265_3 hl265_3
                   replace p265 := eq_true p265
                   replace q265 := eq_true q265
                   have ea_ := Option.some.inj (hx261_3.symm.trans hx265_3)
                   injection ea_ with ea_ en_ ec_
                   subst ea_
                   subst ec_
                   clear en_
                   go_wp2
                   go_roundg k2
                   case measure => have := HK1.out; have := HK2.out; omega
                   case rel => exact ⟨(false), (wrap64 (x6_2 + 1)), (by first | rfl | (simp; done) | (simp [*]; done)), (by first | rfl | (simp; done) | (simp [*]; done)), H', ⟨by have := HK1.out; have := HK2.out; omega⟩, ⟨by (with_reducible repeat (first | apply Kd.R_alloc | apply Kd.R_drewN | apply Kd.R_drew)); exact HO_3.out⟩, ⟨by repeat (with_reducible first | exact HB.out | apply below_alloc | apply pw_below_drewN | apply below_drew1)⟩⟩
             · rw [if_neg c8] at H
               exact absurd H (by simp)
         · rw [if_neg c6] at H
           have c6b0 : decide (x6_2 < (l0.length : Int)) = false := decide_eq_false c6
           clear c6
           by_cases c13 : x5_2 = true
           · subst c13
             have H1 : (if x3_1.length < 17592186044416 then (handshakerref08_Cells.l0 k2 l0 (x3_1 ++ [x4_1]) (wrap64 (x4_1 + 1))) else (none)) = some r := by rw [if_pos rfl] at H; exact H
             clear H
             have H := H1
             clear H1
             by_cases c14 : x3_1.length < 17592186044416
             · rw [if_pos c14] at H
               have LMc14 := Aside0.mk c14
               clear c14
               obtain ⟨y267, hy267⟩ : ∃ y_ : List Int, y_ = (x3_1 ++ [x4_1]) := ⟨_, rfl⟩
               replace H : (handshakerref08_Cells.l0 k2 l0 y267 (wrap64 (x4_1 + 1))) = some r := by first | (rw [hy267]; with_reducible exact H) | (have H2_ := (Option.bind_some _ _).symm.trans H; rw [hy267]; with_reducible exact H2_) | (have H2_ := (Option.bind_some _ _).symm.trans H; with_reducible exact H2_) | with_reducible exact H | (rw [hy267]; exact H) | exact H
               have Ny267 := Aside0.mk hy267
               clear hy267
               have H' := Aside0.mk H
               clear H
               go_wp2_with (first | ((with_reducible refine gate_builtin (b := .append) (xs := #[.tmp 56, .tmp 58]) rfl ?_); at_builtin; refine Kd.R_append (Kd.int .i64) (w0 := w) w.heap.size rfl (.tmp 56) (.tmp 58) 31 3 (.int .i64 0) 8 rfl Try.underlying31 info3 rfl (by decide) (by omega) u3 x3_1 x4_1 [.int .i64 x4_1] (fun _ => True) (fun _ => False) rfl rfl ?aP (fun _ hk => hk.elim) ?aF ?aO ?aB ?aS ?aL ?_; (case aP => exact rfl); (case aB => exact (by repeat (with_reducible first | exact HB.out | apply below_alloc | apply pw_below_drewN | apply below_drew1))); (case aF => exact (fun _ _ => trivial)); (case aO => exact (by (with_reducible repeat (first | apply Kd.R_alloc | apply Kd.R_drewN | apply Kd.R_drew)); exact HO_3.out)); (case aS => exact bsz_); (case aL => have := LMc14.out; omega); intro v268 w15 ho hb hg hat; rw [← Ny267.out] at ho; have n0_ := Aside0.mk (hb); have n1_ := Aside0.mk (ho); clear HB; clear HO_3; have HB := n0_; have HO269 := n1_; clear n0_ n1_; clear ho hb hg hat))
               go_roundg k2
               case measure => have := HK1.out; have := HK2.out; omega
               case rel => exact ⟨(y267), (wrap64 (x4_1 + 1)), (by first | rfl | (simp; done) | (simp [*]; done)), H', ⟨by have := HK1.out; have := HK2.out; omega⟩, ⟨by (with_reducible repeat (first | apply Kd.R_alloc | apply Kd.R_drewN | apply Kd.R_drew)); exact HO269.out⟩, ⟨by repeat (with_reducible first | exact HB.out | apply below_alloc | apply pw_below_drewN | apply below_drew1)⟩⟩
             · rw [if_neg c14] at H
               exact absurd H (by simp)
           · replace c13 := Bool.eq_false_iff.mpr c13
             subst c13
             have H1 : (handshakerref08_Cells.l0 k2 l0 x3_1 (wrap64 (x4_1 + 1))) = some r := by rw [if_neg (show ¬ (false = true) by decide)] at H; exact H
             clear H
             have H := H1
             clear H1
             have H' := Aside0.mk H
             clear H
             go_wp2
             go_roundg k2
             case measure => have := HK1.out; have := HK2.out; omega
             case rel => exact ⟨(x3_1), (wrap64 (x4_1 + 1)), (by first | rfl | (simp; done) | (simp [*]; done)), H', ⟨by have := HK1.out; have := HK2.out; omega⟩, ⟨by (with_reducible repeat (first | apply Kd.R_alloc | apply Kd.R_drewN | apply Kd.R_drew)); exact HO_3.out⟩, ⟨by repeat (with_reducible first | exact HB.out | apply below_alloc | apply pw_below_drewN | apply below_drew1)⟩⟩
     · rw [if_neg c5] at H
       have c5b0 : decide (x4_1 < 64) = false := decide_eq_false c5
       clear c5
       obtain rfl := Option.some.inj H
       go_wp2
       go_ret
       exact ⟨_, by first | rfl | (simp [errW_none, errW_some] <;> rfl) | (simp [*, errW_none, errW_some] <;> rfl), by (with_reducible repeat (first | apply Kd.R_alloc | apply Kd.R_drewN | apply Kd.R_drew)); exact HO_3.out, by repeat (with_reducible first | exact HB.out | apply below_alloc | apply pw_below_drewN | apply below_drew1)⟩
 · rw [if_neg c3] at H
   have c3b0 : (t260 == 0) = false := beq_eq_false_iff_ne.mpr c3
   have c3b1 : (t260 != 0) = true := bne_iff_ne.mpr c3
   obtain rfl := Option.some.inj H
   go_enter Try.func24, Try.ntmps24
   go_wp2_with (first | ((with_reducible refine gate_callee (f := 19) rfl ?_); refine goesL_ (some 8) rfl rfl Try.func19 (by kernel_rfl) rfl #[.slice A0 l0.length c0] rfl (by (try simp only [List.map_toArray, List.map_cons, List.map_nil]); first | done | rfl) ?_; (with_reducible refine (handshakerref08_Check.calls k _ _ l0 t260 _ ?side1 ?side2 A2.out).mono ?_); (case side1 => repeat (first | exact HR0.out | with_reducible first | refine Kd.C_alloc ?_ _ | refine Kd.C_drewN ?_ _ | refine Kd.C_drew ?_)); (case side2 => exact HC0.out); rintro e w16 ⟨rfl, hb⟩; refine ⟨_, rfl, ?_⟩; have n0_ := Aside0.mk (bst_ hb); clear HB; have HB := n0_; clear n0_; (try clear hb); (try clear hb2); (try clear hk); (try clear hi)))
   go_ret
   exact ⟨_, by first | rfl | (simp [errW_none, errW_some] <;> rfl) | (simp [*, errW_none, errW_some] <;> rfl), by first | exact Kd.R_nil _ _ _ _ _ | exact Kd.N_nil _ _ _ _ _ | exact Kd.V_nil _ _ _ _ _ | exact Kd.Q_nil _ _ _ _ _ | exact Kd.S_nil _ _ _ _ _, by repeat (with_reducible first | exact HB.out | apply below_alloc | apply pw_below_drewN | apply below_drew1)⟩

/-! ### wfS41 -/
def wfS41 (x : S41) : Prop := (Lit.int .i64 x.f0).wf = true ∧ (Lit.int .i64 x.f1).wf = true

/-! ### wfS37 -/
def wfS37 (x : S37) : Prop := (Lit.int .i64 x.f0).wf = true ∧ (Lit.int .i64 x.f1).wf = true ∧ (Lit.int .i64 x.f2).wf = true ∧ (x.f3.length ≤ maxLen ∧ ∀ y ∈ x.f3, wfS41 y)

end Go.Proofs.Ytbcpnbmegaodbaa.Ct
