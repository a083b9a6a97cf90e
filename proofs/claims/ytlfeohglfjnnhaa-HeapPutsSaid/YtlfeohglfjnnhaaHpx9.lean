-- PRINTED by print.py (a twelfth state) out of the translation. Not trusted: Lean checks it.
import Derived.Test.YtlfeohglfjnnhaaHpx0
import Derived.Test.YtlfeohglfjnnhaaHpx1
import Derived.Test.YtlfeohglfjnnhaaHpx2
import Derived.Test.YtlfeohglfjnnhaaHpx3
import Derived.Test.YtlfeohglfjnnhaaHpx5
namespace Go.Proofs.Ytlfeohglfjnnhaa.Hp
open Go.Proofs.Ytlfeohglfjnnhaa.Ho
open Go.RowKit Go.Proofs.YtlfeohglfjnnhaaW.PrintWords Go.Proofs.YtlfeohglfjnnhaaW.PrintLast Go.Proofs.YtlfeohglfjnnhaaW.PrintMore
attribute [local go_sem] max2_int min2_int max_two min_two max_three min_three max_four min_four   -- for this text's walks alone
set_option linter.unusedVariables false
set_option linter.unusedSimpArgs false

attribute [local go_sem high] eqA59
/-! ### handshakerlaw02_HeapPuts: function 12 -/
mutual
def handshakerlaw02_HeapPuts.j0 : Nat → List (S59) → List (S62) → Bool → Option (Bool)
  | 0, _, _, _ => none
  | k + 1, x0, x1, x24 => if x24 = true then ((handshakerlaw02_awake.f k).bind fun t309 => (some t309)) else ((some (([] : List (S59)) : List (S59))).bind fun y310 => (if y310.length + x0.length < 8796093022208 then ((heap_Put.f k x0 x1).bind fun bt316 => ((handshakerref02_Same.f k x0 (y310 ++ x0)).bind fun t320 => (if t320 = true then (if bt316.2 = 0 then (handshakerlaw02_HeapPuts.j1 k x0 x1 bt316.1 bt316.2 ((bt316.1.length : Int) != (x0.length : Int))) else ((handshakerref02_Same.f k bt316.1 x0).bind fun t321 => (if t321 = true then (handshakerlaw02_HeapPuts.j1 k x0 x1 bt316.1 bt316.2 ((bt316.1.length : Int) != (x0.length : Int))) else (handshakerlaw02_HeapPuts.j1 k x0 x1 bt316.1 bt316.2 true)))) else (handshakerlaw02_HeapPuts.j1 k x0 x1 bt316.1 bt316.2 true)))) else (none)))
def handshakerlaw02_HeapPuts.j1 : Nat → List (S59) → List (S62) → List (S59) → Int → Bool → Option (Bool)
  | 0, _, _, _, _, _ => none
  | k + 1, x0, x1, x6, x7, x55 => if x55 = true then (some false) else (handshakerlaw02_HeapPuts.l0 k x0 x1 x6 x7 (x0.length : Int) 0)
def handshakerlaw02_HeapPuts.l0 : Nat → List (S59) → List (S62) → List (S59) → Int → Int → Int → Option (Bool)
  | 0, _, _, _, _, _, _ => none
  | k + 1, x0, x1, x6, x7, x57, x58 => if x58 < x57 then (if 0 ≤ x58 then (if x58 < (x0.length : Int) then (handshakerlaw02_HeapPuts.l1 k x0 x1 x6 x7 x58 x57 x58 x1 (x1.length : Int) 0 ((rd_T59 x0 x58).f0) ((rd_T59 x0 x58).f1)) else (none)) else (none)) else ((heap_Right.f x6).bind fun t322 => (if t322 = true then ((handshakerlaw02_awake.f k).bind fun t323 => (some t323)) else (some false)))
def handshakerlaw02_HeapPuts.l1 : Nat → List (S59) → List (S62) → List (S59) → Int → Int → Int → Int → List (S62) → Int → Int → Bool → Int → Option (Bool)
  | 0, _, _, _, _, _, _, _, _, _, _, _, _ => none
  | k + 1, x0, x1, x6, x7, x8, x57, x58, x65, x66, x67, x326000, x326001 => if x67 < x66 then (if 0 ≤ x67 then (if x67 < (x65.length : Int) then (if ((rd_T62 x65 x67).f0) = x8 then (if x7 = 0 then (handshakerlaw02_HeapPuts.l1 k x0 x1 x6 x7 x8 x57 x58 x65 x66 (wrap64 (x67 + 1)) x326000 ((rd_T62 x65 x67).f1)) else (handshakerlaw02_HeapPuts.l1 k x0 x1 x6 x7 x8 x57 x58 x65 x66 (wrap64 (x67 + 1)) x326000 x326001)) else (handshakerlaw02_HeapPuts.l1 k x0 x1 x6 x7 x8 x57 x58 x65 x66 (wrap64 (x67 + 1)) x326000 x326001)) else (none)) else (none)) else (if 0 ≤ x8 then (if x8 < (x6.length : Int) then (if (!(((rd_T59 x6 x8).f0) == x326000) || (!(((rd_T59 x6 x8).f1) == x326001))) = true then (some false) else (handshakerlaw02_HeapPuts.l0 k x0 x1 x6 x7 x57 (wrap64 (x58 + 1)))) else (none)) else (none))
end
def handshakerlaw02_HeapPuts.f (k : Nat) (l0 : List (S59)) (l1 : List (S62)) : Option (Bool) := if (l0.length : Int) > 64 then (handshakerlaw02_HeapPuts.j0 k l0 l1 true) else (if (l1.length : Int) > 60 then (handshakerlaw02_HeapPuts.j0 k l0 l1 true) else ((heap_Right.f l0).bind fun t308 => (handshakerlaw02_HeapPuts.j0 k l0 l1 (!t308))))
theorem handshakerlaw02_HeapPuts.mono_l : ∀ k, (∀ y0 y1 y2, LeO (handshakerlaw02_HeapPuts.j0 k y0 y1 y2) (handshakerlaw02_HeapPuts.j0 (k + 1) y0 y1 y2)) ∧ (∀ y0 y1 y2 y3 y4, LeO (handshakerlaw02_HeapPuts.j1 k y0 y1 y2 y3 y4) (handshakerlaw02_HeapPuts.j1 (k + 1) y0 y1 y2 y3 y4)) ∧ (∀ y0 y1 y2 y3 y4 y5, LeO (handshakerlaw02_HeapPuts.l0 k y0 y1 y2 y3 y4 y5) (handshakerlaw02_HeapPuts.l0 (k + 1) y0 y1 y2 y3 y4 y5)) ∧ (∀ y0 y1 y2 y3 y4 y5 y6 y7 y8 y9 y10 y11, LeO (handshakerlaw02_HeapPuts.l1 k y0 y1 y2 y3 y4 y5 y6 y7 y8 y9 y10 y11) (handshakerlaw02_HeapPuts.l1 (k + 1) y0 y1 y2 y3 y4 y5 y6 y7 y8 y9 y10 y11))
  | 0 => ⟨fun _ _ _ r h => by simp [handshakerlaw02_HeapPuts.j0] at h, fun _ _ _ _ _ r h => by simp [handshakerlaw02_HeapPuts.j1] at h, fun _ _ _ _ _ _ r h => by simp [handshakerlaw02_HeapPuts.l0] at h, fun _ _ _ _ _ _ _ _ _ _ _ _ r h => by simp [handshakerlaw02_HeapPuts.l1] at h⟩
  | k + 1 => by
    obtain ⟨ih0, ih1, ih2, ih3⟩ := handshakerlaw02_HeapPuts.mono_l k
    refine ⟨?_, ?_, ?_, ?_⟩
    · intro y0 y1 y2
      unfold handshakerlaw02_HeapPuts.j0
      repeat' first
      | (with_reducible exact ih0 _ _ _)
      | (with_reducible exact ih1 _ _ _ _ _)
      | (with_reducible exact ih2 _ _ _ _ _ _)
      | (with_reducible exact ih3 _ _ _ _ _ _ _ _ _ _ _ _)
      | (with_reducible exact handshakerlaw02_awake.mono _)
      | (with_reducible exact handshakerref02_Same.mono _ _ _)
      | (with_reducible exact heap_Put.mono _ _ _)
      | (with_reducible exact LeO.refl _)
      | (with_reducible exact LeO.none _)
      | (with_reducible refine LeO.ite ?_ ?_)
      | (with_reducible refine LeO.bind ?_ (fun _ => ?_))
      | exact ih0 _ _ _
      | exact ih1 _ _ _ _ _
      | exact ih2 _ _ _ _ _ _
      | exact ih3 _ _ _ _ _ _ _ _ _ _ _ _
      | exact handshakerlaw02_awake.mono _
      | exact handshakerref02_Same.mono _ _ _
      | exact heap_Put.mono _ _ _
      | exact LeO.none _
      | refine LeO.ite ?_ ?_
      | refine LeO.bind ?_ (fun _ => ?_)
    · intro y0 y1 y2 y3 y4
      unfold handshakerlaw02_HeapPuts.j1
      repeat' first
      | (with_reducible exact ih0 _ _ _)
      | (with_reducible exact ih1 _ _ _ _ _)
      | (with_reducible exact ih2 _ _ _ _ _ _)
      | (with_reducible exact ih3 _ _ _ _ _ _ _ _ _ _ _ _)
      | (with_reducible exact handshakerlaw02_awake.mono _)
      | (with_reducible exact handshakerref02_Same.mono _ _ _)
      | (with_reducible exact heap_Put.mono _ _ _)
      | (with_reducible exact LeO.refl _)
      | (with_reducible exact LeO.none _)
      | (with_reducible refine LeO.ite ?_ ?_)
      | (with_reducible refine LeO.bind ?_ (fun _ => ?_))
      | exact ih0 _ _ _
      | exact ih1 _ _ _ _ _
      | exact ih2 _ _ _ _ _ _
      | exact ih3 _ _ _ _ _ _ _ _ _ _ _ _
      | exact handshakerlaw02_awake.mono _
      | exact handshakerref02_Same.mono _ _ _
      | exact heap_Put.mono _ _ _
      | exact LeO.none _
      | refine LeO.ite ?_ ?_
      | refine LeO.bind ?_ (fun _ => ?_)
    · intro y0 y1 y2 y3 y4 y5
      unfold handshakerlaw02_HeapPuts.l0
      repeat' first
      | (with_reducible exact ih0 _ _ _)
      | (with_reducible exact ih1 _ _ _ _ _)
      | (with_reducible exact ih2 _ _ _ _ _ _)
      | (with_reducible exact ih3 _ _ _ _ _ _ _ _ _ _ _ _)
      | (with_reducible exact handshakerlaw02_awake.mono _)
      | (with_reducible exact handshakerref02_Same.mono _ _ _)
      | (with_reducible exact heap_Put.mono _ _ _)
      | (with_reducible exact LeO.refl _)
      | (with_reducible exact LeO.none _)
      | (with_reducible refine LeO.ite ?_ ?_)
      | (with_reducible refine LeO.bind ?_ (fun _ => ?_))
      | exact ih0 _ _ _
      | exact ih1 _ _ _ _ _
      | exact ih2 _ _ _ _ _ _
      | exact ih3 _ _ _ _ _ _ _ _ _ _ _ _
      | exact handshakerlaw02_awake.mono _
      | exact handshakerref02_Same.mono _ _ _
      | exact heap_Put.mono _ _ _
      | exact LeO.none _
      | refine LeO.ite ?_ ?_
      | refine LeO.bind ?_ (fun _ => ?_)
    · intro y0 y1 y2 y3 y4 y5 y6 y7 y8 y9 y10 y11
      unfold handshakerlaw02_HeapPuts.l1
      repeat' first
      | (with_reducible exact ih0 _ _ _)
      | (with_reducible exact ih1 _ _ _ _ _)
      | (with_reducible exact ih2 _ _ _ _ _ _)
      | (with_reducible exact ih3 _ _ _ _ _ _ _ _ _ _ _ _)
      | (with_reducible exact handshakerlaw02_awake.mono _)
      | (with_reducible exact handshakerref02_Same.mono _ _ _)
      | (with_reducible exact heap_Put.mono _ _ _)
      | (with_reducible exact LeO.refl _)
      | (with_reducible exact LeO.none _)
      | (with_reducible refine LeO.ite ?_ ?_)
      | (with_reducible refine LeO.bind ?_ (fun _ => ?_))
      | exact ih0 _ _ _
      | exact ih1 _ _ _ _ _
      | exact ih2 _ _ _ _ _ _
      | exact ih3 _ _ _ _ _ _ _ _ _ _ _ _
      | exact handshakerlaw02_awake.mono _
      | exact handshakerref02_Same.mono _ _ _
      | exact heap_Put.mono _ _ _
      | exact LeO.none _
      | refine LeO.ite ?_ ?_
      | refine LeO.bind ?_ (fun _ => ?_)
theorem handshakerlaw02_HeapPuts.mono : ∀ a0 a1 k, LeO (handshakerlaw02_HeapPuts.f k a0 a1) (handshakerlaw02_HeapPuts.f (k + 1) a0 a1) := by
  intro a0 a1 k
  obtain ⟨ih0, ih1, ih2, ih3⟩ := handshakerlaw02_HeapPuts.mono_l k
  unfold handshakerlaw02_HeapPuts.f
  repeat' first
      | (with_reducible exact ih0 _ _ _)
      | (with_reducible exact ih1 _ _ _ _ _)
      | (with_reducible exact ih2 _ _ _ _ _ _)
      | (with_reducible exact ih3 _ _ _ _ _ _ _ _ _ _ _ _)
      | (with_reducible exact handshakerlaw02_awake.mono _)
      | (with_reducible exact handshakerref02_Same.mono _ _ _)
      | (with_reducible exact heap_Put.mono _ _ _)
      | (with_reducible exact LeO.refl _)
      | (with_reducible exact LeO.none _)
      | (with_reducible refine LeO.ite ?_ ?_)
      | (with_reducible refine LeO.bind ?_ (fun _ => ?_))
      | exact ih0 _ _ _
      | exact ih1 _ _ _ _ _
      | exact ih2 _ _ _ _ _ _
      | exact ih3 _ _ _ _ _ _ _ _ _ _ _ _
      | exact handshakerlaw02_awake.mono _
      | exact handshakerref02_Same.mono _ _ _
      | exact heap_Put.mono _ _ _
      | exact LeO.none _
      | refine LeO.ite ?_ ?_
      | refine LeO.bind ?_ (fun _ => ?_)
set_option maxHeartbeats 8000000 in
set_option maxRecDepth 100000 in
theorem handshakerlaw02_HeapPuts.calls (k : Nat) (A0 : Option Addr) (c0 : Nat) (l0 : List (S59)) (A1 : Option Addr) (c1 : Nat) (l1 : List (S62)) (r : Bool) (w : World) (HT : Aside0 (r = true)) (hr0 : Kd.C k59 w A0 l0.length l0) (hc0 : l0.length ≤ c0) (hr1 : Kd.C k62 w A1 l1.length l1) (hc1 : l1.length ≤ c1) (h : handshakerlaw02_HeapPuts.f k l0 l1 = some r) :
    Calls Try.prog 12 #[.slice A0 l0.length c0, .slice A1 l1.length c1] w fun e w' => e = .returned (.bool r) ∧ Below w.heap.size w w' := by
  have hu59 := Try.underlying59
  have hu62 := Try.underlying62
  have HR0 := Aside0.mk hr0
  have HC0 := Aside0.mk hc0
  clear hr0 hc0
  have HR1 := Aside0.mk hr1
  have HC1 := Aside0.mk hc1
  clear hr1 hc1
  have HB := Aside0.mk (Below.refl w.heap.size w)
  have H : (if (l0.length : Int) > 64 then (handshakerlaw02_HeapPuts.j0 k l0 l1 true) else (if (l1.length : Int) > 60 then (handshakerlaw02_HeapPuts.j0 k l0 l1 true) else ((heap_Right.f l0).bind fun t308 => (handshakerlaw02_HeapPuts.j0 k l0 l1 (!t308))))) = some r := h
  clear h
  have HC3 := Aside0.mk H
  clear H
  go_enter Try.func12, Try.ntmps12
  go_upto_region 1 with (fail)
  repeat (go_quiet (fail); go_upto_region 1 with (fail))
  go_cut [24] (fun v24 wc => ∃ (kq : Nat) (x24_2 : Bool), v24 = .bool x24_2 ∧ Aside0 (handshakerlaw02_HeapPuts.j0 kq l0 l1 x24_2 = some r) ∧ Aside0 (kq ≤ k) ∧ Aside0 (Below w.heap.size w wc))
  case first =>
    have H := HC3.out
    clear HC3
    by_cases c4 : (l0.length : Int) > 64
    · rw [if_pos c4] at H
      have c4b0 : decide (64 < (l0.length : Int)) = true := decide_eq_true c4
      have c4b1 : decide (64 < l0.length) = true := decide_eq_true (by omega)
      clear c4
      (first | rw [c4b0] | (simp only [i64_w, i32_w]; rw [c4b0]) | skip)
      have H' := Aside0.mk H
      clear H
      go_wp2
      repeat (go_quiet (fail); try go_wp2)
      go_meet
      case rel => exact ⟨_, (true), (by first | rfl | (simp; done) | (simp [*]; done)), H', ⟨by first | omega | exact Nat.le_refl _⟩, ⟨by repeat (first | (with_reducible first | exact HB.out | apply below_alloc | apply pw_below_drewN | apply below_drew1) | exact HB.out)⟩⟩
    · rw [if_neg c4] at H
      have c4b0 : decide (64 < (l0.length : Int)) = false := decide_eq_false c4
      have c4b1 : decide (64 < l0.length) = false := decide_eq_false (by omega)
      clear c4
      (first | rw [c4b0] | (simp only [i64_w, i32_w]; rw [c4b0]) | skip)
      by_cases c5 : (l1.length : Int) > 60
      · rw [if_pos c5] at H
        have c5b0 : decide (60 < (l1.length : Int)) = true := decide_eq_true c5
        have c5b1 : decide (60 < l1.length) = true := decide_eq_true (by omega)
        clear c5
        have H' := Aside0.mk H
        clear H
        go_wp2
        repeat (go_quiet (fail); try go_wp2)
        go_meet
        case rel => exact ⟨_, (true), (by first | rfl | (simp; done) | (simp [*]; done)), H', ⟨by first | omega | exact Nat.le_refl _⟩, ⟨by repeat (first | (with_reducible first | exact HB.out | apply below_alloc | apply pw_below_drewN | apply below_drew1) | exact HB.out)⟩⟩
      · rw [if_neg c5] at H
        have c5b0 : decide (60 < (l1.length : Int)) = false := decide_eq_false c5
        have c5b1 : decide (60 < l1.length) = false := decide_eq_false (by omega)
        clear c5
        replace H := Option.bind_eq_some_iff.mp H
        obtain ⟨t308, A60, H⟩ := H
        replace H : (handshakerlaw02_HeapPuts.j0 k l0 l1 (!t308)) = some r := H
        have A6 := Aside0.mk A60
        clear A60
        have H' := Aside0.mk H
        clear H
        go_wp2_with (first | (go_at_call 34; (with_reducible refine (heap_Right.calls _ _ l0 t308 _ ?side1 ?side2 A6.out).mono ?_); (case side1 => repeat (first | exact (Kd.C_below HR0.out HB.out) | (with_reducible refine Kd.C_alloc ?_ _) | (with_reducible refine Kd.C_drewN ?_ _) | (with_reducible refine Kd.C_drew ?_))); (case side2 => exact HC0.out); rintro e w7 ⟨rfl, hb⟩; have n0_ := Aside0.mk (below_step (by repeat (first | (with_reducible first | exact HB.out | apply below_alloc | apply pw_below_drewN | apply below_drew1) | exact HB.out)) hb); clear HB; have HB := n0_; clear n0_; (try clear hb); (try clear hb2); (try clear hk); (try clear hi)))
        repeat (go_quiet (first | (go_at_call 34; (with_reducible refine (heap_Right.calls _ _ l0 t308 _ ?side1 ?side2 A6.out).mono ?_); (case side1 => repeat (first | exact (Kd.C_below HR0.out HB.out) | (with_reducible refine Kd.C_alloc ?_ _) | (with_reducible refine Kd.C_drewN ?_ _) | (with_reducible refine Kd.C_drew ?_))); (case side2 => exact HC0.out); rintro e w7 ⟨rfl, hb⟩; have n0_ := Aside0.mk (below_step (by repeat (first | (with_reducible first | exact HB.out | apply below_alloc | apply pw_below_drewN | apply below_drew1) | exact HB.out)) hb); clear HB; have HB := n0_; clear n0_; (try clear hb); (try clear hb2); (try clear hk); (try clear hi))); try go_wp2_with (first | (go_at_call 34; (with_reducible refine (heap_Right.calls _ _ l0 t308 _ ?side1 ?side2 A6.out).mono ?_); (case side1 => repeat (first | exact (Kd.C_below HR0.out HB.out) | (with_reducible refine Kd.C_alloc ?_ _) | (with_reducible refine Kd.C_drewN ?_ _) | (with_reducible refine Kd.C_drew ?_))); (case side2 => exact HC0.out); rintro e w7 ⟨rfl, hb⟩; have n0_ := Aside0.mk (below_step (by repeat (first | (with_reducible first | exact HB.out | apply below_alloc | apply pw_below_drewN | apply below_drew1) | exact HB.out)) hb); clear HB; have HB := n0_; clear n0_; (try clear hb); (try clear hb2); (try clear hk); (try clear hi))))
        go_meet
        case rel => exact ⟨_, (!t308), (by first | rfl | (simp; done) | (simp [*]; done)), H', ⟨by first | omega | exact Nat.le_refl _⟩, ⟨by repeat (first | (with_reducible first | exact HB.out | apply below_alloc | apply pw_below_drewN | apply below_drew1) | exact HB.out)⟩⟩
  case rest =>
    clear HC3
    try clear c1
    try clear p2
    try clear c4
    try clear c4b0
    try clear c4b1
    try clear c5
    try clear c5b0
    try clear c5b1
    obtain ⟨kq, x24_2, rfl, HA, HJ2, HB⟩ := hcut
    cases kq with
    | zero => exact absurd HA.out (by simp [handshakerlaw02_HeapPuts.j0])
    | succ kj2 =>
      have H := HA.out
      clear HA
      simp only [handshakerlaw02_HeapPuts.j0] at H
      by_cases c8 : x24_2 = true
      · subst c8
        have H1 : ((handshakerlaw02_awake.f kj2).bind fun t309 => (some t309)) = some r := by rw [if_pos rfl] at H; exact H
        clear H
        have H := H1
        clear H1
        replace H := Option.bind_eq_some_iff.mp H
        obtain ⟨t309, A90, H⟩ := H
        replace H : (some t309) = some r := H
        have A9 := Aside0.mk A90
        clear A90
        obtain rfl := Option.some.inj H
        go_wp2_with (first | (go_at_call 25; (with_reducible refine (handshakerlaw02_awake.calls kj2  t309 _ A9.out).mono ?_); rintro e w10 ⟨rfl, hb⟩; have n0_ := Aside0.mk (below_step (by repeat (first | (with_reducible first | exact HB.out | apply below_alloc | apply pw_below_drewN | apply below_drew1) | exact HB.out)) hb); clear HB; have HB := n0_; clear n0_; (try clear hb); (try clear hb2); (try clear hk); (try clear hi)))
        repeat (go_quiet (first | (go_at_call 25; (with_reducible refine (handshakerlaw02_awake.calls kj2  t309 _ A9.out).mono ?_); rintro e w10 ⟨rfl, hb⟩; have n0_ := Aside0.mk (below_step (by repeat (first | (with_reducible first | exact HB.out | apply below_alloc | apply pw_below_drewN | apply below_drew1) | exact HB.out)) hb); clear HB; have HB := n0_; clear n0_; (try clear hb); (try clear hb2); (try clear hk); (try clear hi))); try go_wp2_with (first | (go_at_call 25; (with_reducible refine (handshakerlaw02_awake.calls kj2  t309 _ A9.out).mono ?_); rintro e w10 ⟨rfl, hb⟩; have n0_ := Aside0.mk (below_step (by repeat (first | (with_reducible first | exact HB.out | apply below_alloc | apply pw_below_drewN | apply below_drew1) | exact HB.out)) hb); clear HB; have HB := n0_; clear n0_; (try clear hb); (try clear hb2); (try clear hk); (try clear hi))))
        go_ret
        exact ⟨by first | rfl | (simp [errW_none, errW_some] <;> rfl) | (simp [*, errW_none, errW_some] <;> rfl), by repeat (first | (with_reducible first | exact HB.out | apply below_alloc | apply pw_below_drewN | apply below_drew1) | exact HB.out)⟩
      · replace c8 := Bool.eq_false_iff.mpr c8
        subst c8
        have H1 : ((some (([] : List (S59)) : List (S59))).bind fun y310 => (if y310.length + l0.length < 8796093022208 then ((heap_Put.f kj2 l0 l1).bind fun bt316 => ((handshakerref02_Same.f kj2 l0 (y310 ++ l0)).bind fun t320 => (if t320 = true then (if bt316.2 = 0 then (handshakerlaw02_HeapPuts.j1 kj2 l0 l1 bt316.1 bt316.2 ((bt316.1.length : Int) != (l0.length : Int))) else ((handshakerref02_Same.f kj2 bt316.1 l0).bind fun t321 => (if t321 = true then (handshakerlaw02_HeapPuts.j1 kj2 l0 l1 bt316.1 bt316.2 ((bt316.1.length : Int) != (l0.length : Int))) else (handshakerlaw02_HeapPuts.j1 kj2 l0 l1 bt316.1 bt316.2 true)))) else (handshakerlaw02_HeapPuts.j1 kj2 l0 l1 bt316.1 bt316.2 true)))) else (none))) = some r := by rw [if_neg (show ¬ (false = true) by decide)] at H; exact H
        clear H
        have H := H1
        clear H1
        obtain ⟨y310, hy310⟩ : ∃ y_ : List (S59), y_ = (([] : List (S59))) := ⟨_, rfl⟩
        replace H : (if y310.length + l0.length < 8796093022208 then ((heap_Put.f kj2 l0 l1).bind fun bt316 => ((handshakerref02_Same.f kj2 l0 (y310 ++ l0)).bind fun t320 => (if t320 = true then (if bt316.2 = 0 then (handshakerlaw02_HeapPuts.j1 kj2 l0 l1 bt316.1 bt316.2 ((bt316.1.length : Int) != (l0.length : Int))) else ((handshakerref02_Same.f kj2 bt316.1 l0).bind fun t321 => (if t321 = true then (handshakerlaw02_HeapPuts.j1 kj2 l0 l1 bt316.1 bt316.2 ((bt316.1.length : Int) != (l0.length : Int))) else (handshakerlaw02_HeapPuts.j1 kj2 l0 l1 bt316.1 bt316.2 true)))) else (handshakerlaw02_HeapPuts.j1 kj2 l0 l1 bt316.1 bt316.2 true)))) else (none)) = some r := by first | (rw [hy310]; with_reducible exact H) | (have H2_ := (Option.bind_some _ _).symm.trans H; rw [hy310]; with_reducible exact H2_) | (have H2_ := (Option.bind_some _ _).symm.trans H; with_reducible exact H2_) | with_reducible exact H | (rw [hy310]; exact H) | exact H
        have Ny310 := Aside0.mk hy310
        clear hy310
        by_cases c11 : y310.length + l0.length < 8796093022208
        · rw [if_pos c11] at H
          have LMc11 := Aside0.mk c11
          clear c11
          obtain ⟨y313, hy313⟩ : ∃ y_ : List (S59), y_ = (y310 ++ l0) := ⟨_, rfl⟩
          replace H : ((heap_Put.f kj2 l0 l1).bind fun bt316 => ((handshakerref02_Same.f kj2 l0 y313).bind fun t320 => (if t320 = true then (if bt316.2 = 0 then (handshakerlaw02_HeapPuts.j1 kj2 l0 l1 bt316.1 bt316.2 ((bt316.1.length : Int) != (l0.length : Int))) else ((handshakerref02_Same.f kj2 bt316.1 l0).bind fun t321 => (if t321 = true then (handshakerlaw02_HeapPuts.j1 kj2 l0 l1 bt316.1 bt316.2 ((bt316.1.length : Int) != (l0.length : Int))) else (handshakerlaw02_HeapPuts.j1 kj2 l0 l1 bt316.1 bt316.2 true)))) else (handshakerlaw02_HeapPuts.j1 kj2 l0 l1 bt316.1 bt316.2 true)))) = some r := by first | (rw [hy313]; with_reducible exact H) | (have H2_ := (Option.bind_some _ _).symm.trans H; rw [hy313]; with_reducible exact H2_) | (have H2_ := (Option.bind_some _ _).symm.trans H; with_reducible exact H2_) | with_reducible exact H | (rw [hy313]; exact H) | exact H
          have Ny313 := Aside0.mk hy313
          clear hy313
          replace H := Option.bind_eq_some_iff.mp H
          obtain ⟨⟨t316, t319⟩, A120, H⟩ := H
          replace H : ((handshakerref02_Same.f kj2 l0 y313).bind fun t320 => (if t320 = true then (if t319 = 0 then (handshakerlaw02_HeapPuts.j1 kj2 l0 l1 t316 t319 ((t316.length : Int) != (l0.length : Int))) else ((handshakerref02_Same.f kj2 t316 l0).bind fun t321 => (if t321 = true then (handshakerlaw02_HeapPuts.j1 kj2 l0 l1 t316 t319 ((t316.length : Int) != (l0.length : Int))) else (handshakerlaw02_HeapPuts.j1 kj2 l0 l1 t316 t319 true)))) else (handshakerlaw02_HeapPuts.j1 kj2 l0 l1 t316 t319 true))) = some r := H
          have A12 := Aside0.mk A120
          clear A120
          have HC13 := Aside0.mk H
          clear H
          go_upto_region 5 with (first | ((with_reducible refine gate_dst (N := 26) rfl ?_); (try (refine gate_guard (by rfl) ?_; dsimp only)); refine Kd.R_lit k59 _ 59 ?hg (N := 26) ?hd (xs := ([] : List (S59))) (inner := []) (ok := fun _ => True) (okp := fun _ => True) ?hr ?hp (fun _ hk => hk) trivial (Below.refl _ _) (Nat.le_refl _) (by simp) ?_; (case hd => rfl); (case hg => rfl); (case hr => first | (go_simp; done) | (go_simp; rfl)); (case hp => exact (Reps.none _ _)); intro v311 w14 ho15 hb hg_ hnew_; clear hg_ hnew_; (first | rw [← Ny310.out] at ho15 | (simp only [Int.reduceToNat] at ho15; rw [← Ny310.out] at ho15)); have n0_ := Aside0.mk (Kd.R_lower ho15 (below_size (by repeat (first | (with_reducible first | exact HB.out | apply below_alloc | apply pw_below_drewN | apply below_drew1) | exact HB.out)))); have n1_ := Aside0.mk (below_step (by repeat (first | (with_reducible first | exact HB.out | apply below_alloc | apply pw_below_drewN | apply below_drew1) | exact HB.out)) hb); clear HB; have HO312 := n0_; have HB := n1_; clear n0_ n1_; clear hb ho15) | ((with_reducible refine gate_builtin (b := .append) (xs := #[.tmp 26, .tmp 27]) rfl ?_); (try (refine gate_guard (by rfl) ?_; dsimp only)); at_builtin; refine Kd.R_append_rows k59 (w0 := w) w.heap.size rfl (.tmp 26) (.tmp 27) 34 59 (.agg #[(.bool false), (.int .i64 0)]) 16 rfl Try.underlying34 info59 rfl (by decide) (by omega) v311 y310 l0 _ _ _ (fun _ => True) (fun _ => False) rfl rfl ?aO ?aR (fun _ _ h => h) (fun _ h => h.elim) ?aF ?aB ?aS ?aL ?_; (case aR => repeat (first | exact (Kd.C_below HR0.out HB.out) | (with_reducible refine Kd.C_alloc ?_ _) | (with_reducible refine Kd.C_drewN ?_ _) | (with_reducible refine Kd.C_drew ?_))); (case aB => exact (by repeat (first | (with_reducible first | exact HB.out | apply below_alloc | apply pw_below_drewN | apply below_drew1) | exact HB.out))); (case aF => exact (fun _ _ => trivial)); (case aO => exact (by (with_reducible repeat (first | apply Kd.R_alloc | apply Kd.R_drewN | apply Kd.R_drew)); exact HO312.out)); (case aS => exact (below_size (by repeat (first | (with_reducible first | exact HB.out | apply below_alloc | apply pw_below_drewN | apply below_drew1) | exact HB.out)))); (case aL => have := LMc11.out; omega); intro v314 w16 ho hb hg hat; rw [← Ny313.out] at ho; have n0_ := Aside0.mk (hb); have n1_ := Aside0.mk (ho); clear HB; clear HO312; have HB := n0_; have HO315 := n1_; clear n0_ n1_; clear ho hb hg hat) | (go_at_call 32; (with_reducible refine (heap_Put.calls kj2 (fun k_ => k_ < w.heap.size) _ _ l0 _ _ l1 t316 t319 _ ?side1 ?side2 ?side3 A12.out).mono ?_); (case side1 => exact Kd.V_mk HC0.out (Kd.F_below (Kd.C_F k59_heap HR0.out) (by repeat (first | (with_reducible first | exact HB.out | apply below_alloc | apply pw_below_drewN | apply below_drew1) | exact HB.out)))); (case side2 => repeat (first | exact (Kd.C_below HR1.out HB.out) | (with_reducible refine Kd.C_alloc ?_ _) | (with_reducible refine Kd.C_drewN ?_ _) | (with_reducible refine Kd.C_drew ?_))); (case side3 => exact HC1.out); rintro e w17 ⟨v317, rfl, ho0, hb⟩; have n0_ := Aside0.mk (Kd.R_below (by (with_reducible repeat (first | apply Kd.R_alloc | apply Kd.R_drewN | apply Kd.R_drew)); exact HO315.out) hb); have n1_ := Aside0.mk (Kd.V_lower (Kd.V_mono (ok' := fun k_ => some k_ ≠ (v314 : Value).ownBlock) ho0 (fun k_ hk_ => Or.elim hk_ (fun hs_ => fun e_ => Nat.not_le.2 hs_ (Kd.R_base HO315.out k_ e_.symm)) (fun hn_ => (Kd.fresh' (Kd.R_lt (by (with_reducible repeat (first | apply Kd.R_alloc | apply Kd.R_drewN | apply Kd.R_drew)); exact HO315.out)) k_ hn_)))) (below_size (by repeat (first | (with_reducible first | exact HB.out | apply below_alloc | apply pw_below_drewN | apply below_drew1) | exact HB.out)))); have n2_ := Aside0.mk (below_step (by repeat (first | (with_reducible first | exact HB.out | apply below_alloc | apply pw_below_drewN | apply below_drew1) | exact HB.out)) hb); clear HO315; clear HB; have HO315 := n0_; have HO318 := n1_; have HB := n2_; clear n0_ n1_ n2_; (try clear hb); (try clear hb2); (try clear hk); (try clear hi); (try clear ho0)))
          repeat (go_quiet (first | ((with_reducible refine gate_dst (N := 26) rfl ?_); (try (refine gate_guard (by rfl) ?_; dsimp only)); refine Kd.R_lit k59 _ 59 ?hg (N := 26) ?hd (xs := ([] : List (S59))) (inner := []) (ok := fun _ => True) (okp := fun _ => True) ?hr ?hp (fun _ hk => hk) trivial (Below.refl _ _) (Nat.le_refl _) (by simp) ?_; (case hd => rfl); (case hg => rfl); (case hr => first | (go_simp; done) | (go_simp; rfl)); (case hp => exact (Reps.none _ _)); intro v311 w14 ho15 hb hg_ hnew_; clear hg_ hnew_; (first | rw [← Ny310.out] at ho15 | (simp only [Int.reduceToNat] at ho15; rw [← Ny310.out] at ho15)); have n0_ := Aside0.mk (Kd.R_lower ho15 (below_size (by repeat (first | (with_reducible first | exact HB.out | apply below_alloc | apply pw_below_drewN | apply below_drew1) | exact HB.out)))); have n1_ := Aside0.mk (below_step (by repeat (first | (with_reducible first | exact HB.out | apply below_alloc | apply pw_below_drewN | apply below_drew1) | exact HB.out)) hb); clear HB; have HO312 := n0_; have HB := n1_; clear n0_ n1_; clear hb ho15) | ((with_reducible refine gate_builtin (b := .append) (xs := #[.tmp 26, .tmp 27]) rfl ?_); (try (refine gate_guard (by rfl) ?_; dsimp only)); at_builtin; refine Kd.R_append_rows k59 (w0 := w) w.heap.size rfl (.tmp 26) (.tmp 27) 34 59 (.agg #[(.bool false), (.int .i64 0)]) 16 rfl Try.underlying34 info59 rfl (by decide) (by omega) v311 y310 l0 _ _ _ (fun _ => True) (fun _ => False) rfl rfl ?aO ?aR (fun _ _ h => h) (fun _ h => h.elim) ?aF ?aB ?aS ?aL ?_; (case aR => repeat (first | exact (Kd.C_below HR0.out HB.out) | (with_reducible refine Kd.C_alloc ?_ _) | (with_reducible refine Kd.C_drewN ?_ _) | (with_reducible refine Kd.C_drew ?_))); (case aB => exact (by repeat (first | (with_reducible first | exact HB.out | apply below_alloc | apply pw_below_drewN | apply below_drew1) | exact HB.out))); (case aF => exact (fun _ _ => trivial)); (case aO => exact (by (with_reducible repeat (first | apply Kd.R_alloc | apply Kd.R_drewN | apply Kd.R_drew)); exact HO312.out)); (case aS => exact (below_size (by repeat (first | (with_reducible first | exact HB.out | apply below_alloc | apply pw_below_drewN | apply below_drew1) | exact HB.out)))); (case aL => have := LMc11.out; omega); intro v314 w16 ho hb hg hat; rw [← Ny313.out] at ho; have n0_ := Aside0.mk (hb); have n1_ := Aside0.mk (ho); clear HB; clear HO312; have HB := n0_; have HO315 := n1_; clear n0_ n1_; clear ho hb hg hat) | (go_at_call 32; (with_reducible refine (heap_Put.calls kj2 (fun k_ => k_ < w.heap.size) _ _ l0 _ _ l1 t316 t319 _ ?side1 ?side2 ?side3 A12.out).mono ?_); (case side1 => exact Kd.V_mk HC0.out (Kd.F_below (Kd.C_F k59_heap HR0.out) (by repeat (first | (with_reducible first | exact HB.out | apply below_alloc | apply pw_below_drewN | apply below_drew1) | exact HB.out)))); (case side2 => repeat (first | exact (Kd.C_below HR1.out HB.out) | (with_reducible refine Kd.C_alloc ?_ _) | (with_reducible refine Kd.C_drewN ?_ _) | (with_reducible refine Kd.C_drew ?_))); (case side3 => exact HC1.out); rintro e w17 ⟨v317, rfl, ho0, hb⟩; have n0_ := Aside0.mk (Kd.R_below (by (with_reducible repeat (first | apply Kd.R_alloc | apply Kd.R_drewN | apply Kd.R_drew)); exact HO315.out) hb); have n1_ := Aside0.mk (Kd.V_lower (Kd.V_mono (ok' := fun k_ => some k_ ≠ (v314 : Value).ownBlock) ho0 (fun k_ hk_ => Or.elim hk_ (fun hs_ => fun e_ => Nat.not_le.2 hs_ (Kd.R_base HO315.out k_ e_.symm)) (fun hn_ => (Kd.fresh' (Kd.R_lt (by (with_reducible repeat (first | apply Kd.R_alloc | apply Kd.R_drewN | apply Kd.R_drew)); exact HO315.out)) k_ hn_)))) (below_size (by repeat (first | (with_reducible first | exact HB.out | apply below_alloc | apply pw_below_drewN | apply below_drew1) | exact HB.out)))); have n2_ := Aside0.mk (below_step (by repeat (first | (with_reducible first | exact HB.out | apply below_alloc | apply pw_below_drewN | apply below_drew1) | exact HB.out)) hb); clear HO315; clear HB; have HO315 := n0_; have HO318 := n1_; have HB := n2_; clear n0_ n1_ n2_; (try clear hb); (try clear hb2); (try clear hk); (try clear hi); (try clear ho0))); go_upto_region 5 with (first | ((with_reducible refine gate_dst (N := 26) rfl ?_); (try (refine gate_guard (by rfl) ?_; dsimp only)); refine Kd.R_lit k59 _ 59 ?hg (N := 26) ?hd (xs := ([] : List (S59))) (inner := []) (ok := fun _ => True) (okp := fun _ => True) ?hr ?hp (fun _ hk => hk) trivial (Below.refl _ _) (Nat.le_refl _) (by simp) ?_; (case hd => rfl); (case hg => rfl); (case hr => first | (go_simp; done) | (go_simp; rfl)); (case hp => exact (Reps.none _ _)); intro v311 w14 ho15 hb hg_ hnew_; clear hg_ hnew_; (first | rw [← Ny310.out] at ho15 | (simp only [Int.reduceToNat] at ho15; rw [← Ny310.out] at ho15)); have n0_ := Aside0.mk (Kd.R_lower ho15 (below_size (by repeat (first | (with_reducible first | exact HB.out | apply below_alloc | apply pw_below_drewN | apply below_drew1) | exact HB.out)))); have n1_ := Aside0.mk (below_step (by repeat (first | (with_reducible first | exact HB.out | apply below_alloc | apply pw_below_drewN | apply below_drew1) | exact HB.out)) hb); clear HB; have HO312 := n0_; have HB := n1_; clear n0_ n1_; clear hb ho15) | ((with_reducible refine gate_builtin (b := .append) (xs := #[.tmp 26, .tmp 27]) rfl ?_); (try (refine gate_guard (by rfl) ?_; dsimp only)); at_builtin; refine Kd.R_append_rows k59 (w0 := w) w.heap.size rfl (.tmp 26) (.tmp 27) 34 59 (.agg #[(.bool false), (.int .i64 0)]) 16 rfl Try.underlying34 info59 rfl (by decide) (by omega) v311 y310 l0 _ _ _ (fun _ => True) (fun _ => False) rfl rfl ?aO ?aR (fun _ _ h => h) (fun _ h => h.elim) ?aF ?aB ?aS ?aL ?_; (case aR => repeat (first | exact (Kd.C_below HR0.out HB.out) | (with_reducible refine Kd.C_alloc ?_ _) | (with_reducible refine Kd.C_drewN ?_ _) | (with_reducible refine Kd.C_drew ?_))); (case aB => exact (by repeat (first | (with_reducible first | exact HB.out | apply below_alloc | apply pw_below_drewN | apply below_drew1) | exact HB.out))); (case aF => exact (fun _ _ => trivial)); (case aO => exact (by (with_reducible repeat (first | apply Kd.R_alloc | apply Kd.R_drewN | apply Kd.R_drew)); exact HO312.out)); (case aS => exact (below_size (by repeat (first | (with_reducible first | exact HB.out | apply below_alloc | apply pw_below_drewN | apply below_drew1) | exact HB.out)))); (case aL => have := LMc11.out; omega); intro v314 w16 ho hb hg hat; rw [← Ny313.out] at ho; have n0_ := Aside0.mk (hb); have n1_ := Aside0.mk (ho); clear HB; clear HO312; have HB := n0_; have HO315 := n1_; clear n0_ n1_; clear ho hb hg hat) | (go_at_call 32; (with_reducible refine (heap_Put.calls kj2 (fun k_ => k_ < w.heap.size) _ _ l0 _ _ l1 t316 t319 _ ?side1 ?side2 ?side3 A12.out).mono ?_); (case side1 => exact Kd.V_mk HC0.out (Kd.F_below (Kd.C_F k59_heap HR0.out) (by repeat (first | (with_reducible first | exact HB.out | apply below_alloc | apply pw_below_drewN | apply below_drew1) | exact HB.out)))); (case side2 => repeat (first | exact (Kd.C_below HR1.out HB.out) | (with_reducible refine Kd.C_alloc ?_ _) | (with_reducible refine Kd.C_drewN ?_ _) | (with_reducible refine Kd.C_drew ?_))); (case side3 => exact HC1.out); rintro e w17 ⟨v317, rfl, ho0, hb⟩; have n0_ := Aside0.mk (Kd.R_below (by (with_reducible repeat (first | apply Kd.R_alloc | apply Kd.R_drewN | apply Kd.R_drew)); exact HO315.out) hb); have n1_ := Aside0.mk (Kd.V_lower (Kd.V_mono (ok' := fun k_ => some k_ ≠ (v314 : Value).ownBlock) ho0 (fun k_ hk_ => Or.elim hk_ (fun hs_ => fun e_ => Nat.not_le.2 hs_ (Kd.R_base HO315.out k_ e_.symm)) (fun hn_ => (Kd.fresh' (Kd.R_lt (by (with_reducible repeat (first | apply Kd.R_alloc | apply Kd.R_drewN | apply Kd.R_drew)); exact HO315.out)) k_ hn_)))) (below_size (by repeat (first | (with_reducible first | exact HB.out | apply below_alloc | apply pw_below_drewN | apply below_drew1) | exact HB.out)))); have n2_ := Aside0.mk (below_step (by repeat (first | (with_reducible first | exact HB.out | apply below_alloc | apply pw_below_drewN | apply below_drew1) | exact HB.out)) hb); clear HO315; clear HB; have HO315 := n0_; have HO318 := n1_; have HB := n2_; clear n0_ n1_ n2_; (try clear hb); (try clear hb2); (try clear hk); (try clear hi); (try clear ho0))))
          (try simp only [Act.put, List.setIfInBounds_toArray, List.set_cons_zero, List.set_cons_succ])
          go_cut [55] (fun v55 wc => ∃ (kq : Nat) (x55_12 : Bool), v55 = .bool x55_12 ∧ Aside0 (handshakerlaw02_HeapPuts.j1 kq l0 l1 t316 t319 x55_12 = some r) ∧ Aside0 (kq ≤ kj2) ∧ Aside0 (Kd.V k59 59 wc w.heap.size (fun _ => True) v317 t316) ∧ Aside0 (Below w.heap.size w wc))
          case first =>
            have H := HC13.out
            clear HC13
            replace H := Option.bind_eq_some_iff.mp H
            obtain ⟨t320, A180, H⟩ := H
            replace H : (if t320 = true then (if t319 = 0 then (handshakerlaw02_HeapPuts.j1 kj2 l0 l1 t316 t319 ((t316.length : Int) != (l0.length : Int))) else ((handshakerref02_Same.f kj2 t316 l0).bind fun t321 => (if t321 = true then (handshakerlaw02_HeapPuts.j1 kj2 l0 l1 t316 t319 ((t316.length : Int) != (l0.length : Int))) else (handshakerlaw02_HeapPuts.j1 kj2 l0 l1 t316 t319 true)))) else (handshakerlaw02_HeapPuts.j1 kj2 l0 l1 t316 t319 true)) = some r := H
            have A18 := Aside0.mk A180
            clear A180
            by_cases c19 : t320 = true
            · subst c19
              have H1 : (if t319 = 0 then (handshakerlaw02_HeapPuts.j1 kj2 l0 l1 t316 t319 ((t316.length : Int) != (l0.length : Int))) else ((handshakerref02_Same.f kj2 t316 l0).bind fun t321 => (if t321 = true then (handshakerlaw02_HeapPuts.j1 kj2 l0 l1 t316 t319 ((t316.length : Int) != (l0.length : Int))) else (handshakerlaw02_HeapPuts.j1 kj2 l0 l1 t316 t319 true)))) = some r := by rw [if_pos rfl] at H; exact H
              clear H
              have H := H1
              clear H1
              by_cases c20 : t319 = 0
              · rw [if_pos c20] at H
                have c20b0 : (t319 == 0) = true := beq_iff_eq.mpr c20
                have c20b1 : (t319 != 0) = false := bne_eq_false_iff_eq.mpr c20
                clear c20
                (first | rw [c20b0] | (simp only [i64_w, i32_w]; rw [c20b0]) | skip)
                have H' := Aside0.mk H
                clear H
                obtain ⟨Ao21, co21, eo21⟩ := Kd.R_slice HO315.out
                subst eo21
                go_wp2_with (first | (go_at_call 36; (with_reducible refine (handshakerref02_Same.calls kj2 _ _ l0 _ _ y313 true _ ?side1 ?side2 ?side3 ?side4 A18.out).mono ?_); (case side1 => repeat (first | exact (Kd.C_below HR0.out HB.out) | (with_reducible refine Kd.C_alloc ?_ _) | (with_reducible refine Kd.C_drewN ?_ _) | (with_reducible refine Kd.C_drew ?_))); (case side2 => exact HC0.out); (case side3 => repeat (first | exact (Kd.R_reads' HO315.out).2.2 | (with_reducible refine Kd.C_alloc ?_ _) | (with_reducible refine Kd.C_drewN ?_ _) | (with_reducible refine Kd.C_drew ?_))); (case side4 => exact (Kd.R_reads' HO315.out).2.1); rintro e w' ⟨rfl, ⟨nd, rfl⟩⟩; (try first | exact ⟨rfl, _, World.drewN_drewN _ _ _⟩ | exact ⟨rfl, _, Eq.trans (World.drewN_drewN _ _ _) (congrArg (World.drewN _) (Nat.add_assoc _ _ _))⟩); obtain ⟨Ao22, co22, eo22⟩ := Kd.V_slice HO318.out; subst eo22))
                repeat (go_quiet (first | (go_at_call 36; (with_reducible refine (handshakerref02_Same.calls kj2 _ _ l0 _ _ y313 true _ ?side1 ?side2 ?side3 ?side4 A18.out).mono ?_); (case side1 => repeat (first | exact (Kd.C_below HR0.out HB.out) | (with_reducible refine Kd.C_alloc ?_ _) | (with_reducible refine Kd.C_drewN ?_ _) | (with_reducible refine Kd.C_drew ?_))); (case side2 => exact HC0.out); (case side3 => repeat (first | exact (Kd.R_reads' HO315.out).2.2 | (with_reducible refine Kd.C_alloc ?_ _) | (with_reducible refine Kd.C_drewN ?_ _) | (with_reducible refine Kd.C_drew ?_))); (case side4 => exact (Kd.R_reads' HO315.out).2.1); rintro e w' ⟨rfl, ⟨nd, rfl⟩⟩; (try first | exact ⟨rfl, _, World.drewN_drewN _ _ _⟩ | exact ⟨rfl, _, Eq.trans (World.drewN_drewN _ _ _) (congrArg (World.drewN _) (Nat.add_assoc _ _ _))⟩); obtain ⟨Ao22, co22, eo22⟩ := Kd.V_slice HO318.out; subst eo22)); try go_wp2_with (first | (go_at_call 36; (with_reducible refine (handshakerref02_Same.calls kj2 _ _ l0 _ _ y313 true _ ?side1 ?side2 ?side3 ?side4 A18.out).mono ?_); (case side1 => repeat (first | exact (Kd.C_below HR0.out HB.out) | (with_reducible refine Kd.C_alloc ?_ _) | (with_reducible refine Kd.C_drewN ?_ _) | (with_reducible refine Kd.C_drew ?_))); (case side2 => exact HC0.out); (case side3 => repeat (first | exact (Kd.R_reads' HO315.out).2.2 | (with_reducible refine Kd.C_alloc ?_ _) | (with_reducible refine Kd.C_drewN ?_ _) | (with_reducible refine Kd.C_drew ?_))); (case side4 => exact (Kd.R_reads' HO315.out).2.1); rintro e w' ⟨rfl, ⟨nd, rfl⟩⟩; (try first | exact ⟨rfl, _, World.drewN_drewN _ _ _⟩ | exact ⟨rfl, _, Eq.trans (World.drewN_drewN _ _ _) (congrArg (World.drewN _) (Nat.add_assoc _ _ _))⟩); obtain ⟨Ao22, co22, eo22⟩ := Kd.V_slice HO318.out; subst eo22)))
                go_meet
                case rel => exact ⟨_, (((t316.length : Int) != (l0.length : Int))), (by first | rfl | (simp; done) | (simp [*]; done)), H', ⟨by have := HJ2.out; first | omega | exact Nat.le_refl _⟩, ⟨by (with_reducible repeat (first | apply Kd.V_alloc | apply Kd.V_drewN | apply Kd.V_drew)); exact Kd.V_mono HO318.out (fun _ hk => trivial)⟩, ⟨by repeat (first | (with_reducible first | exact HB.out | apply below_alloc | apply pw_below_drewN | apply below_drew1) | exact HB.out)⟩⟩
              · rw [if_neg c20] at H
                have c20b0 : (t319 == 0) = false := beq_eq_false_iff_ne.mpr c20
                have c20b1 : (t319 != 0) = true := bne_iff_ne.mpr c20
                (first | rw [c20b0] | (simp only [i64_w, i32_w]; rw [c20b0]) | skip)
                replace H := Option.bind_eq_some_iff.mp H
                obtain ⟨t321, A230, H⟩ := H
                replace H : (if t321 = true then (handshakerlaw02_HeapPuts.j1 kj2 l0 l1 t316 t319 ((t316.length : Int) != (l0.length : Int))) else (handshakerlaw02_HeapPuts.j1 kj2 l0 l1 t316 t319 true)) = some r := H
                have A23 := Aside0.mk A230
                clear A230
                by_cases c24 : t321 = true
                · subst c24
                  have H1 : (handshakerlaw02_HeapPuts.j1 kj2 l0 l1 t316 t319 ((t316.length : Int) != (l0.length : Int))) = some r := by rw [if_pos rfl] at H; exact H
                  clear H
                  have H := H1
                  clear H1
                  have H' := Aside0.mk H
                  clear H
                  obtain ⟨Ao25, co25, eo25⟩ := Kd.R_slice HO315.out
                  subst eo25
                  go_wp2_with (first | (go_at_call 36; (with_reducible refine (handshakerref02_Same.calls kj2 _ _ l0 _ _ y313 true _ ?side1 ?side2 ?side3 ?side4 A18.out).mono ?_); (case side1 => repeat (first | exact (Kd.C_below HR0.out HB.out) | (with_reducible refine Kd.C_alloc ?_ _) | (with_reducible refine Kd.C_drewN ?_ _) | (with_reducible refine Kd.C_drew ?_))); (case side2 => exact HC0.out); (case side3 => repeat (first | exact (Kd.R_reads' HO315.out).2.2 | (with_reducible refine Kd.C_alloc ?_ _) | (with_reducible refine Kd.C_drewN ?_ _) | (with_reducible refine Kd.C_drew ?_))); (case side4 => exact (Kd.R_reads' HO315.out).2.1); rintro e w' ⟨rfl, ⟨nd, rfl⟩⟩; (try first | exact ⟨rfl, _, World.drewN_drewN _ _ _⟩ | exact ⟨rfl, _, Eq.trans (World.drewN_drewN _ _ _) (congrArg (World.drewN _) (Nat.add_assoc _ _ _))⟩); obtain ⟨Ao26, co26, eo26⟩ := Kd.V_slice HO318.out; subst eo26) | (go_at_call 36; (with_reducible refine (handshakerref02_Same.calls kj2 _ _ t316 _ _ l0 true _ ?side1 ?side2 ?side3 ?side4 A23.out).mono ?_); (case side1 => repeat (first | exact (Kd.V_reads' HO318.out).2.2 | (with_reducible refine Kd.C_alloc ?_ _) | (with_reducible refine Kd.C_drewN ?_ _) | (with_reducible refine Kd.C_drew ?_))); (case side2 => exact (Kd.V_reads' HO318.out).2.1); (case side3 => repeat (first | exact (Kd.C_below HR0.out (by repeat (first | (with_reducible first | exact HB.out | apply below_alloc | apply pw_below_drewN | apply below_drew1) | exact HB.out))) | (with_reducible refine Kd.C_alloc ?_ _) | (with_reducible refine Kd.C_drewN ?_ _) | (with_reducible refine Kd.C_drew ?_))); (case side4 => exact HC0.out); rintro e w' ⟨rfl, ⟨nd, rfl⟩⟩; (try first | exact ⟨rfl, _, World.drewN_drewN _ _ _⟩ | exact ⟨rfl, _, Eq.trans (World.drewN_drewN _ _ _) (congrArg (World.drewN _) (Nat.add_assoc _ _ _))⟩)))
                  repeat (go_quiet (first | (go_at_call 36; (with_reducible refine (handshakerref02_Same.calls kj2 _ _ l0 _ _ y313 true _ ?side1 ?side2 ?side3 ?side4 A18.out).mono ?_); (case side1 => repeat (first | exact (Kd.C_below HR0.out HB.out) | (with_reducible refine Kd.C_alloc ?_ _) | (with_reducible refine Kd.C_drewN ?_ _) | (with_reducible refine Kd.C_drew ?_))); (case side2 => exact HC0.out); (case side3 => repeat (first | exact (Kd.R_reads' HO315.out).2.2 | (with_reducible refine Kd.C_alloc ?_ _) | (with_reducible refine Kd.C_drewN ?_ _) | (with_reducible refine Kd.C_drew ?_))); (case side4 => exact (Kd.R_reads' HO315.out).2.1); rintro e w' ⟨rfl, ⟨nd, rfl⟩⟩; (try first | exact ⟨rfl, _, World.drewN_drewN _ _ _⟩ | exact ⟨rfl, _, Eq.trans (World.drewN_drewN _ _ _) (congrArg (World.drewN _) (Nat.add_assoc _ _ _))⟩); obtain ⟨Ao26, co26, eo26⟩ := Kd.V_slice HO318.out; subst eo26) | (go_at_call 36; (with_reducible refine (handshakerref02_Same.calls kj2 _ _ t316 _ _ l0 true _ ?side1 ?side2 ?side3 ?side4 A23.out).mono ?_); (case side1 => repeat (first | exact (Kd.V_reads' HO318.out).2.2 | (with_reducible refine Kd.C_alloc ?_ _) | (with_reducible refine Kd.C_drewN ?_ _) | (with_reducible refine Kd.C_drew ?_))); (case side2 => exact (Kd.V_reads' HO318.out).2.1); (case side3 => repeat (first | exact (Kd.C_below HR0.out (by repeat (first | (with_reducible first | exact HB.out | apply below_alloc | apply pw_below_drewN | apply below_drew1) | exact HB.out))) | (with_reducible refine Kd.C_alloc ?_ _) | (with_reducible refine Kd.C_drewN ?_ _) | (with_reducible refine Kd.C_drew ?_))); (case side4 => exact HC0.out); rintro e w' ⟨rfl, ⟨nd, rfl⟩⟩; (try first | exact ⟨rfl, _, World.drewN_drewN _ _ _⟩ | exact ⟨rfl, _, Eq.trans (World.drewN_drewN _ _ _) (congrArg (World.drewN _) (Nat.add_assoc _ _ _))⟩))); try go_wp2_with (first | (go_at_call 36; (with_reducible refine (handshakerref02_Same.calls kj2 _ _ l0 _ _ y313 true _ ?side1 ?side2 ?side3 ?side4 A18.out).mono ?_); (case side1 => repeat (first | exact (Kd.C_below HR0.out HB.out) | (with_reducible refine Kd.C_alloc ?_ _) | (with_reducible refine Kd.C_drewN ?_ _) | (with_reducible refine Kd.C_drew ?_))); (case side2 => exact HC0.out); (case side3 => repeat (first | exact (Kd.R_reads' HO315.out).2.2 | (with_reducible refine Kd.C_alloc ?_ _) | (with_reducible refine Kd.C_drewN ?_ _) | (with_reducible refine Kd.C_drew ?_))); (case side4 => exact (Kd.R_reads' HO315.out).2.1); rintro e w' ⟨rfl, ⟨nd, rfl⟩⟩; (try first | exact ⟨rfl, _, World.drewN_drewN _ _ _⟩ | exact ⟨rfl, _, Eq.trans (World.drewN_drewN _ _ _) (congrArg (World.drewN _) (Nat.add_assoc _ _ _))⟩); obtain ⟨Ao26, co26, eo26⟩ := Kd.V_slice HO318.out; subst eo26) | (go_at_call 36; (with_reducible refine (handshakerref02_Same.calls kj2 _ _ t316 _ _ l0 true _ ?side1 ?side2 ?side3 ?side4 A23.out).mono ?_); (case side1 => repeat (first | exact (Kd.V_reads' HO318.out).2.2 | (with_reducible refine Kd.C_alloc ?_ _) | (with_reducible refine Kd.C_drewN ?_ _) | (with_reducible refine Kd.C_drew ?_))); (case side2 => exact (Kd.V_reads' HO318.out).2.1); (case side3 => repeat (first | exact (Kd.C_below HR0.out (by repeat (first | (with_reducible first | exact HB.out | apply below_alloc | apply pw_below_drewN | apply below_drew1) | exact HB.out))) | (with_reducible refine Kd.C_alloc ?_ _) | (with_reducible refine Kd.C_drewN ?_ _) | (with_reducible refine Kd.C_drew ?_))); (case side4 => exact HC0.out); rintro e w' ⟨rfl, ⟨nd, rfl⟩⟩; (try first | exact ⟨rfl, _, World.drewN_drewN _ _ _⟩ | exact ⟨rfl, _, Eq.trans (World.drewN_drewN _ _ _) (congrArg (World.drewN _) (Nat.add_assoc _ _ _))⟩))))
                  go_meet
                  case rel => exact ⟨_, (((t316.length : Int) != (l0.length : Int))), (by first | rfl | (simp; done) | (simp [*]; done)), H', ⟨by have := HJ2.out; first | omega | exact Nat.le_refl _⟩, ⟨by (with_reducible repeat (first | apply Kd.V_alloc | apply Kd.V_drewN | apply Kd.V_drew)); exact Kd.V_mono HO318.out (fun _ hk => trivial)⟩, ⟨by repeat (first | (with_reducible first | exact HB.out | apply below_alloc | apply pw_below_drewN | apply below_drew1) | exact HB.out)⟩⟩
                · replace c24 := Bool.eq_false_iff.mpr c24
                  subst c24
                  have H1 : (handshakerlaw02_HeapPuts.j1 kj2 l0 l1 t316 t319 true) = some r := by rw [if_neg (show ¬ (false = true) by decide)] at H; exact H
                  clear H
                  have H := H1
                  clear H1
                  have H' := Aside0.mk H
                  clear H
                  obtain ⟨Ao27, co27, eo27⟩ := Kd.R_slice HO315.out
                  subst eo27
                  go_wp2_with (first | (go_at_call 36; (with_reducible refine (handshakerref02_Same.calls kj2 _ _ l0 _ _ y313 true _ ?side1 ?side2 ?side3 ?side4 A18.out).mono ?_); (case side1 => repeat (first | exact (Kd.C_below HR0.out HB.out) | (with_reducible refine Kd.C_alloc ?_ _) | (with_reducible refine Kd.C_drewN ?_ _) | (with_reducible refine Kd.C_drew ?_))); (case side2 => exact HC0.out); (case side3 => repeat (first | exact (Kd.R_reads' HO315.out).2.2 | (with_reducible refine Kd.C_alloc ?_ _) | (with_reducible refine Kd.C_drewN ?_ _) | (with_reducible refine Kd.C_drew ?_))); (case side4 => exact (Kd.R_reads' HO315.out).2.1); rintro e w' ⟨rfl, ⟨nd, rfl⟩⟩; (try first | exact ⟨rfl, _, World.drewN_drewN _ _ _⟩ | exact ⟨rfl, _, Eq.trans (World.drewN_drewN _ _ _) (congrArg (World.drewN _) (Nat.add_assoc _ _ _))⟩); obtain ⟨Ao28, co28, eo28⟩ := Kd.V_slice HO318.out; subst eo28) | (go_at_call 36; (with_reducible refine (handshakerref02_Same.calls kj2 _ _ t316 _ _ l0 false _ ?side1 ?side2 ?side3 ?side4 A23.out).mono ?_); (case side1 => repeat (first | exact (Kd.V_reads' HO318.out).2.2 | (with_reducible refine Kd.C_alloc ?_ _) | (with_reducible refine Kd.C_drewN ?_ _) | (with_reducible refine Kd.C_drew ?_))); (case side2 => exact (Kd.V_reads' HO318.out).2.1); (case side3 => repeat (first | exact (Kd.C_below HR0.out (by repeat (first | (with_reducible first | exact HB.out | apply below_alloc | apply pw_below_drewN | apply below_drew1) | exact HB.out))) | (with_reducible refine Kd.C_alloc ?_ _) | (with_reducible refine Kd.C_drewN ?_ _) | (with_reducible refine Kd.C_drew ?_))); (case side4 => exact HC0.out); rintro e w' ⟨rfl, ⟨nd, rfl⟩⟩; (try first | exact ⟨rfl, _, World.drewN_drewN _ _ _⟩ | exact ⟨rfl, _, Eq.trans (World.drewN_drewN _ _ _) (congrArg (World.drewN _) (Nat.add_assoc _ _ _))⟩)))
                  repeat (go_quiet (first | (go_at_call 36; (with_reducible refine (handshakerref02_Same.calls kj2 _ _ l0 _ _ y313 true _ ?side1 ?side2 ?side3 ?side4 A18.out).mono ?_); (case side1 => repeat (first | exact (Kd.C_below HR0.out HB.out) | (with_reducible refine Kd.C_alloc ?_ _) | (with_reducible refine Kd.C_drewN ?_ _) | (with_reducible refine Kd.C_drew ?_))); (case side2 => exact HC0.out); (case side3 => repeat (first | exact (Kd.R_reads' HO315.out).2.2 | (with_reducible refine Kd.C_alloc ?_ _) | (with_reducible refine Kd.C_drewN ?_ _) | (with_reducible refine Kd.C_drew ?_))); (case side4 => exact (Kd.R_reads' HO315.out).2.1); rintro e w' ⟨rfl, ⟨nd, rfl⟩⟩; (try first | exact ⟨rfl, _, World.drewN_drewN _ _ _⟩ | exact ⟨rfl, _, Eq.trans (World.drewN_drewN _ _ _) (congrArg (World.drewN _) (Nat.add_assoc _ _ _))⟩); obtain ⟨Ao28, co28, eo28⟩ := Kd.V_slice HO318.out; subst eo28) | (go_at_call 36; (with_reducible refine (handshakerref02_Same.calls kj2 _ _ t316 _ _ l0 false _ ?side1 ?side2 ?side3 ?side4 A23.out).mono ?_); (case side1 => repeat (first | exact (Kd.V_reads' HO318.out).2.2 | (with_reducible refine Kd.C_alloc ?_ _) | (with_reducible refine Kd.C_drewN ?_ _) | (with_reducible refine Kd.C_drew ?_))); (case side2 => exact (Kd.V_reads' HO318.out).2.1); (case side3 => repeat (first | exact (Kd.C_below HR0.out (by repeat (first | (with_reducible first | exact HB.out | apply below_alloc | apply pw_below_drewN | apply below_drew1) | exact HB.out))) | (with_reducible refine Kd.C_alloc ?_ _) | (with_reducible refine Kd.C_drewN ?_ _) | (with_reducible refine Kd.C_drew ?_))); (case side4 => exact HC0.out); rintro e w' ⟨rfl, ⟨nd, rfl⟩⟩; (try first | exact ⟨rfl, _, World.drewN_drewN _ _ _⟩ | exact ⟨rfl, _, Eq.trans (World.drewN_drewN _ _ _) (congrArg (World.drewN _) (Nat.add_assoc _ _ _))⟩))); try go_wp2_with (first | (go_at_call 36; (with_reducible refine (handshakerref02_Same.calls kj2 _ _ l0 _ _ y313 true _ ?side1 ?side2 ?side3 ?side4 A18.out).mono ?_); (case side1 => repeat (first | exact (Kd.C_below HR0.out HB.out) | (with_reducible refine Kd.C_alloc ?_ _) | (with_reducible refine Kd.C_drewN ?_ _) | (with_reducible refine Kd.C_drew ?_))); (case side2 => exact HC0.out); (case side3 => repeat (first | exact (Kd.R_reads' HO315.out).2.2 | (with_reducible refine Kd.C_alloc ?_ _) | (with_reducible refine Kd.C_drewN ?_ _) | (with_reducible refine Kd.C_drew ?_))); (case side4 => exact (Kd.R_reads' HO315.out).2.1); rintro e w' ⟨rfl, ⟨nd, rfl⟩⟩; (try first | exact ⟨rfl, _, World.drewN_drewN _ _ _⟩ | exact ⟨rfl, _, Eq.trans (World.drewN_drewN _ _ _) (congrArg (World.drewN _) (Nat.add_assoc _ _ _))⟩); obtain ⟨Ao28, co28, eo28⟩ := Kd.V_slice HO318.out; subst eo28) | (go_at_call 36; (with_reducible refine (handshakerref02_Same.calls kj2 _ _ t316 _ _ l0 false _ ?side1 ?side2 ?side3 ?side4 A23.out).mono ?_); (case side1 => repeat (first | exact (Kd.V_reads' HO318.out).2.2 | (with_reducible refine Kd.C_alloc ?_ _) | (with_reducible refine Kd.C_drewN ?_ _) | (with_reducible refine Kd.C_drew ?_))); (case side2 => exact (Kd.V_reads' HO318.out).2.1); (case side3 => repeat (first | exact (Kd.C_below HR0.out (by repeat (first | (with_reducible first | exact HB.out | apply below_alloc | apply pw_below_drewN | apply below_drew1) | exact HB.out))) | (with_reducible refine Kd.C_alloc ?_ _) | (with_reducible refine Kd.C_drewN ?_ _) | (with_reducible refine Kd.C_drew ?_))); (case side4 => exact HC0.out); rintro e w' ⟨rfl, ⟨nd, rfl⟩⟩; (try first | exact ⟨rfl, _, World.drewN_drewN _ _ _⟩ | exact ⟨rfl, _, Eq.trans (World.drewN_drewN _ _ _) (congrArg (World.drewN _) (Nat.add_assoc _ _ _))⟩))))
                  go_meet
                  case rel => exact ⟨_, (true), (by first | rfl | (simp; done) | (simp [*]; done)), H', ⟨by have := HJ2.out; first | omega | exact Nat.le_refl _⟩, ⟨by (with_reducible repeat (first | apply Kd.V_alloc | apply Kd.V_drewN | apply Kd.V_drew)); exact Kd.V_mono HO318.out (fun _ hk => trivial)⟩, ⟨by repeat (first | (with_reducible first | exact HB.out | apply below_alloc | apply pw_below_drewN | apply below_drew1) | exact HB.out)⟩⟩
            · replace c19 := Bool.eq_false_iff.mpr c19
              subst c19
              have H1 : (handshakerlaw02_HeapPuts.j1 kj2 l0 l1 t316 t319 true) = some r := by rw [if_neg (show ¬ (false = true) by decide)] at H; exact H
              clear H
              have H := H1
              clear H1
              have H' := Aside0.mk H
              clear H
              obtain ⟨Ao29, co29, eo29⟩ := Kd.R_slice HO315.out
              subst eo29
              go_wp2_with (first | (go_at_call 36; (with_reducible refine (handshakerref02_Same.calls kj2 _ _ l0 _ _ y313 false _ ?side1 ?side2 ?side3 ?side4 A18.out).mono ?_); (case side1 => repeat (first | exact (Kd.C_below HR0.out HB.out) | (with_reducible refine Kd.C_alloc ?_ _) | (with_reducible refine Kd.C_drewN ?_ _) | (with_reducible refine Kd.C_drew ?_))); (case side2 => exact HC0.out); (case side3 => repeat (first | exact (Kd.R_reads' HO315.out).2.2 | (with_reducible refine Kd.C_alloc ?_ _) | (with_reducible refine Kd.C_drewN ?_ _) | (with_reducible refine Kd.C_drew ?_))); (case side4 => exact (Kd.R_reads' HO315.out).2.1); rintro e w' ⟨rfl, ⟨nd, rfl⟩⟩; (try first | exact ⟨rfl, _, World.drewN_drewN _ _ _⟩ | exact ⟨rfl, _, Eq.trans (World.drewN_drewN _ _ _) (congrArg (World.drewN _) (Nat.add_assoc _ _ _))⟩)))
              repeat (go_quiet (first | (go_at_call 36; (with_reducible refine (handshakerref02_Same.calls kj2 _ _ l0 _ _ y313 false _ ?side1 ?side2 ?side3 ?side4 A18.out).mono ?_); (case side1 => repeat (first | exact (Kd.C_below HR0.out HB.out) | (with_reducible refine Kd.C_alloc ?_ _) | (with_reducible refine Kd.C_drewN ?_ _) | (with_reducible refine Kd.C_drew ?_))); (case side2 => exact HC0.out); (case side3 => repeat (first | exact (Kd.R_reads' HO315.out).2.2 | (with_reducible refine Kd.C_alloc ?_ _) | (with_reducible refine Kd.C_drewN ?_ _) | (with_reducible refine Kd.C_drew ?_))); (case side4 => exact (Kd.R_reads' HO315.out).2.1); rintro e w' ⟨rfl, ⟨nd, rfl⟩⟩; (try first | exact ⟨rfl, _, World.drewN_drewN _ _ _⟩ | exact ⟨rfl, _, Eq.trans (World.drewN_drewN _ _ _) (congrArg (World.drewN _) (Nat.add_assoc _ _ _))⟩))); try go_wp2_with (first | (go_at_call 36; (with_reducible refine (handshakerref02_Same.calls kj2 _ _ l0 _ _ y313 false _ ?side1 ?side2 ?side3 ?side4 A18.out).mono ?_); (case side1 => repeat (first | exact (Kd.C_below HR0.out HB.out) | (with_reducible refine Kd.C_alloc ?_ _) | (with_reducible refine Kd.C_drewN ?_ _) | (with_reducible refine Kd.C_drew ?_))); (case side2 => exact HC0.out); (case side3 => repeat (first | exact (Kd.R_reads' HO315.out).2.2 | (with_reducible refine Kd.C_alloc ?_ _) | (with_reducible refine Kd.C_drewN ?_ _) | (with_reducible refine Kd.C_drew ?_))); (case side4 => exact (Kd.R_reads' HO315.out).2.1); rintro e w' ⟨rfl, ⟨nd, rfl⟩⟩; (try first | exact ⟨rfl, _, World.drewN_drewN _ _ _⟩ | exact ⟨rfl, _, Eq.trans (World.drewN_drewN _ _ _) (congrArg (World.drewN _) (Nat.add_assoc _ _ _))⟩))))
              go_meet
              case rel => exact ⟨_, (true), (by first | rfl | (simp; done) | (simp [*]; done)), H', ⟨by have := HJ2.out; first | omega | exact Nat.le_refl _⟩, ⟨by (with_reducible repeat (first | apply Kd.V_alloc | apply Kd.V_drewN | apply Kd.V_drew)); exact Kd.V_mono HO318.out (fun _ hk => trivial)⟩, ⟨by repeat (first | (with_reducible first | exact HB.out | apply below_alloc | apply pw_below_drewN | apply below_drew1) | exact HB.out)⟩⟩
          case rest =>
            clear HC13
            try clear c1
            try clear c2
            try clear p2
            try clear c4
            try clear c4b0
            try clear c4b1
            try clear c5
            try clear c5b0
            try clear c5b1
            try clear c8
            try clear c11
            try clear c12
            try clear c19
            try clear c20
            try clear c20b0
            try clear c20b1
            try clear c24
            try clear p2
            obtain ⟨kq, x55_12, rfl, HA, HJ12, HO_6, HB⟩ := hcut
            cases kq with
            | zero => exact absurd HA.out (by simp [handshakerlaw02_HeapPuts.j1])
            | succ kj12 =>
              have H := HA.out
              clear HA
              simp only [handshakerlaw02_HeapPuts.j1] at H
              by_cases c30 : x55_12 = true
              · subst c30
                have H1 : (some false) = some r := by rw [if_pos rfl] at H; exact H
                clear H
                have H := H1
                clear H1
                exact absurd (Option.some.inj H) (by rw [HT.out]; decide)
              · replace c30 := Bool.eq_false_iff.mpr c30
                subst c30
                have H1 : (handshakerlaw02_HeapPuts.l0 kj12 l0 l1 t316 t319 (l0.length : Int) 0) = some r := by rw [if_neg (show ¬ (false = true) by decide)] at H; exact H
                clear H
                have H := H1
                clear H1
                have H' := Aside0.mk H
                clear H
                go_wp2
                repeat (go_quiet (fail); try go_wp2)
                go_loopg [58] kj12 (fun kq v58 w' => ∃ (x58_3 : Int), v58 = .int .i64 x58_3 ∧ Aside0 (handshakerlaw02_HeapPuts.l0 kq l0 l1 t316 t319 (l0.length : Int) x58_3 = some r) ∧ Aside0 (kq ≤ kj12) ∧ Aside0 (Kd.V k59 59 w' w.heap.size (fun _ => True) v317 t316) ∧ Aside0 (Below w.heap.size w w'))
                case atStart => exact ⟨(0), (by first | rfl | (simp; done) | (simp [*]; done)), H', ⟨Nat.le_refl _⟩, ⟨by (with_reducible repeat (first | apply Kd.V_alloc | apply Kd.V_drewN | apply Kd.V_drew)); exact HO_6.out⟩, ⟨by repeat (first | (with_reducible first | exact HB.out | apply below_alloc | apply pw_below_drewN | apply below_drew1) | exact HB.out)⟩⟩
                case round =>
                  clear H'
                  try clear c1
                  try clear c2
                  try clear p2
                  try clear c3
                  try clear c4
                  try clear c4b0
                  try clear c4b1
                  try clear c5
                  try clear c5b0
                  try clear c5b1
                  try clear c8
                  try clear c11
                  try clear c12
                  try clear c19
                  try clear c20
                  try clear c20b0
                  try clear c20b1
                  try clear c24
                  try clear c30
                  try clear p2
                  obtain ⟨x58_3, rfl, HA, HK3, HO_6, HB⟩ := hrel
                  cases gk with
                  | zero => exact absurd HA.out (by simp [handshakerlaw02_HeapPuts.l0])
                  | succ k3 =>
                    have H := HA.out
                    clear HA
                    simp only [handshakerlaw02_HeapPuts.l0] at H
                    by_cases c31 : x58_3 < (l0.length : Int)
                    · rw [if_pos c31] at H
                      have c31b0 : decide (x58_3 < (l0.length : Int)) = true := decide_eq_true c31
                      clear c31
                      by_cases c32 : 0 ≤ x58_3
                      · rw [if_pos c32] at H
                        have c32b0 : decide (0 ≤ x58_3) = true := decide_eq_true c32
                        clear c32
                        by_cases c33 : x58_3 < (l0.length : Int)
                        · rw [if_pos c33] at H
                          have c33b0 : decide (x58_3 < (l0.length : Int)) = true := decide_eq_true c33
                          clear c33
                          have H' := Aside0.mk H
                          clear H
                          have p324 : 0 ≤ (x58_3 : Int) := of_decide_eq_true (by first | (with_reducible assumption) | assumption)
                          have q324 : x58_3 < (l0.length : Int) := of_decide_eq_true (by first | (with_reducible assumption) | assumption)
                          obtain ⟨ad324, e324, hx324_0, hx324_1⟩ := at_T59 HR0.out x58_3 p324 q324
                          cases e324
                          replace hx324_0 := (HB.out.cell (World.block_lt_of_cell? w _ hx324_0)).trans hx324_0
                          replace hx324_1 := (HB.out.cell (World.block_lt_of_cell? w _ hx324_1)).trans hx324_1
                          replace p324 := eq_true p324
                          replace q324 := eq_true q324
                          go_wp2_with (first | ((with_reducible refine gate_dst (N := 9) rfl ?_); (try (refine gate_guard (by rfl) ?_; dsimp only)); refine box_event ?hg (N := 9) ?hd (cs := #[.bool false, .int .i64 0]) (t := 59) ?hr ?_; (case hd => rfl); (case hg => rfl); (case hr => first | (go_simp; done) | (go_simp; rfl)); intro gb325 hg w34 hbox hb; have n0_ := Aside0.mk (Kd.V_below (Kd.V_elderB (by (with_reducible repeat (first | apply Kd.V_alloc | apply Kd.V_drewN | apply Kd.V_drew)); exact HO_6.out) gb325 (Nat.le_of_eq hg.symm)) hb); have n1_ := Aside0.mk (below_step (by repeat (first | (with_reducible first | exact HB.out | apply below_alloc | apply pw_below_drewN | apply below_drew1) | exact HB.out)) hb); have n2_ := Aside0.mk (hbox); have n3_ := Aside0.mk ((by rw [hg]; exact (below_size (by repeat (first | (with_reducible first | exact HB.out | apply below_alloc | apply pw_below_drewN | apply below_drew1) | exact HB.out))) : w.heap.size ≤ gb325)); have n4_ := Aside0.mk ((by rw [hg]; exact (below_size (by repeat (first | (with_reducible first | exact HB.out | apply below_alloc | apply pw_below_drewN | apply below_drew1) | exact HB.out))) : w.heap.size ≤ gb325)); clear HO_6; clear HB; have HO_6 := n0_; have HB := n1_; have BK325 := n2_; have GW325 := n3_; have GE325 := n4_; clear n0_ n1_ n2_ n3_ n4_; clear hb hbox hg; have hcz35_0 : w34.cell? ⟨gb325, 0, none⟩ = some (.bool false) := (blk_cell BK325.out 0).trans rfl; have hcz35_1 : w34.cell? ⟨gb325, 1, none⟩ = some (.int .i64 0) := (blk_cell BK325.out 1).trans rfl; have hfz35_0 := blk_frozen BK325.out 0; have hfz35_1 := blk_frozen BK325.out 1))
                          repeat (go_quiet (first | ((with_reducible refine gate_dst (N := 9) rfl ?_); (try (refine gate_guard (by rfl) ?_; dsimp only)); refine box_event ?hg (N := 9) ?hd (cs := #[.bool false, .int .i64 0]) (t := 59) ?hr ?_; (case hd => rfl); (case hg => rfl); (case hr => first | (go_simp; done) | (go_simp; rfl)); intro gb325 hg w34 hbox hb; have n0_ := Aside0.mk (Kd.V_below (Kd.V_elderB (by (with_reducible repeat (first | apply Kd.V_alloc | apply Kd.V_drewN | apply Kd.V_drew)); exact HO_6.out) gb325 (Nat.le_of_eq hg.symm)) hb); have n1_ := Aside0.mk (below_step (by repeat (first | (with_reducible first | exact HB.out | apply below_alloc | apply pw_below_drewN | apply below_drew1) | exact HB.out)) hb); have n2_ := Aside0.mk (hbox); have n3_ := Aside0.mk ((by rw [hg]; exact (below_size (by repeat (first | (with_reducible first | exact HB.out | apply below_alloc | apply pw_below_drewN | apply below_drew1) | exact HB.out))) : w.heap.size ≤ gb325)); have n4_ := Aside0.mk ((by rw [hg]; exact (below_size (by repeat (first | (with_reducible first | exact HB.out | apply below_alloc | apply pw_below_drewN | apply below_drew1) | exact HB.out))) : w.heap.size ≤ gb325)); clear HO_6; clear HB; have HO_6 := n0_; have HB := n1_; have BK325 := n2_; have GW325 := n3_; have GE325 := n4_; clear n0_ n1_ n2_ n3_ n4_; clear hb hbox hg; have hcz35_0 : w34.cell? ⟨gb325, 0, none⟩ = some (.bool false) := (blk_cell BK325.out 0).trans rfl; have hcz35_1 : w34.cell? ⟨gb325, 1, none⟩ = some (.int .i64 0) := (blk_cell BK325.out 1).trans rfl; have hfz35_0 := blk_frozen BK325.out 0; have hfz35_1 := blk_frozen BK325.out 1)); try go_wp2_with (first | ((with_reducible refine gate_dst (N := 9) rfl ?_); (try (refine gate_guard (by rfl) ?_; dsimp only)); refine box_event ?hg (N := 9) ?hd (cs := #[.bool false, .int .i64 0]) (t := 59) ?hr ?_; (case hd => rfl); (case hg => rfl); (case hr => first | (go_simp; done) | (go_simp; rfl)); intro gb325 hg w34 hbox hb; have n0_ := Aside0.mk (Kd.V_below (Kd.V_elderB (by (with_reducible repeat (first | apply Kd.V_alloc | apply Kd.V_drewN | apply Kd.V_drew)); exact HO_6.out) gb325 (Nat.le_of_eq hg.symm)) hb); have n1_ := Aside0.mk (below_step (by repeat (first | (with_reducible first | exact HB.out | apply below_alloc | apply pw_below_drewN | apply below_drew1) | exact HB.out)) hb); have n2_ := Aside0.mk (hbox); have n3_ := Aside0.mk ((by rw [hg]; exact (below_size (by repeat (first | (with_reducible first | exact HB.out | apply below_alloc | apply pw_below_drewN | apply below_drew1) | exact HB.out))) : w.heap.size ≤ gb325)); have n4_ := Aside0.mk ((by rw [hg]; exact (below_size (by repeat (first | (with_reducible first | exact HB.out | apply below_alloc | apply pw_below_drewN | apply below_drew1) | exact HB.out))) : w.heap.size ≤ gb325)); clear HO_6; clear HB; have HO_6 := n0_; have HB := n1_; have BK325 := n2_; have GW325 := n3_; have GE325 := n4_; clear n0_ n1_ n2_ n3_ n4_; clear hb hbox hg; have hcz35_0 : w34.cell? ⟨gb325, 0, none⟩ = some (.bool false) := (blk_cell BK325.out 0).trans rfl; have hcz35_1 : w34.cell? ⟨gb325, 1, none⟩ = some (.int .i64 0) := (blk_cell BK325.out 1).trans rfl; have hfz35_0 := blk_frozen BK325.out 0; have hfz35_1 := blk_frozen BK325.out 1)))
                          go_loopg [67] k3 (fun kq v67 w' => ∃ (x67_4 : Int) (x326001_4 : Int), v67 = .int .i64 x67_4 ∧ Aside0 (handshakerlaw02_HeapPuts.l1 kq l0 l1 t316 t319 x58_3 (l0.length : Int) x58_3 l1 (l1.length : Int) x67_4 ((rd_T59 l0 x58_3).f0) x326001_4 = some r) ∧ Aside0 (kq ≤ k3) ∧ Aside0 (Kd.V k59 59 w' w.heap.size (fun k_ => k_ ≠ gb325) v317 t316) ∧ Aside0 (w'.heap[gb325]? = some (.cells #[.bool ((rd_T59 l0 x58_3).f0), .int .i64 x326001_4] 59 (0, 0))) ∧ Aside0 (Below w.heap.size w w'))
                          case atStart => exact ⟨(0), ((rd_T59 l0 x58_3).f1), (by first | rfl | (simp; done) | (simp [*]; done)), H', ⟨Nat.le_refl _⟩, ⟨by (with_reducible repeat (first | apply Kd.V_alloc | apply Kd.V_drewN | apply Kd.V_drew)); exact Kd.V_mono (Kd.V_far (p := ⟨gb325, 1, none⟩) (Kd.V_far (p := ⟨gb325, 0, none⟩) (Kd.V_mono HO_6.out (fun k_ hk => (⟨hk, hk.2⟩ : _ ∧ k_ ≠ gb325))) (fun _ hk => hk.2) (.bool ((rd_T59 l0 x58_3).f0))) (fun _ hk => hk.2) (.int .i64 ((rd_T59 l0 x58_3).f1))) (fun _ hk => hk.1.2)⟩, ⟨by (with_reducible repeat (first | refine blk_drewN ?_ _ | refine blk_drew ?_ | refine blk_alloc ?_ _)); refine blk_put (cs := #[.bool ((rd_T59 l0 x58_3).f0), .int .i64 0]) ?_ 1 _ rfl; (with_reducible repeat (first | refine blk_drewN ?_ _ | refine blk_drew ?_ | refine blk_alloc ?_ _)); refine blk_put (cs := #[.bool false, .int .i64 0]) ?_ 0 _ rfl; (with_reducible repeat (first | refine blk_drewN ?_ _ | refine blk_drew ?_ | refine blk_alloc ?_ _)); exact BK325.out⟩, ⟨by repeat (first | (with_reducible first | exact HB.out | apply below_alloc | apply pw_below_drewN | apply below_drew1 | refine below_set ?_ GE325.out) | exact HB.out)⟩⟩
                          case round =>
                            clear H'
                            try clear c1
                            try clear c2
                            try clear p2
                            try clear c3
                            try clear p3
                            try clear q3
                            try clear hx3
                            try clear c4
                            try clear c4b0
                            try clear c4b1
                            try clear c5
                            try clear c5b0
                            try clear c5b1
                            try clear c8
                            try clear c11
                            try clear c12
                            try clear c19
                            try clear c20
                            try clear c20b0
                            try clear c20b1
                            try clear c24
                            try clear c30
                            try clear c31
                            try clear c31b0
                            try clear c32
                            try clear c32b0
                            try clear p32
                            try clear q32
                            try clear hx32
                            try clear c33
                            try clear c33b0
                            try clear hcz35_0
                            try clear hcz35_1
                            try clear hfz35_0
                            try clear hfz35_1
                            try clear hx324_0
                            try clear hx324_1
                            try clear p2
                            try clear p324
                            try clear q324
                            obtain ⟨x67_4, x326001_4, rfl, HA, HK4, HO_6, BK325, HB⟩ := hrel
                            cases gk with
                            | zero => exact absurd HA.out (by simp [handshakerlaw02_HeapPuts.l1])
                            | succ k4 =>
                              have H := HA.out
                              clear HA
                              simp only [handshakerlaw02_HeapPuts.l1] at H
                              by_cases c36 : x67_4 < (l1.length : Int)
                              · rw [if_pos c36] at H
                                have c36b0 : decide (x67_4 < (l1.length : Int)) = true := decide_eq_true c36
                                clear c36
                                by_cases c37 : 0 ≤ x67_4
                                · rw [if_pos c37] at H
                                  have c37b0 : decide (0 ≤ x67_4) = true := decide_eq_true c37
                                  clear c37
                                  by_cases c38 : x67_4 < (l1.length : Int)
                                  · rw [if_pos c38] at H
                                    have c38b0 : decide (x67_4 < (l1.length : Int)) = true := decide_eq_true c38
                                    clear c38
                                    by_cases c39 : ((rd_T62 l1 x67_4).f0) = x58_3
                                    · rw [if_pos c39] at H
                                      have c39b0 : (((rd_T62 l1 x67_4).f0) == x58_3) = true := beq_iff_eq.mpr c39
                                      have c39b1 : (((rd_T62 l1 x67_4).f0) != x58_3) = false := bne_eq_false_iff_eq.mpr c39
                                      clear c39
                                      by_cases c40 : t319 = 0
                                      · rw [if_pos c40] at H
                                        have c40b0 : (t319 == 0) = true := beq_iff_eq.mpr c40
                                        have c40b1 : (t319 != 0) = false := bne_eq_false_iff_eq.mpr c40
                                        clear c40
                                        have H' := Aside0.mk H
                                        clear H
                                        have p326 : 0 ≤ (x67_4 : Int) := of_decide_eq_true (by first | (with_reducible assumption) | assumption)
                                        have q326 : x67_4 < (l1.length : Int) := of_decide_eq_true (by first | (with_reducible assumption) | assumption)
                                        obtain ⟨ad326, e326, hx326_0, hx326_1⟩ := at_T62 HR1.out x67_4 p326 q326
                                        cases e326
                                        replace hx326_0 := (HB.out.cell (World.block_lt_of_cell? w _ hx326_0)).trans hx326_0
                                        replace hx326_1 := (HB.out.cell (World.block_lt_of_cell? w _ hx326_1)).trans hx326_1
                                        replace p326 := eq_true p326
                                        replace q326 := eq_true q326
                                        go_wp2_with (first | ((with_reducible refine gate_dst (N := 11) rfl ?_); (try (refine gate_guard (by rfl) ?_; dsimp only)); refine box_event ?hg (N := 11) ?hd (cs := #[.int .i64 0, .int .i64 0]) (t := 62) ?hr ?_; (case hd => rfl); (case hg => rfl); (case hr => first | (go_simp; done) | (go_simp; rfl)); intro gb327 hg w41 hbox hb; have n0_ := Aside0.mk (Kd.V_below (Kd.V_elderB (by (with_reducible repeat (first | apply Kd.V_alloc | apply Kd.V_drewN | apply Kd.V_drew)); exact HO_6.out) gb327 (Nat.le_of_eq hg.symm)) hb); have n1_ := Aside0.mk (blk_below (g := gb325) (o := .cells #[.bool ((rd_T59 l0 x58_3).f0), .int .i64 x326001_4] 59 (0, 0)) (by (with_reducible repeat (first | refine blk_drewN ?_ _ | refine blk_drew ?_ | refine blk_alloc ?_ _)); exact BK325.out) hb); have n2_ := Aside0.mk (below_step (by repeat (first | (with_reducible first | exact HB.out | apply below_alloc | apply pw_below_drewN | apply below_drew1 | refine below_set ?_ GE325.out) | exact HB.out)) hb); have n3_ := Aside0.mk (hbox); have n4_ := Aside0.mk ((by rw [hg]; exact (below_size (by repeat (first | (with_reducible first | exact HB.out | apply below_alloc | apply pw_below_drewN | apply below_drew1 | refine below_set ?_ GE325.out) | exact HB.out))) : w.heap.size ≤ gb327)); have n5_ := Aside0.mk ((by rw [hg]; exact (below_size (by repeat (first | (with_reducible first | exact HB.out | apply below_alloc | apply pw_below_drewN | apply below_drew1 | refine below_set ?_ GE325.out) | exact HB.out))) : w.heap.size ≤ gb327)); have n6_ := Aside0.mk ((by rw [hg]; exact Nat.ne_of_lt (blk_lt (g := gb325) (o := .cells #[.bool ((rd_T59 l0 x58_3).f0), .int .i64 x326001_4] 59 (0, 0)) (by (with_reducible repeat (first | refine blk_drewN ?_ _ | refine blk_drew ?_ | refine blk_alloc ?_ _)); exact BK325.out)) : gb325 ≠ gb327)); have n7_ := Aside0.mk ((by rw [hg]; exact Nat.ne_of_gt (blk_lt (g := gb325) (o := .cells #[.bool ((rd_T59 l0 x58_3).f0), .int .i64 x326001_4] 59 (0, 0)) (by (with_reducible repeat (first | refine blk_drewN ?_ _ | refine blk_drew ?_ | refine blk_alloc ?_ _)); exact BK325.out)) : gb327 ≠ gb325)); clear HO_6; clear BK325; clear HB; have HO_6 := n0_; have BK325 := n1_; have HB := n2_; have BK327 := n3_; have GW327 := n4_; have GE327 := n5_; have NB325_327 := n6_; have NB327_325 := n7_; clear n0_ n1_ n2_ n3_ n4_ n5_ n6_ n7_; clear hb hbox hg; have hnb42 := NB327_325.out; have hnc42 := NB325_327.out; have hcz43_0 : w41.cell? ⟨gb327, 0, none⟩ = some (.int .i64 0) := (blk_cell BK327.out 0).trans rfl; have hcz43_1 : w41.cell? ⟨gb327, 1, none⟩ = some (.int .i64 0) := (blk_cell BK327.out 1).trans rfl; have hfz43_0 := blk_frozen BK327.out 0; have hfz43_1 := blk_frozen BK327.out 1; have hcz44_0 : w41.cell? ⟨gb325, 0, none⟩ = some (.bool ((rd_T59 l0 x58_3).f0)) := (blk_cell BK325.out 0).trans rfl; have hcz44_1 : w41.cell? ⟨gb325, 1, none⟩ = some (.int .i64 x326001_4) := (blk_cell BK325.out 1).trans rfl; have hfz44_0 := blk_frozen BK325.out 0; have hfz44_1 := blk_frozen BK325.out 1))
                                        repeat (go_quiet (first | ((with_reducible refine gate_dst (N := 11) rfl ?_); (try (refine gate_guard (by rfl) ?_; dsimp only)); refine box_event ?hg (N := 11) ?hd (cs := #[.int .i64 0, .int .i64 0]) (t := 62) ?hr ?_; (case hd => rfl); (case hg => rfl); (case hr => first | (go_simp; done) | (go_simp; rfl)); intro gb327 hg w41 hbox hb; have n0_ := Aside0.mk (Kd.V_below (Kd.V_elderB (by (with_reducible repeat (first | apply Kd.V_alloc | apply Kd.V_drewN | apply Kd.V_drew)); exact HO_6.out) gb327 (Nat.le_of_eq hg.symm)) hb); have n1_ := Aside0.mk (blk_below (g := gb325) (o := .cells #[.bool ((rd_T59 l0 x58_3).f0), .int .i64 x326001_4] 59 (0, 0)) (by (with_reducible repeat (first | refine blk_drewN ?_ _ | refine blk_drew ?_ | refine blk_alloc ?_ _)); exact BK325.out) hb); have n2_ := Aside0.mk (below_step (by repeat (first | (with_reducible first | exact HB.out | apply below_alloc | apply pw_below_drewN | apply below_drew1 | refine below_set ?_ GE325.out) | exact HB.out)) hb); have n3_ := Aside0.mk (hbox); have n4_ := Aside0.mk ((by rw [hg]; exact (below_size (by repeat (first | (with_reducible first | exact HB.out | apply below_alloc | apply pw_below_drewN | apply below_drew1 | refine below_set ?_ GE325.out) | exact HB.out))) : w.heap.size ≤ gb327)); have n5_ := Aside0.mk ((by rw [hg]; exact (below_size (by repeat (first | (with_reducible first | exact HB.out | apply below_alloc | apply pw_below_drewN | apply below_drew1 | refine below_set ?_ GE325.out) | exact HB.out))) : w.heap.size ≤ gb327)); have n6_ := Aside0.mk ((by rw [hg]; exact Nat.ne_of_lt (blk_lt (g := gb325) (o := .cells #[.bool ((rd_T59 l0 x58_3).f0), .int .i64 x326001_4] 59 (0, 0)) (by (with_reducible repeat (first | refine blk_drewN ?_ _ | refine blk_drew ?_ | refine blk_alloc ?_ _)); exact BK325.out)) : gb325 ≠ gb327)); have n7_ := Aside0.mk ((by rw [hg]; exact Nat.ne_of_gt (blk_lt (g := gb325) (o := .cells #[.bool ((rd_T59 l0 x58_3).f0), .int .i64 x326001_4] 59 (0, 0)) (by (with_reducible repeat (first | refine blk_drewN ?_ _ | refine blk_drew ?_ | refine blk_alloc ?_ _)); exact BK325.out)) : gb327 ≠ gb325)); clear HO_6; clear BK325; clear HB; have HO_6 := n0_; have BK325 := n1_; have HB := n2_; have BK327 := n3_; have GW327 := n4_; have GE327 := n5_; have NB325_327 := n6_; have NB327_325 := n7_; clear n0_ n1_ n2_ n3_ n4_ n5_ n6_ n7_; clear hb hbox hg; have hnb42 := NB327_325.out; have hnc42 := NB325_327.out; have hcz43_0 : w41.cell? ⟨gb327, 0, none⟩ = some (.int .i64 0) := (blk_cell BK327.out 0).trans rfl; have hcz43_1 : w41.cell? ⟨gb327, 1, none⟩ = some (.int .i64 0) := (blk_cell BK327.out 1).trans rfl; have hfz43_0 := blk_frozen BK327.out 0; have hfz43_1 := blk_frozen BK327.out 1; have hcz44_0 : w41.cell? ⟨gb325, 0, none⟩ = some (.bool ((rd_T59 l0 x58_3).f0)) := (blk_cell BK325.out 0).trans rfl; have hcz44_1 : w41.cell? ⟨gb325, 1, none⟩ = some (.int .i64 x326001_4) := (blk_cell BK325.out 1).trans rfl; have hfz44_0 := blk_frozen BK325.out 0; have hfz44_1 := blk_frozen BK325.out 1)); try go_wp2_with (first | ((with_reducible refine gate_dst (N := 11) rfl ?_); (try (refine gate_guard (by rfl) ?_; dsimp only)); refine box_event ?hg (N := 11) ?hd (cs := #[.int .i64 0, .int .i64 0]) (t := 62) ?hr ?_; (case hd => rfl); (case hg => rfl); (case hr => first | (go_simp; done) | (go_simp; rfl)); intro gb327 hg w41 hbox hb; have n0_ := Aside0.mk (Kd.V_below (Kd.V_elderB (by (with_reducible repeat (first | apply Kd.V_alloc | apply Kd.V_drewN | apply Kd.V_drew)); exact HO_6.out) gb327 (Nat.le_of_eq hg.symm)) hb); have n1_ := Aside0.mk (blk_below (g := gb325) (o := .cells #[.bool ((rd_T59 l0 x58_3).f0), .int .i64 x326001_4] 59 (0, 0)) (by (with_reducible repeat (first | refine blk_drewN ?_ _ | refine blk_drew ?_ | refine blk_alloc ?_ _)); exact BK325.out) hb); have n2_ := Aside0.mk (below_step (by repeat (first | (with_reducible first | exact HB.out | apply below_alloc | apply pw_below_drewN | apply below_drew1 | refine below_set ?_ GE325.out) | exact HB.out)) hb); have n3_ := Aside0.mk (hbox); have n4_ := Aside0.mk ((by rw [hg]; exact (below_size (by repeat (first | (with_reducible first | exact HB.out | apply below_alloc | apply pw_below_drewN | apply below_drew1 | refine below_set ?_ GE325.out) | exact HB.out))) : w.heap.size ≤ gb327)); have n5_ := Aside0.mk ((by rw [hg]; exact (below_size (by repeat (first | (with_reducible first | exact HB.out | apply below_alloc | apply pw_below_drewN | apply below_drew1 | refine below_set ?_ GE325.out) | exact HB.out))) : w.heap.size ≤ gb327)); have n6_ := Aside0.mk ((by rw [hg]; exact Nat.ne_of_lt (blk_lt (g := gb325) (o := .cells #[.bool ((rd_T59 l0 x58_3).f0), .int .i64 x326001_4] 59 (0, 0)) (by (with_reducible repeat (first | refine blk_drewN ?_ _ | refine blk_drew ?_ | refine blk_alloc ?_ _)); exact BK325.out)) : gb325 ≠ gb327)); have n7_ := Aside0.mk ((by rw [hg]; exact Nat.ne_of_gt (blk_lt (g := gb325) (o := .cells #[.bool ((rd_T59 l0 x58_3).f0), .int .i64 x326001_4] 59 (0, 0)) (by (with_reducible repeat (first | refine blk_drewN ?_ _ | refine blk_drew ?_ | refine blk_alloc ?_ _)); exact BK325.out)) : gb327 ≠ gb325)); clear HO_6; clear BK325; clear HB; have HO_6 := n0_; have BK325 := n1_; have HB := n2_; have BK327 := n3_; have GW327 := n4_; have GE327 := n5_; have NB325_327 := n6_; have NB327_325 := n7_; clear n0_ n1_ n2_ n3_ n4_ n5_ n6_ n7_; clear hb hbox hg; have hnb42 := NB327_325.out; have hnc42 := NB325_327.out; have hcz43_0 : w41.cell? ⟨gb327, 0, none⟩ = some (.int .i64 0) := (blk_cell BK327.out 0).trans rfl; have hcz43_1 : w41.cell? ⟨gb327, 1, none⟩ = some (.int .i64 0) := (blk_cell BK327.out 1).trans rfl; have hfz43_0 := blk_frozen BK327.out 0; have hfz43_1 := blk_frozen BK327.out 1; have hcz44_0 : w41.cell? ⟨gb325, 0, none⟩ = some (.bool ((rd_T59 l0 x58_3).f0)) := (blk_cell BK325.out 0).trans rfl; have hcz44_1 : w41.cell? ⟨gb325, 1, none⟩ = some (.int .i64 x326001_4) := (blk_cell BK325.out 1).trans rfl; have hfz44_0 := blk_frozen BK325.out 0; have hfz44_1 := blk_frozen BK325.out 1)))
                                        go_roundg k4
                                        case measure => have := HJ2.out; have := HJ12.out; have := HK3.out; have := HK4.out; omega
                                        case rel => exact ⟨(wrap64 (x67_4 + 1)), ((rd_T62 l1 x67_4).f1), (by first | rfl | (simp; done) | (simp [*]; done)), H', ⟨by have := HJ2.out; have := HJ12.out; have := HK3.out; have := HK4.out; omega⟩, ⟨by (with_reducible repeat (first | apply Kd.V_alloc | apply Kd.V_drewN | apply Kd.V_drew)); exact Kd.V_mono (Kd.V_far (p := ⟨gb325, 1, none⟩) (Kd.V_far (p := ⟨gb327, 1, none⟩) (Kd.V_far (p := ⟨gb327, 0, none⟩) (Kd.V_mono (Kd.V_mono HO_6.out (fun k_ hk => (⟨hk, hk.2⟩ : _ ∧ k_ ≠ gb327))) (fun k_ hk => (⟨hk, hk.1.1⟩ : _ ∧ k_ ≠ gb325))) (fun _ hk => hk.1.2) (.int .i64 ((rd_T62 l1 x67_4).f0))) (fun _ hk => hk.1.2) (.int .i64 ((rd_T62 l1 x67_4).f1))) (fun _ hk => hk.2) (.int .i64 ((rd_T62 l1 x67_4).f1))) (fun _ hk => hk.1.1.1)⟩, ⟨by (with_reducible repeat (first | refine blk_drewN ?_ _ | refine blk_drew ?_ | refine blk_alloc ?_ _)); refine blk_put (cs := #[.bool ((rd_T59 l0 x58_3).f0), .int .i64 x326001_4]) ?_ 1 _ rfl; (with_reducible repeat (first | refine blk_drewN ?_ _ | refine blk_drew ?_ | refine blk_alloc ?_ _)); refine blk_far ?_ NB325_327.out _; (with_reducible repeat (first | refine blk_drewN ?_ _ | refine blk_drew ?_ | refine blk_alloc ?_ _)); refine blk_far ?_ NB325_327.out _; (with_reducible repeat (first | refine blk_drewN ?_ _ | refine blk_drew ?_ | refine blk_alloc ?_ _)); exact BK325.out⟩, ⟨by repeat (first | (with_reducible first | exact HB.out | apply below_alloc | apply pw_below_drewN | apply below_drew1 | refine below_set ?_ GE325.out | refine below_set ?_ GE327.out) | exact HB.out)⟩⟩
                                      · rw [if_neg c40] at H
                                        have c40b0 : (t319 == 0) = false := beq_eq_false_iff_ne.mpr c40
                                        have c40b1 : (t319 != 0) = true := bne_iff_ne.mpr c40
                                        have H' := Aside0.mk H
                                        clear H
                                        have p326 : 0 ≤ (x67_4 : Int) := of_decide_eq_true (by first | (with_reducible assumption) | assumption)
                                        have q326 : x67_4 < (l1.length : Int) := of_decide_eq_true (by first | (with_reducible assumption) | assumption)
                                        obtain ⟨ad326, e326, hx326_0, hx326_1⟩ := at_T62 HR1.out x67_4 p326 q326
                                        cases e326
                                        replace hx326_0 := (HB.out.cell (World.block_lt_of_cell? w _ hx326_0)).trans hx326_0
                                        replace hx326_1 := (HB.out.cell (World.block_lt_of_cell? w _ hx326_1)).trans hx326_1
                                        replace p326 := eq_true p326
                                        replace q326 := eq_true q326
                                        go_wp2_with (first | ((with_reducible refine gate_dst (N := 11) rfl ?_); (try (refine gate_guard (by rfl) ?_; dsimp only)); refine box_event ?hg (N := 11) ?hd (cs := #[.int .i64 0, .int .i64 0]) (t := 62) ?hr ?_; (case hd => rfl); (case hg => rfl); (case hr => first | (go_simp; done) | (go_simp; rfl)); intro gb327 hg w45 hbox hb; have n0_ := Aside0.mk (Kd.V_below (Kd.V_elderB (by (with_reducible repeat (first | apply Kd.V_alloc | apply Kd.V_drewN | apply Kd.V_drew)); exact HO_6.out) gb327 (Nat.le_of_eq hg.symm)) hb); have n1_ := Aside0.mk (blk_below (g := gb325) (o := .cells #[.bool ((rd_T59 l0 x58_3).f0), .int .i64 x326001_4] 59 (0, 0)) (by (with_reducible repeat (first | refine blk_drewN ?_ _ | refine blk_drew ?_ | refine blk_alloc ?_ _)); exact BK325.out) hb); have n2_ := Aside0.mk (below_step (by repeat (first | (with_reducible first | exact HB.out | apply below_alloc | apply pw_below_drewN | apply below_drew1 | refine below_set ?_ GE325.out) | exact HB.out)) hb); have n3_ := Aside0.mk (hbox); have n4_ := Aside0.mk ((by rw [hg]; exact (below_size (by repeat (first | (with_reducible first | exact HB.out | apply below_alloc | apply pw_below_drewN | apply below_drew1 | refine below_set ?_ GE325.out) | exact HB.out))) : w.heap.size ≤ gb327)); have n5_ := Aside0.mk ((by rw [hg]; exact (below_size (by repeat (first | (with_reducible first | exact HB.out | apply below_alloc | apply pw_below_drewN | apply below_drew1 | refine below_set ?_ GE325.out) | exact HB.out))) : w.heap.size ≤ gb327)); have n6_ := Aside0.mk ((by rw [hg]; exact Nat.ne_of_lt (blk_lt (g := gb325) (o := .cells #[.bool ((rd_T59 l0 x58_3).f0), .int .i64 x326001_4] 59 (0, 0)) (by (with_reducible repeat (first | refine blk_drewN ?_ _ | refine blk_drew ?_ | refine blk_alloc ?_ _)); exact BK325.out)) : gb325 ≠ gb327)); have n7_ := Aside0.mk ((by rw [hg]; exact Nat.ne_of_gt (blk_lt (g := gb325) (o := .cells #[.bool ((rd_T59 l0 x58_3).f0), .int .i64 x326001_4] 59 (0, 0)) (by (with_reducible repeat (first | refine blk_drewN ?_ _ | refine blk_drew ?_ | refine blk_alloc ?_ _)); exact BK325.out)) : gb327 ≠ gb325)); clear HO_6; clear BK325; clear HB; have HO_6 := n0_; have BK325 := n1_; have HB := n2_; have BK327 := n3_; have GW327 := n4_; have GE327 := n5_; have NB325_327 := n6_; have NB327_325 := n7_; clear n0_ n1_ n2_ n3_ n4_ n5_ n6_ n7_; clear hb hbox hg; have hnb46 := NB327_325.out; have hnc46 := NB325_327.out; have hcz47_0 : w45.cell? ⟨gb327, 0, none⟩ = some (.int .i64 0) := (blk_cell BK327.out 0).trans rfl; have hcz47_1 : w45.cell? ⟨gb327, 1, none⟩ = some (.int .i64 0) := (blk_cell BK327.out 1).trans rfl; have hfz47_0 := blk_frozen BK327.out 0; have hfz47_1 := blk_frozen BK327.out 1))
                                        repeat (go_quiet (first | ((with_reducible refine gate_dst (N := 11) rfl ?_); (try (refine gate_guard (by rfl) ?_; dsimp only)); refine box_event ?hg (N := 11) ?hd (cs := #[.int .i64 0, .int .i64 0]) (t := 62) ?hr ?_; (case hd => rfl); (case hg => rfl); (case hr => first | (go_simp; done) | (go_simp; rfl)); intro gb327 hg w45 hbox hb; have n0_ := Aside0.mk (Kd.V_below (Kd.V_elderB (by (with_reducible repeat (first | apply Kd.V_alloc | apply Kd.V_drewN | apply Kd.V_drew)); exact HO_6.out) gb327 (Nat.le_of_eq hg.symm)) hb); have n1_ := Aside0.mk (blk_below (g := gb325) (o := .cells #[.bool ((rd_T59 l0 x58_3).f0), .int .i64 x326001_4] 59 (0, 0)) (by (with_reducible repeat (first | refine blk_drewN ?_ _ | refine blk_drew ?_ | refine blk_alloc ?_ _)); exact BK325.out) hb); have n2_ := Aside0.mk (below_step (by repeat (first | (with_reducible first | exact HB.out | apply below_alloc | apply pw_below_drewN | apply below_drew1 | refine below_set ?_ GE325.out) | exact HB.out)) hb); have n3_ := Aside0.mk (hbox); have n4_ := Aside0.mk ((by rw [hg]; exact (below_size (by repeat (first | (with_reducible first | exact HB.out | apply below_alloc | apply pw_below_drewN | apply below_drew1 | refine below_set ?_ GE325.out) | exact HB.out))) : w.heap.size ≤ gb327)); have n5_ := Aside0.mk ((by rw [hg]; exact (below_size (by repeat (first | (with_reducible first | exact HB.out | apply below_alloc | apply pw_below_drewN | apply below_drew1 | refine below_set ?_ GE325.out) | exact HB.out))) : w.heap.size ≤ gb327)); have n6_ := Aside0.mk ((by rw [hg]; exact Nat.ne_of_lt (blk_lt (g := gb325) (o := .cells #[.bool ((rd_T59 l0 x58_3).f0), .int .i64 x326001_4] 59 (0, 0)) (by (with_reducible repeat (first | refine blk_drewN ?_ _ | refine blk_drew ?_ | refine blk_alloc ?_ _)); exact BK325.out)) : gb325 ≠ gb327)); have n7_ := Aside0.mk ((by rw [hg]; exact Nat.ne_of_gt (blk_lt (g := gb325) (o := .cells #[.bool ((rd_T59 l0 x58_3).f0), .int .i64 x326001_4] 59 (0, 0)) (by (with_reducible repeat (first | refine blk_drewN ?_ _ | refine blk_drew ?_ | refine blk_alloc ?_ _)); exact BK325.out)) : gb327 ≠ gb325)); clear HO_6; clear BK325; clear HB; have HO_6 := n0_; have BK325 := n1_; have HB := n2_; have BK327 := n3_; have GW327 := n4_; have GE327 := n5_; have NB325_327 := n6_; have NB327_325 := n7_; clear n0_ n1_ n2_ n3_ n4_ n5_ n6_ n7_; clear hb hbox hg; have hnb46 := NB327_325.out; have hnc46 := NB325_327.out; have hcz47_0 : w45.cell? ⟨gb327, 0, none⟩ = some (.int .i64 0) := (blk_cell BK327.out 0).trans rfl; have hcz47_1 : w45.cell? ⟨gb327, 1, none⟩ = some (.int .i64 0) := (blk_cell BK327.out 1).trans rfl; have hfz47_0 := blk_frozen BK327.out 0; have hfz47_1 := blk_frozen BK327.out 1)); try go_wp2_with (first | ((with_reducible refine gate_dst (N := 11) rfl ?_); (try (refine gate_guard (by rfl) ?_; dsimp only)); refine box_event ?hg (N := 11) ?hd (cs := #[.int .i64 0, .int .i64 0]) (t := 62) ?hr ?_; (case hd => rfl); (case hg => rfl); (case hr => first | (go_simp; done) | (go_simp; rfl)); intro gb327 hg w45 hbox hb; have n0_ := Aside0.mk (Kd.V_below (Kd.V_elderB (by (with_reducible repeat (first | apply Kd.V_alloc | apply Kd.V_drewN | apply Kd.V_drew)); exact HO_6.out) gb327 (Nat.le_of_eq hg.symm)) hb); have n1_ := Aside0.mk (blk_below (g := gb325) (o := .cells #[.bool ((rd_T59 l0 x58_3).f0), .int .i64 x326001_4] 59 (0, 0)) (by (with_reducible repeat (first | refine blk_drewN ?_ _ | refine blk_drew ?_ | refine blk_alloc ?_ _)); exact BK325.out) hb); have n2_ := Aside0.mk (below_step (by repeat (first | (with_reducible first | exact HB.out | apply below_alloc | apply pw_below_drewN | apply below_drew1 | refine below_set ?_ GE325.out) | exact HB.out)) hb); have n3_ := Aside0.mk (hbox); have n4_ := Aside0.mk ((by rw [hg]; exact (below_size (by repeat (first | (with_reducible first | exact HB.out | apply below_alloc | apply pw_below_drewN | apply below_drew1 | refine below_set ?_ GE325.out) | exact HB.out))) : w.heap.size ≤ gb327)); have n5_ := Aside0.mk ((by rw [hg]; exact (below_size (by repeat (first | (with_reducible first | exact HB.out | apply below_alloc | apply pw_below_drewN | apply below_drew1 | refine below_set ?_ GE325.out) | exact HB.out))) : w.heap.size ≤ gb327)); have n6_ := Aside0.mk ((by rw [hg]; exact Nat.ne_of_lt (blk_lt (g := gb325) (o := .cells #[.bool ((rd_T59 l0 x58_3).f0), .int .i64 x326001_4] 59 (0, 0)) (by (with_reducible repeat (first | refine blk_drewN ?_ _ | refine blk_drew ?_ | refine blk_alloc ?_ _)); exact BK325.out)) : gb325 ≠ gb327)); have n7_ := Aside0.mk ((by rw [hg]; exact Nat.ne_of_gt (blk_lt (g := gb325) (o := .cells #[.bool ((rd_T59 l0 x58_3).f0), .int .i64 x326001_4] 59 (0, 0)) (by (with_reducible repeat (first | refine blk_drewN ?_ _ | refine blk_drew ?_ | refine blk_alloc ?_ _)); exact BK325.out)) : gb327 ≠ gb325)); clear HO_6; clear BK325; clear HB; have HO_6 := n0_; have BK325 := n1_; have HB := n2_; have BK327 := n3_; have GW327 := n4_; have GE327 := n5_; have NB325_327 := n6_; have NB327_325 := n7_; clear n0_ n1_ n2_ n3_ n4_ n5_ n6_ n7_; clear hb hbox hg; have hnb46 := NB327_325.out; have hnc46 := NB325_327.out; have hcz47_0 : w45.cell? ⟨gb327, 0, none⟩ = some (.int .i64 0) := (blk_cell BK327.out 0).trans rfl; have hcz47_1 : w45.cell? ⟨gb327, 1, none⟩ = some (.int .i64 0) := (blk_cell BK327.out 1).trans rfl; have hfz47_0 := blk_frozen BK327.out 0; have hfz47_1 := blk_frozen BK327.out 1)))
                                        go_roundg k4
                                        case measure => have := HJ2.out; have := HJ12.out; have := HK3.out; have := HK4.out; omega
                                        case rel => exact ⟨(wrap64 (x67_4 + 1)), (x326001_4), (by first | rfl | (simp; done) | (simp [*]; done)), H', ⟨by have := HJ2.out; have := HJ12.out; have := HK3.out; have := HK4.out; omega⟩, ⟨by (with_reducible repeat (first | apply Kd.V_alloc | apply Kd.V_drewN | apply Kd.V_drew)); exact Kd.V_mono (Kd.V_far (p := ⟨gb327, 1, none⟩) (Kd.V_far (p := ⟨gb327, 0, none⟩) (Kd.V_mono HO_6.out (fun k_ hk => (⟨hk, hk.2⟩ : _ ∧ k_ ≠ gb327))) (fun _ hk => hk.2) (.int .i64 ((rd_T62 l1 x67_4).f0))) (fun _ hk => hk.2) (.int .i64 ((rd_T62 l1 x67_4).f1))) (fun _ hk => hk.1.1)⟩, ⟨by (with_reducible repeat (first | refine blk_drewN ?_ _ | refine blk_drew ?_ | refine blk_alloc ?_ _)); refine blk_far ?_ NB325_327.out _; (with_reducible repeat (first | refine blk_drewN ?_ _ | refine blk_drew ?_ | refine blk_alloc ?_ _)); refine blk_far ?_ NB325_327.out _; (with_reducible repeat (first | refine blk_drewN ?_ _ | refine blk_drew ?_ | refine blk_alloc ?_ _)); exact BK325.out⟩, ⟨by repeat (first | (with_reducible first | exact HB.out | apply below_alloc | apply pw_below_drewN | apply below_drew1 | refine below_set ?_ GE325.out | refine below_set ?_ GE327.out) | exact HB.out)⟩⟩
                                    · rw [if_neg c39] at H
                                      have c39b0 : (((rd_T62 l1 x67_4).f0) == x58_3) = false := beq_eq_false_iff_ne.mpr c39
                                      have c39b1 : (((rd_T62 l1 x67_4).f0) != x58_3) = true := bne_iff_ne.mpr c39
                                      have H' := Aside0.mk H
                                      clear H
                                      have p326 : 0 ≤ (x67_4 : Int) := of_decide_eq_true (by first | (with_reducible assumption) | assumption)
                                      have q326 : x67_4 < (l1.length : Int) := of_decide_eq_true (by first | (with_reducible assumption) | assumption)
                                      obtain ⟨ad326, e326, hx326_0, hx326_1⟩ := at_T62 HR1.out x67_4 p326 q326
                                      cases e326
                                      replace hx326_0 := (HB.out.cell (World.block_lt_of_cell? w _ hx326_0)).trans hx326_0
                                      replace hx326_1 := (HB.out.cell (World.block_lt_of_cell? w _ hx326_1)).trans hx326_1
                                      replace p326 := eq_true p326
                                      replace q326 := eq_true q326
                                      go_wp2_with (first | ((with_reducible refine gate_dst (N := 11) rfl ?_); (try (refine gate_guard (by rfl) ?_; dsimp only)); refine box_event ?hg (N := 11) ?hd (cs := #[.int .i64 0, .int .i64 0]) (t := 62) ?hr ?_; (case hd => rfl); (case hg => rfl); (case hr => first | (go_simp; done) | (go_simp; rfl)); intro gb327 hg w48 hbox hb; have n0_ := Aside0.mk (Kd.V_below (Kd.V_elderB (by (with_reducible repeat (first | apply Kd.V_alloc | apply Kd.V_drewN | apply Kd.V_drew)); exact HO_6.out) gb327 (Nat.le_of_eq hg.symm)) hb); have n1_ := Aside0.mk (blk_below (g := gb325) (o := .cells #[.bool ((rd_T59 l0 x58_3).f0), .int .i64 x326001_4] 59 (0, 0)) (by (with_reducible repeat (first | refine blk_drewN ?_ _ | refine blk_drew ?_ | refine blk_alloc ?_ _)); exact BK325.out) hb); have n2_ := Aside0.mk (below_step (by repeat (first | (with_reducible first | exact HB.out | apply below_alloc | apply pw_below_drewN | apply below_drew1 | refine below_set ?_ GE325.out) | exact HB.out)) hb); have n3_ := Aside0.mk (hbox); have n4_ := Aside0.mk ((by rw [hg]; exact (below_size (by repeat (first | (with_reducible first | exact HB.out | apply below_alloc | apply pw_below_drewN | apply below_drew1 | refine below_set ?_ GE325.out) | exact HB.out))) : w.heap.size ≤ gb327)); have n5_ := Aside0.mk ((by rw [hg]; exact (below_size (by repeat (first | (with_reducible first | exact HB.out | apply below_alloc | apply pw_below_drewN | apply below_drew1 | refine below_set ?_ GE325.out) | exact HB.out))) : w.heap.size ≤ gb327)); have n6_ := Aside0.mk ((by rw [hg]; exact Nat.ne_of_lt (blk_lt (g := gb325) (o := .cells #[.bool ((rd_T59 l0 x58_3).f0), .int .i64 x326001_4] 59 (0, 0)) (by (with_reducible repeat (first | refine blk_drewN ?_ _ | refine blk_drew ?_ | refine blk_alloc ?_ _)); exact BK325.out)) : gb325 ≠ gb327)); have n7_ := Aside0.mk ((by rw [hg]; exact Nat.ne_of_gt (blk_lt (g := gb325) (o := .cells #[.bool ((rd_T59 l0 x58_3).f0), .int .i64 x326001_4] 59 (0, 0)) (by (with_reducible repeat (first | refine blk_drewN ?_ _ | refine blk_drew ?_ | refine blk_alloc ?_ _)); exact BK325.out)) : gb327 ≠ gb325)); clear HO_6; clear BK325; clear HB; have HO_6 := n0_; have BK325 := n1_; have HB := n2_; have BK327 := n3_; have GW327 := n4_; have GE327 := n5_; have NB325_327 := n6_; have NB327_325 := n7_; clear n0_ n1_ n2_ n3_ n4_ n5_ n6_ n7_; clear hb hbox hg; have hnb49 := NB327_325.out; have hnc49 := NB325_327.out; have hcz50_0 : w48.cell? ⟨gb327, 0, none⟩ = some (.int .i64 0) := (blk_cell BK327.out 0).trans rfl; have hcz50_1 : w48.cell? ⟨gb327, 1, none⟩ = some (.int .i64 0) := (blk_cell BK327.out 1).trans rfl; have hfz50_0 := blk_frozen BK327.out 0; have hfz50_1 := blk_frozen BK327.out 1))
                                      repeat (go_quiet (first | ((with_reducible refine gate_dst (N := 11) rfl ?_); (try (refine gate_guard (by rfl) ?_; dsimp only)); refine box_event ?hg (N := 11) ?hd (cs := #[.int .i64 0, .int .i64 0]) (t := 62) ?hr ?_; (case hd => rfl); (case hg => rfl); (case hr => first | (go_simp; done) | (go_simp; rfl)); intro gb327 hg w48 hbox hb; have n0_ := Aside0.mk (Kd.V_below (Kd.V_elderB (by (with_reducible repeat (first | apply Kd.V_alloc | apply Kd.V_drewN | apply Kd.V_drew)); exact HO_6.out) gb327 (Nat.le_of_eq hg.symm)) hb); have n1_ := Aside0.mk (blk_below (g := gb325) (o := .cells #[.bool ((rd_T59 l0 x58_3).f0), .int .i64 x326001_4] 59 (0, 0)) (by (with_reducible repeat (first | refine blk_drewN ?_ _ | refine blk_drew ?_ | refine blk_alloc ?_ _)); exact BK325.out) hb); have n2_ := Aside0.mk (below_step (by repeat (first | (with_reducible first | exact HB.out | apply below_alloc | apply pw_below_drewN | apply below_drew1 | refine below_set ?_ GE325.out) | exact HB.out)) hb); have n3_ := Aside0.mk (hbox); have n4_ := Aside0.mk ((by rw [hg]; exact (below_size (by repeat (first | (with_reducible first | exact HB.out | apply below_alloc | apply pw_below_drewN | apply below_drew1 | refine below_set ?_ GE325.out) | exact HB.out))) : w.heap.size ≤ gb327)); have n5_ := Aside0.mk ((by rw [hg]; exact (below_size (by repeat (first | (with_reducible first | exact HB.out | apply below_alloc | apply pw_below_drewN | apply below_drew1 | refine below_set ?_ GE325.out) | exact HB.out))) : w.heap.size ≤ gb327)); have n6_ := Aside0.mk ((by rw [hg]; exact Nat.ne_of_lt (blk_lt (g := gb325) (o := .cells #[.bool ((rd_T59 l0 x58_3).f0), .int .i64 x326001_4] 59 (0, 0)) (by (with_reducible repeat (first | refine blk_drewN ?_ _ | refine blk_drew ?_ | refine blk_alloc ?_ _)); exact BK325.out)) : gb325 ≠ gb327)); have n7_ := Aside0.mk ((by rw [hg]; exact Nat.ne_of_gt (blk_lt (g := gb325) (o := .cells #[.bool ((rd_T59 l0 x58_3).f0), .int .i64 x326001_4] 59 (0, 0)) (by (with_reducible repeat (first | refine blk_drewN ?_ _ | refine blk_drew ?_ | refine blk_alloc ?_ _)); exact BK325.out)) : gb327 ≠ gb325)); clear HO_6; clear BK325; clear HB; have HO_6 := n0_; have BK325 := n1_; have HB := n2_; have BK327 := n3_; have GW327 := n4_; have GE327 := n5_; have NB325_327 := n6_; have NB327_325 := n7_; clear n0_ n1_ n2_ n3_ n4_ n5_ n6_ n7_; clear hb hbox hg; have hnb49 := NB327_325.out; have hnc49 := NB325_327.out; have hcz50_0 : w48.cell? ⟨gb327, 0, none⟩ = some (.int .i64 0) := (blk_cell BK327.out 0).trans rfl; have hcz50_1 : w48.cell? ⟨gb327, 1, none⟩ = some (.int .i64 0) := (blk_cell BK327.out 1).trans rfl; have hfz50_0 := blk_frozen BK327.out 0; have hfz50_1 := blk_frozen BK327.out 1)); try go_wp2_with (first | ((with_reducible refine gate_dst (N := 11) rfl ?_); (try (refine gate_guard (by rfl) ?_; dsimp only)); refine box_event ?hg (N := 11) ?hd (cs := #[.int .i64 0, .int .i64 0]) (t := 62) ?hr ?_; (case hd => rfl); (case hg => rfl); (case hr => first | (go_simp; done) | (go_simp; rfl)); intro gb327 hg w48 hbox hb; have n0_ := Aside0.mk (Kd.V_below (Kd.V_elderB (by (with_reducible repeat (first | apply Kd.V_alloc | apply Kd.V_drewN | apply Kd.V_drew)); exact HO_6.out) gb327 (Nat.le_of_eq hg.symm)) hb); have n1_ := Aside0.mk (blk_below (g := gb325) (o := .cells #[.bool ((rd_T59 l0 x58_3).f0), .int .i64 x326001_4] 59 (0, 0)) (by (with_reducible repeat (first | refine blk_drewN ?_ _ | refine blk_drew ?_ | refine blk_alloc ?_ _)); exact BK325.out) hb); have n2_ := Aside0.mk (below_step (by repeat (first | (with_reducible first | exact HB.out | apply below_alloc | apply pw_below_drewN | apply below_drew1 | refine below_set ?_ GE325.out) | exact HB.out)) hb); have n3_ := Aside0.mk (hbox); have n4_ := Aside0.mk ((by rw [hg]; exact (below_size (by repeat (first | (with_reducible first | exact HB.out | apply below_alloc | apply pw_below_drewN | apply below_drew1 | refine below_set ?_ GE325.out) | exact HB.out))) : w.heap.size ≤ gb327)); have n5_ := Aside0.mk ((by rw [hg]; exact (below_size (by repeat (first | (with_reducible first | exact HB.out | apply below_alloc | apply pw_below_drewN | apply below_drew1 | refine below_set ?_ GE325.out) | exact HB.out))) : w.heap.size ≤ gb327)); have n6_ := Aside0.mk ((by rw [hg]; exact Nat.ne_of_lt (blk_lt (g := gb325) (o := .cells #[.bool ((rd_T59 l0 x58_3).f0), .int .i64 x326001_4] 59 (0, 0)) (by (with_reducible repeat (first | refine blk_drewN ?_ _ | refine blk_drew ?_ | refine blk_alloc ?_ _)); exact BK325.out)) : gb325 ≠ gb327)); have n7_ := Aside0.mk ((by rw [hg]; exact Nat.ne_of_gt (blk_lt (g := gb325) (o := .cells #[.bool ((rd_T59 l0 x58_3).f0), .int .i64 x326001_4] 59 (0, 0)) (by (with_reducible repeat (first | refine blk_drewN ?_ _ | refine blk_drew ?_ | refine blk_alloc ?_ _)); exact BK325.out)) : gb327 ≠ gb325)); clear HO_6; clear BK325; clear HB; have HO_6 := n0_; have BK325 := n1_; have HB := n2_; have BK327 := n3_; have GW327 := n4_; have GE327 := n5_; have NB325_327 := n6_; have NB327_325 := n7_; clear n0_ n1_ n2_ n3_ n4_ n5_ n6_ n7_; clear hb hbox hg; have hnb49 := NB327_325.out; have hnc49 := NB325_327.out; have hcz50_0 : w48.cell? ⟨gb327, 0, none⟩ = some (.int .i64 0) := (blk_cell BK327.out 0).trans rfl; have hcz50_1 : w48.cell? ⟨gb327, 1, none⟩ = some (.int .i64 0) := (blk_cell BK327.out 1).trans rfl; have hfz50_0 := blk_frozen BK327.out 0; have hfz50_1 := blk_frozen BK327.out 1)))
                                      go_roundg k4
                                      case measure => have := HJ2.out; have := HJ12.out; have := HK3.out; have := HK4.out; omega
                                      case rel => exact ⟨(wrap64 (x67_4 + 1)), (x326001_4), (by first | rfl | (simp; done) | (simp [*]; done)), H', ⟨by have := HJ2.out; have := HJ12.out; have := HK3.out; have := HK4.out; omega⟩, ⟨by (with_reducible repeat (first | apply Kd.V_alloc | apply Kd.V_drewN | apply Kd.V_drew)); exact Kd.V_mono (Kd.V_far (p := ⟨gb327, 1, none⟩) (Kd.V_far (p := ⟨gb327, 0, none⟩) (Kd.V_mono HO_6.out (fun k_ hk => (⟨hk, hk.2⟩ : _ ∧ k_ ≠ gb327))) (fun _ hk => hk.2) (.int .i64 ((rd_T62 l1 x67_4).f0))) (fun _ hk => hk.2) (.int .i64 ((rd_T62 l1 x67_4).f1))) (fun _ hk => hk.1.1)⟩, ⟨by (with_reducible repeat (first | refine blk_drewN ?_ _ | refine blk_drew ?_ | refine blk_alloc ?_ _)); refine blk_far ?_ NB325_327.out _; (with_reducible repeat (first | refine blk_drewN ?_ _ | refine blk_drew ?_ | refine blk_alloc ?_ _)); refine blk_far ?_ NB325_327.out _; (with_reducible repeat (first | refine blk_drewN ?_ _ | refine blk_drew ?_ | refine blk_alloc ?_ _)); exact BK325.out⟩, ⟨by repeat (first | (with_reducible first | exact HB.out | apply below_alloc | apply pw_below_drewN | apply below_drew1 | refine below_set ?_ GE325.out | refine below_set ?_ GE327.out) | exact HB.out)⟩⟩
                                  · rw [if_neg c38] at H
                                    exact absurd H (by simp)
                                · rw [if_neg c37] at H
                                  exact absurd H (by simp)
                              · rw [if_neg c36] at H
                                have c36b0 : decide (x67_4 < (l1.length : Int)) = false := decide_eq_false c36
                                clear c36
                                by_cases c51 : 0 ≤ x58_3
                                · rw [if_pos c51] at H
                                  have c51b0 : decide (0 ≤ x58_3) = true := decide_eq_true c51
                                  clear c51
                                  by_cases c52 : x58_3 < (t316.length : Int)
                                  · rw [if_pos c52] at H
                                    have c52b0 : decide (x58_3 < (t316.length : Int)) = true := decide_eq_true c52
                                    clear c52
                                    by_cases c53 : (!(((rd_T59 t316 x58_3).f0) == ((rd_T59 l0 x58_3).f0)) || (!(((rd_T59 t316 x58_3).f1) == x326001_4))) = true
                                    · rw [if_pos c53] at H
                                      have c53b0 : (!(((rd_T59 t316 x58_3).f0) == ((rd_T59 l0 x58_3).f0)) || (!(((rd_T59 t316 x58_3).f1) == x326001_4))) = true := c53
                                      clear c53
                                      exact absurd (Option.some.inj H) (by rw [HT.out]; decide)
                                    · rw [if_neg c53] at H
                                      have c53b0 : (!(((rd_T59 t316 x58_3).f0) == ((rd_T59 l0 x58_3).f0)) || (!(((rd_T59 t316 x58_3).f1) == x326001_4))) = false := by simpa using c53
                                      clear c53
                                      have H' := Aside0.mk H
                                      clear H
                                      obtain ⟨Ao54, co54, eo54⟩ := Kd.V_slice HO_6.out
                                      subst eo54
                                      have p328 : 0 ≤ (x58_3 : Int) := of_decide_eq_true (by first | (with_reducible assumption) | assumption)
                                      have q328 : x58_3 < (t316.length : Int) := of_decide_eq_true (by first | (with_reducible assumption) | assumption)
                                      obtain ⟨ad328, e328, hx328_0, hx328_1⟩ := at_T59 (Kd.V_reads' HO_6.out).2.2 x58_3 p328 q328
                                      cases e328
                                      replace p328 := eq_true p328
                                      replace q328 := eq_true q328
                                      have hcz55_0 : wr.cell? ⟨gb325, 0, none⟩ = some (.bool ((rd_T59 l0 x58_3).f0)) := (blk_cell BK325.out 0).trans rfl
                                      have hcz55_1 : wr.cell? ⟨gb325, 1, none⟩ = some (.int .i64 x326001_4) := (blk_cell BK325.out 1).trans rfl
                                      have hfz55_0 := blk_frozen BK325.out 0
                                      have hfz55_1 := blk_frozen BK325.out 1
                                      go_wp2
                                      repeat (go_quiet (fail); try go_wp2)
                                      go_roundg k4
                                      case measure => have := HJ2.out; have := HJ12.out; have := HK3.out; have := HK4.out; omega
                                      case rel => exact ⟨(wrap64 (x58_3 + 1)), (by first | rfl | (simp; done) | (simp [*]; done)), H', ⟨by have := HJ2.out; have := HJ12.out; have := HK3.out; have := HK4.out; omega⟩, ⟨by (with_reducible repeat (first | apply Kd.V_alloc | apply Kd.V_drewN | apply Kd.V_drew)); exact Kd.V_mono HO_6.out (fun _ hk => trivial)⟩, ⟨by repeat (first | (with_reducible first | exact HB.out | apply below_alloc | apply pw_below_drewN | apply below_drew1 | refine below_set ?_ GE325.out) | exact HB.out)⟩⟩
                                  · rw [if_neg c52] at H
                                    exact absurd H (by simp)
                                · rw [if_neg c51] at H
                                  exact absurd H (by simp)
                        · rw [if_neg c33] at H
                          exact absurd H (by simp)
                      · rw [if_neg c32] at H
                        exact absurd H (by simp)
                    · rw [if_neg c31] at H
                      have c31b0 : decide (x58_3 < (l0.length : Int)) = false := decide_eq_false c31
                      clear c31
                      replace H := Option.bind_eq_some_iff.mp H
                      obtain ⟨t322, A560, H⟩ := H
                      replace H : (if t322 = true then ((handshakerlaw02_awake.f k3).bind fun t323 => (some t323)) else (some false)) = some r := H
                      have A56 := Aside0.mk A560
                      clear A560
                      by_cases c57 : t322 = true
                      · subst c57
                        have H1 : ((handshakerlaw02_awake.f k3).bind fun t323 => (some t323)) = some r := by rw [if_pos rfl] at H; exact H
                        clear H
                        have H := H1
                        clear H1
                        replace H := Option.bind_eq_some_iff.mp H
                        obtain ⟨t323, A580, H⟩ := H
                        replace H : (some t323) = some r := H
                        have A58 := Aside0.mk A580
                        clear A580
                        obtain rfl := Option.some.inj H
                        obtain ⟨Ao59, co59, eo59⟩ := Kd.V_slice HO_6.out
                        subst eo59
                        go_wp2_with (first | (go_at_call 34; (with_reducible refine (heap_Right.calls _ _ t316 true _ ?side1 ?side2 A56.out).mono ?_); (case side1 => repeat (first | exact (Kd.V_reads' HO_6.out).2.2 | (with_reducible refine Kd.C_alloc ?_ _) | (with_reducible refine Kd.C_drewN ?_ _) | (with_reducible refine Kd.C_drew ?_))); (case side2 => exact (Kd.V_reads' HO_6.out).2.1); rintro e w60 ⟨rfl, hb⟩; have n0_ := Aside0.mk (Kd.V_below (by (with_reducible repeat (first | apply Kd.V_alloc | apply Kd.V_drewN | apply Kd.V_drew)); exact HO_6.out) hb); have n1_ := Aside0.mk (below_step (by repeat (first | (with_reducible first | exact HB.out | apply below_alloc | apply pw_below_drewN | apply below_drew1) | exact HB.out)) hb); clear HO_6; clear HB; have HO_6 := n0_; have HB := n1_; clear n0_ n1_; (try clear hb); (try clear hb2); (try clear hk); (try clear hi)) | (go_at_call 25; (with_reducible refine (handshakerlaw02_awake.calls k3  t323 _ A58.out).mono ?_); rintro e w61 ⟨rfl, hb⟩; have n0_ := Aside0.mk (Kd.V_below (by (with_reducible repeat (first | apply Kd.V_alloc | apply Kd.V_drewN | apply Kd.V_drew)); exact HO_6.out) hb); have n1_ := Aside0.mk (below_step (by repeat (first | (with_reducible first | exact HB.out | apply below_alloc | apply pw_below_drewN | apply below_drew1) | exact HB.out)) hb); clear HO_6; clear HB; have HO_6 := n0_; have HB := n1_; clear n0_ n1_; (try clear hb); (try clear hb2); (try clear hk); (try clear hi)))
                        repeat (go_quiet (first | (go_at_call 34; (with_reducible refine (heap_Right.calls _ _ t316 true _ ?side1 ?side2 A56.out).mono ?_); (case side1 => repeat (first | exact (Kd.V_reads' HO_6.out).2.2 | (with_reducible refine Kd.C_alloc ?_ _) | (with_reducible refine Kd.C_drewN ?_ _) | (with_reducible refine Kd.C_drew ?_))); (case side2 => exact (Kd.V_reads' HO_6.out).2.1); rintro e w60 ⟨rfl, hb⟩; have n0_ := Aside0.mk (Kd.V_below (by (with_reducible repeat (first | apply Kd.V_alloc | apply Kd.V_drewN | apply Kd.V_drew)); exact HO_6.out) hb); have n1_ := Aside0.mk (below_step (by repeat (first | (with_reducible first | exact HB.out | apply below_alloc | apply pw_below_drewN | apply below_drew1) | exact HB.out)) hb); clear HO_6; clear HB; have HO_6 := n0_; have HB := n1_; clear n0_ n1_; (try clear hb); (try clear hb2); (try clear hk); (try clear hi)) | (go_at_call 25; (with_reducible refine (handshakerlaw02_awake.calls k3  t323 _ A58.out).mono ?_); rintro e w61 ⟨rfl, hb⟩; have n0_ := Aside0.mk (Kd.V_below (by (with_reducible repeat (first | apply Kd.V_alloc | apply Kd.V_drewN | apply Kd.V_drew)); exact HO_6.out) hb); have n1_ := Aside0.mk (below_step (by repeat (first | (with_reducible first | exact HB.out | apply below_alloc | apply pw_below_drewN | apply below_drew1) | exact HB.out)) hb); clear HO_6; clear HB; have HO_6 := n0_; have HB := n1_; clear n0_ n1_; (try clear hb); (try clear hb2); (try clear hk); (try clear hi))); try go_wp2_with (first | (go_at_call 34; (with_reducible refine (heap_Right.calls _ _ t316 true _ ?side1 ?side2 A56.out).mono ?_); (case side1 => repeat (first | exact (Kd.V_reads' HO_6.out).2.2 | (with_reducible refine Kd.C_alloc ?_ _) | (with_reducible refine Kd.C_drewN ?_ _) | (with_reducible refine Kd.C_drew ?_))); (case side2 => exact (Kd.V_reads' HO_6.out).2.1); rintro e w60 ⟨rfl, hb⟩; have n0_ := Aside0.mk (Kd.V_below (by (with_reducible repeat (first | apply Kd.V_alloc | apply Kd.V_drewN | apply Kd.V_drew)); exact HO_6.out) hb); have n1_ := Aside0.mk (below_step (by repeat (first | (with_reducible first | exact HB.out | apply below_alloc | apply pw_below_drewN | apply below_drew1) | exact HB.out)) hb); clear HO_6; clear HB; have HO_6 := n0_; have HB := n1_; clear n0_ n1_; (try clear hb); (try clear hb2); (try clear hk); (try clear hi)) | (go_at_call 25; (with_reducible refine (handshakerlaw02_awake.calls k3  t323 _ A58.out).mono ?_); rintro e w61 ⟨rfl, hb⟩; have n0_ := Aside0.mk (Kd.V_below (by (with_reducible repeat (first | apply Kd.V_alloc | apply Kd.V_drewN | apply Kd.V_drew)); exact HO_6.out) hb); have n1_ := Aside0.mk (below_step (by repeat (first | (with_reducible first | exact HB.out | apply below_alloc | apply pw_below_drewN | apply below_drew1) | exact HB.out)) hb); clear HO_6; clear HB; have HO_6 := n0_; have HB := n1_; clear n0_ n1_; (try clear hb); (try clear hb2); (try clear hk); (try clear hi))))
                        go_ret
                        exact ⟨by first | rfl | (simp [errW_none, errW_some] <;> rfl) | (simp [*, errW_none, errW_some] <;> rfl), by repeat (first | (with_reducible first | exact HB.out | apply below_alloc | apply pw_below_drewN | apply below_drew1) | exact HB.out)⟩
                      · replace c57 := Bool.eq_false_iff.mpr c57
                        subst c57
                        have H1 : (some false) = some r := by rw [if_neg (show ¬ (false = true) by decide)] at H; exact H
                        clear H
                        have H := H1
                        clear H1
                        exact absurd (Option.some.inj H) (by rw [HT.out]; decide)
        · rw [if_neg c11] at H
          exact absurd H (by simp)

/-- THE ONE PURE STATEMENT of handshakerlaw02_HeapPuts. -/
def handshakerlaw02_HeapPuts.Pure : Prop := ∀ (l0 : List (S59)) (l1 : List (S62)), l0.length ≤ maxLen → l0.length * 16 ≤ 140737488351232 → (∀ y ∈ l0, wfS59 y) → l1.length ≤ maxLen → l1.length * 16 ≤ 140737488351232 → (∀ y ∈ l1, wfS62 y) → ∃ k, handshakerlaw02_HeapPuts.f k l0 l1 = some true

end Go.Proofs.Ytlfeohglfjnnhaa.Hp
