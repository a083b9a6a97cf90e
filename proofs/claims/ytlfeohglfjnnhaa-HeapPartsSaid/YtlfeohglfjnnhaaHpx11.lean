-- PRINTED by print.py (a twelfth state) out of the translation. Not trusted: Lean checks it.
import Derived.Test.YtlfeohglfjnnhaaHpx0
import Derived.Test.YtlfeohglfjnnhaaHpx2
import Derived.Test.YtlfeohglfjnnhaaHpx3
import Derived.Test.YtlfeohglfjnnhaaHpx5
namespace Go.Proofs.Ytlfeohglfjnnhaa.Hp
open Go.Proofs.Ytlfeohglfjnnhaa.Ho
open Go.RowKit Go.Proofs.YtlfeohglfjnnhaaW.PrintWords Go.Proofs.YtlfeohglfjnnhaaW.PrintLast Go.Proofs.YtlfeohglfjnnhaaW.PrintMore
attribute [local go_sem] max2_int min2_int max_two min_two max_three min_three max_four min_four   -- for this text's walks alone
set_option linter.unusedVariables false
set_option linter.unusedSimpArgs false

/-! ### handshakerlaw02_HeapParts: function 14 -/
mutual
def handshakerlaw02_HeapParts.j0 : Nat → List (S59) → List (S62) → List (S62) → Bool → Option (Bool)
  | 0, _, _, _, _ => none
  | k + 1, x0, x1, x2, x35 => if x35 = true then ((handshakerlaw02_awake.f k).bind fun t357 => (some t357)) else ((some (([] : List (S62)) : List (S62))).bind fun y358 => (if y358.length + x1.length < 8796093022208 then ((some (y358 ++ x1 : List (S62))).bind fun y361 => (if y361.length + x2.length < 8796093022208 then ((heap_Put.f k x0 (y361 ++ x2)).bind fun bt367 => ((heap_Put.f k x0 x1).bind fun bt371 => ((heap_Put.f k bt371.1 x2).bind fun bt375 => (if bt371.2 = 0 then (if bt367.2 = 0 then (if bt375.2 = 0 then ((handshakerref02_Same.f k bt367.1 bt375.1).bind fun t379 => (handshakerlaw02_HeapParts.j1 k x0 (!t379))) else (handshakerlaw02_HeapParts.j1 k x0 true)) else (if bt375.2 = 0 then (handshakerlaw02_HeapParts.j1 k x0 true) else (handshakerlaw02_HeapParts.j1 k x0 false))) else (if bt367.2 = 0 then (handshakerlaw02_HeapParts.j1 k x0 true) else (handshakerlaw02_HeapParts.j1 k x0 false)))))) else (none))) else (none)))
def handshakerlaw02_HeapParts.j1 : Nat → List (S59) → Bool → Option (Bool)
  | 0, _, _ => none
  | k + 1, x0, x77 => if x77 = true then (some false) else ((heap_Live.f k x0).bind fun t380 => (handshakerlaw02_HeapParts.l0 k x0 ([] : List (S62)) t380 (t380.length : Int) 0))
def handshakerlaw02_HeapParts.l0 : Nat → List (S59) → List (S62) → List Int → Int → Int → Option (Bool)
  | 0, _, _, _, _, _ => none
  | k + 1, x0, x13, x79, x80, x81 => if x81 < x80 then (if 0 ≤ x81 then (if x81 < (x79.length : Int) then (if 0 ≤ (rd x79 x81) then (if (rd x79 x81) < (x0.length : Int) then (if x13.length < 8796093022208 then (handshakerlaw02_HeapParts.l0 k x0 (x13 ++ [(⟨rd x79 x81, (rd_T59 x0 (rd x79 x81)).f1⟩ : S62)]) x79 x80 (wrap64 (x81 + 1))) else (none)) else (none)) else (none)) else (none)) else (none)) else ((heap_Put.f k x0 x13).bind fun bt388 => (if bt388.2 = 0 then ((handshakerref02_Same.f k bt388.1 x0).bind fun t392 => (if t392 = true then ((handshakerlaw02_awake.f k).bind fun t393 => (some t393)) else (some false))) else (some false)))
end
def handshakerlaw02_HeapParts.f (k : Nat) (l0 : List (S59)) (l1 : List (S62)) (l2 : List (S62)) : Option (Bool) := if (l0.length : Int) > 64 then (handshakerlaw02_HeapParts.j0 k l0 l1 l2 true) else (if (l1.length : Int) > 30 then (handshakerlaw02_HeapParts.j0 k l0 l1 l2 true) else (if (l2.length : Int) > 30 then (handshakerlaw02_HeapParts.j0 k l0 l1 l2 true) else ((heap_Right.f l0).bind fun t356 => (handshakerlaw02_HeapParts.j0 k l0 l1 l2 (!t356)))))
theorem handshakerlaw02_HeapParts.mono_l : ∀ k, (∀ y0 y1 y2 y3, LeO (handshakerlaw02_HeapParts.j0 k y0 y1 y2 y3) (handshakerlaw02_HeapParts.j0 (k + 1) y0 y1 y2 y3)) ∧ (∀ y0 y1, LeO (handshakerlaw02_HeapParts.j1 k y0 y1) (handshakerlaw02_HeapParts.j1 (k + 1) y0 y1)) ∧ (∀ y0 y1 y2 y3 y4, LeO (handshakerlaw02_HeapParts.l0 k y0 y1 y2 y3 y4) (handshakerlaw02_HeapParts.l0 (k + 1) y0 y1 y2 y3 y4))
  | 0 => ⟨fun _ _ _ _ r h => by simp [handshakerlaw02_HeapParts.j0] at h, fun _ _ r h => by simp [handshakerlaw02_HeapParts.j1] at h, fun _ _ _ _ _ r h => by simp [handshakerlaw02_HeapParts.l0] at h⟩
  | k + 1 => by
    obtain ⟨ih0, ih1, ih2⟩ := handshakerlaw02_HeapParts.mono_l k
    refine ⟨?_, ?_, ?_⟩
    · intro y0 y1 y2 y3
      unfold handshakerlaw02_HeapParts.j0
      repeat' first
      | (with_reducible exact ih0 _ _ _ _)
      | (with_reducible exact ih1 _ _)
      | (with_reducible exact ih2 _ _ _ _ _)
      | (with_reducible exact handshakerlaw02_awake.mono _)
      | (with_reducible exact handshakerref02_Same.mono _ _ _)
      | (with_reducible exact heap_Live.mono _ _)
      | (with_reducible exact heap_Put.mono _ _ _)
      | (with_reducible exact LeO.refl _)
      | (with_reducible exact LeO.none _)
      | (with_reducible refine LeO.ite ?_ ?_)
      | (with_reducible refine LeO.bind ?_ (fun _ => ?_))
      | exact ih0 _ _ _ _
      | exact ih1 _ _
      | exact ih2 _ _ _ _ _
      | exact handshakerlaw02_awake.mono _
      | exact handshakerref02_Same.mono _ _ _
      | exact heap_Live.mono _ _
      | exact heap_Put.mono _ _ _
      | exact LeO.none _
      | refine LeO.ite ?_ ?_
      | refine LeO.bind ?_ (fun _ => ?_)
    · intro y0 y1
      unfold handshakerlaw02_HeapParts.j1
      repeat' first
      | (with_reducible exact ih0 _ _ _ _)
      | (with_reducible exact ih1 _ _)
      | (with_reducible exact ih2 _ _ _ _ _)
      | (with_reducible exact handshakerlaw02_awake.mono _)
      | (with_reducible exact handshakerref02_Same.mono _ _ _)
      | (with_reducible exact heap_Live.mono _ _)
      | (with_reducible exact heap_Put.mono _ _ _)
      | (with_reducible exact LeO.refl _)
      | (with_reducible exact LeO.none _)
      | (with_reducible refine LeO.ite ?_ ?_)
      | (with_reducible refine LeO.bind ?_ (fun _ => ?_))
      | exact ih0 _ _ _ _
      | exact ih1 _ _
      | exact ih2 _ _ _ _ _
      | exact handshakerlaw02_awake.mono _
      | exact handshakerref02_Same.mono _ _ _
      | exact heap_Live.mono _ _
      | exact heap_Put.mono _ _ _
      | exact LeO.none _
      | refine LeO.ite ?_ ?_
      | refine LeO.bind ?_ (fun _ => ?_)
    · intro y0 y1 y2 y3 y4
      unfold handshakerlaw02_HeapParts.l0
      repeat' first
      | (with_reducible exact ih0 _ _ _ _)
      | (with_reducible exact ih1 _ _)
      | (with_reducible exact ih2 _ _ _ _ _)
      | (with_reducible exact handshakerlaw02_awake.mono _)
      | (with_reducible exact handshakerref02_Same.mono _ _ _)
      | (with_reducible exact heap_Live.mono _ _)
      | (with_reducible exact heap_Put.mono _ _ _)
      | (with_reducible exact LeO.refl _)
      | (with_reducible exact LeO.none _)
      | (with_reducible refine LeO.ite ?_ ?_)
      | (with_reducible refine LeO.bind ?_ (fun _ => ?_))
      | exact ih0 _ _ _ _
      | exact ih1 _ _
      | exact ih2 _ _ _ _ _
      | exact handshakerlaw02_awake.mono _
      | exact handshakerref02_Same.mono _ _ _
      | exact heap_Live.mono _ _
      | exact heap_Put.mono _ _ _
      | exact LeO.none _
      | refine LeO.ite ?_ ?_
      | refine LeO.bind ?_ (fun _ => ?_)
theorem handshakerlaw02_HeapParts.mono : ∀ a0 a1 a2 k, LeO (handshakerlaw02_HeapParts.f k a0 a1 a2) (handshakerlaw02_HeapParts.f (k + 1) a0 a1 a2) := by
  intro a0 a1 a2 k
  obtain ⟨ih0, ih1, ih2⟩ := handshakerlaw02_HeapParts.mono_l k
  unfold handshakerlaw02_HeapParts.f
  repeat' first
      | (with_reducible exact ih0 _ _ _ _)
      | (with_reducible exact ih1 _ _)
      | (with_reducible exact ih2 _ _ _ _ _)
      | (with_reducible exact handshakerlaw02_awake.mono _)
      | (with_reducible exact handshakerref02_Same.mono _ _ _)
      | (with_reducible exact heap_Live.mono _ _)
      | (with_reducible exact heap_Put.mono _ _ _)
      | (with_reducible exact LeO.refl _)
      | (with_reducible exact LeO.none _)
      | (with_reducible refine LeO.ite ?_ ?_)
      | (with_reducible refine LeO.bind ?_ (fun _ => ?_))
      | exact ih0 _ _ _ _
      | exact ih1 _ _
      | exact ih2 _ _ _ _ _
      | exact handshakerlaw02_awake.mono _
      | exact handshakerref02_Same.mono _ _ _
      | exact heap_Live.mono _ _
      | exact heap_Put.mono _ _ _
      | exact LeO.none _
      | refine LeO.ite ?_ ?_
      | refine LeO.bind ?_ (fun _ => ?_)
set_option maxHeartbeats 8000000 in
set_option maxRecDepth 100000 in
theorem handshakerlaw02_HeapParts.calls (k : Nat) (A0 : Option Addr) (c0 : Nat) (l0 : List (S59)) (A1 : Option Addr) (c1 : Nat) (l1 : List (S62)) (A2 : Option Addr) (c2 : Nat) (l2 : List (S62)) (r : Bool) (w : World) (HT : Aside0 (r = true)) (hr0 : Kd.C k59 w A0 l0.length l0) (hc0 : l0.length ≤ c0) (hr1 : Kd.C k62 w A1 l1.length l1) (hc1 : l1.length ≤ c1) (hr2 : Kd.C k62 w A2 l2.length l2) (hc2 : l2.length ≤ c2) (h : handshakerlaw02_HeapParts.f k l0 l1 l2 = some r) :
    Calls Try.prog 14 #[.slice A0 l0.length c0, .slice A1 l1.length c1, .slice A2 l2.length c2] w fun e w' => e = .returned (.bool r) ∧ Below w.heap.size w w' := by
  have hu62 := Try.underlying62
  have HR0 := Aside0.mk hr0
  have HC0 := Aside0.mk hc0
  clear hr0 hc0
  have HR1 := Aside0.mk hr1
  have HC1 := Aside0.mk hc1
  clear hr1 hc1
  have HR2 := Aside0.mk hr2
  have HC2 := Aside0.mk hc2
  clear hr2 hc2
  have HB := Aside0.mk (Below.refl w.heap.size w)
  have H : (if (l0.length : Int) > 64 then (handshakerlaw02_HeapParts.j0 k l0 l1 l2 true) else (if (l1.length : Int) > 30 then (handshakerlaw02_HeapParts.j0 k l0 l1 l2 true) else (if (l2.length : Int) > 30 then (handshakerlaw02_HeapParts.j0 k l0 l1 l2 true) else ((heap_Right.f l0).bind fun t356 => (handshakerlaw02_HeapParts.j0 k l0 l1 l2 (!t356)))))) = some r := h
  clear h
  have HC4 := Aside0.mk H
  clear H
  go_enter Try.func14, Try.ntmps14
  go_upto_region 1 with (fail)
  go_cut [35] (fun v35 wc => ∃ (kq : Nat) (x35_3 : Bool), v35 = .bool x35_3 ∧ Aside0 (handshakerlaw02_HeapParts.j0 kq l0 l1 l2 x35_3 = some r) ∧ Aside0 (kq ≤ k) ∧ Aside0 (Below w.heap.size w wc))
  case first =>
    have H := HC4.out
    clear HC4
    by_cases c5 : (l0.length : Int) > 64
    · rw [if_pos c5] at H
      have c5b0 : decide (64 < (l0.length : Int)) = true := decide_eq_true c5
      have c5b1 : decide (64 < l0.length) = true := decide_eq_true (by omega)
      clear c5
      (first | rw [c5b0] | (simp only [i64_w, i32_w]; rw [c5b0]) | skip)
      have H' := Aside0.mk H
      clear H
      go_wp2
      go_meet
      case rel => exact ⟨_, (true), (by first | rfl | (simp; done) | (simp [*]; done)), H', ⟨by first | omega | exact Nat.le_refl _⟩, ⟨by repeat (first | (with_reducible first | exact HB.out | apply below_alloc | apply pw_below_drewN | apply below_drew1) | exact HB.out)⟩⟩
    · rw [if_neg c5] at H
      have c5b0 : decide (64 < (l0.length : Int)) = false := decide_eq_false c5
      have c5b1 : decide (64 < l0.length) = false := decide_eq_false (by omega)
      clear c5
      (first | rw [c5b0] | (simp only [i64_w, i32_w]; rw [c5b0]) | skip)
      by_cases c6 : (l1.length : Int) > 30
      · rw [if_pos c6] at H
        have c6b0 : decide (30 < (l1.length : Int)) = true := decide_eq_true c6
        have c6b1 : decide (30 < l1.length) = true := decide_eq_true (by omega)
        clear c6
        have H' := Aside0.mk H
        clear H
        go_wp2
        go_meet
        case rel => exact ⟨_, (true), (by first | rfl | (simp; done) | (simp [*]; done)), H', ⟨by first | omega | exact Nat.le_refl _⟩, ⟨by repeat (first | (with_reducible first | exact HB.out | apply below_alloc | apply pw_below_drewN | apply below_drew1) | exact HB.out)⟩⟩
      · rw [if_neg c6] at H
        have c6b0 : decide (30 < (l1.length : Int)) = false := decide_eq_false c6
        have c6b1 : decide (30 < l1.length) = false := decide_eq_false (by omega)
        clear c6
        by_cases c7 : (l2.length : Int) > 30
        · rw [if_pos c7] at H
          have c7b0 : decide (30 < (l2.length : Int)) = true := decide_eq_true c7
          have c7b1 : decide (30 < l2.length) = true := decide_eq_true (by omega)
          clear c7
          have H' := Aside0.mk H
          clear H
          go_wp2
          go_meet
          case rel => exact ⟨_, (true), (by first | rfl | (simp; done) | (simp [*]; done)), H', ⟨by first | omega | exact Nat.le_refl _⟩, ⟨by repeat (first | (with_reducible first | exact HB.out | apply below_alloc | apply pw_below_drewN | apply below_drew1) | exact HB.out)⟩⟩
        · rw [if_neg c7] at H
          have c7b0 : decide (30 < (l2.length : Int)) = false := decide_eq_false c7
          have c7b1 : decide (30 < l2.length) = false := decide_eq_false (by omega)
          clear c7
          replace H := Option.bind_eq_some_iff.mp H
          obtain ⟨t356, A80, H⟩ := H
          replace H : (handshakerlaw02_HeapParts.j0 k l0 l1 l2 (!t356)) = some r := H
          have A8 := Aside0.mk A80
          clear A80
          have H' := Aside0.mk H
          clear H
          go_wp2_with (first | (go_at_call 34; (with_reducible refine (heap_Right.calls _ _ l0 t356 _ ?side1 ?side2 A8.out).mono ?_); (case side1 => repeat (first | exact (Kd.C_below HR0.out HB.out) | (with_reducible refine Kd.C_alloc ?_ _) | (with_reducible refine Kd.C_drewN ?_ _) | (with_reducible refine Kd.C_drew ?_))); (case side2 => exact HC0.out); rintro e w9 ⟨rfl, hb⟩; have n0_ := Aside0.mk (below_step (by repeat (first | (with_reducible first | exact HB.out | apply below_alloc | apply pw_below_drewN | apply below_drew1) | exact HB.out)) hb); clear HB; have HB := n0_; clear n0_; (try clear hb); (try clear hb2); (try clear hk); (try clear hi)))
          go_meet
          case rel => exact ⟨_, (!t356), (by first | rfl | (simp; done) | (simp [*]; done)), H', ⟨by first | omega | exact Nat.le_refl _⟩, ⟨by repeat (first | (with_reducible first | exact HB.out | apply below_alloc | apply pw_below_drewN | apply below_drew1) | exact HB.out)⟩⟩
  case rest =>
    clear HC4
    try clear c1
    try clear c2
    try clear p2
    try clear c5
    try clear c5b0
    try clear c5b1
    try clear c6
    try clear c6b0
    try clear c6b1
    try clear c7
    try clear c7b0
    try clear c7b1
    obtain ⟨kq, x35_3, rfl, HA, HJ3, HB⟩ := hcut
    cases kq with
    | zero => exact absurd HA.out (by simp [handshakerlaw02_HeapParts.j0])
    | succ kj3 =>
      have H := HA.out
      clear HA
      simp only [handshakerlaw02_HeapParts.j0] at H
      by_cases c10 : x35_3 = true
      · subst c10
        have H1 : ((handshakerlaw02_awake.f kj3).bind fun t357 => (some t357)) = some r := by rw [if_pos rfl] at H; exact H
        clear H
        have H := H1
        clear H1
        replace H := Option.bind_eq_some_iff.mp H
        obtain ⟨t357, A110, H⟩ := H
        replace H : (some t357) = some r := H
        have A11 := Aside0.mk A110
        clear A110
        obtain rfl := Option.some.inj H
        go_wp2_with (first | ((with_reducible refine gate_callee (f := 25) rfl ?_); refine goesL_ (some 36) rfl rfl Try.func25 (by kernel_rfl) rfl #[] rfl (by (try simp only [List.map_toArray, List.map_cons, List.map_nil]); first | done | rfl | (simp only [List.length_drop, List.length_take]; rfl)) ?_; (with_reducible refine (handshakerlaw02_awake.calls kj3  t357 _ A11.out).mono ?_); rintro e w12 ⟨rfl, hb⟩; refine ⟨_, rfl, ?_⟩; have n0_ := Aside0.mk (below_step (by repeat (first | (with_reducible first | exact HB.out | apply below_alloc | apply pw_below_drewN | apply below_drew1) | exact HB.out)) hb); clear HB; have HB := n0_; clear n0_; (try clear hb); (try clear hb2); (try clear hk); (try clear hi)))
        go_ret
        exact ⟨by first | rfl | (simp [errW_none, errW_some] <;> rfl) | (simp [*, errW_none, errW_some] <;> rfl), by repeat (first | (with_reducible first | exact HB.out | apply below_alloc | apply pw_below_drewN | apply below_drew1) | exact HB.out)⟩
      · replace c10 := Bool.eq_false_iff.mpr c10
        subst c10
        have H1 : ((some (([] : List (S62)) : List (S62))).bind fun y358 => (if y358.length + l1.length < 8796093022208 then ((some (y358 ++ l1 : List (S62))).bind fun y361 => (if y361.length + l2.length < 8796093022208 then ((heap_Put.f kj3 l0 (y361 ++ l2)).bind fun bt367 => ((heap_Put.f kj3 l0 l1).bind fun bt371 => ((heap_Put.f kj3 bt371.1 l2).bind fun bt375 => (if bt371.2 = 0 then (if bt367.2 = 0 then (if bt375.2 = 0 then ((handshakerref02_Same.f kj3 bt367.1 bt375.1).bind fun t379 => (handshakerlaw02_HeapParts.j1 kj3 l0 (!t379))) else (handshakerlaw02_HeapParts.j1 kj3 l0 true)) else (if bt375.2 = 0 then (handshakerlaw02_HeapParts.j1 kj3 l0 true) else (handshakerlaw02_HeapParts.j1 kj3 l0 false))) else (if bt367.2 = 0 then (handshakerlaw02_HeapParts.j1 kj3 l0 true) else (handshakerlaw02_HeapParts.j1 kj3 l0 false)))))) else (none))) else (none))) = some r := by rw [if_neg (show ¬ (false = true) by decide)] at H; exact H
        clear H
        have H := H1
        clear H1
        obtain ⟨y358, hy358⟩ : ∃ y_ : List (S62), y_ = (([] : List (S62))) := ⟨_, rfl⟩
        replace H : (if y358.length + l1.length < 8796093022208 then ((some (y358 ++ l1 : List (S62))).bind fun y361 => (if y361.length + l2.length < 8796093022208 then ((heap_Put.f kj3 l0 (y361 ++ l2)).bind fun bt367 => ((heap_Put.f kj3 l0 l1).bind fun bt371 => ((heap_Put.f kj3 bt371.1 l2).bind fun bt375 => (if bt371.2 = 0 then (if bt367.2 = 0 then (if bt375.2 = 0 then ((handshakerref02_Same.f kj3 bt367.1 bt375.1).bind fun t379 => (handshakerlaw02_HeapParts.j1 kj3 l0 (!t379))) else (handshakerlaw02_HeapParts.j1 kj3 l0 true)) else (if bt375.2 = 0 then (handshakerlaw02_HeapParts.j1 kj3 l0 true) else (handshakerlaw02_HeapParts.j1 kj3 l0 false))) else (if bt367.2 = 0 then (handshakerlaw02_HeapParts.j1 kj3 l0 true) else (handshakerlaw02_HeapParts.j1 kj3 l0 false)))))) else (none))) else (none)) = some r := by first | (rw [hy358]; with_reducible exact H) | (have H2_ := (Option.bind_some _ _).symm.trans H; rw [hy358]; with_reducible exact H2_) | (have H2_ := (Option.bind_some _ _).symm.trans H; with_reducible exact H2_) | with_reducible exact H | (rw [hy358]; exact H) | exact H
        have Ny358 := Aside0.mk hy358
        clear hy358
        by_cases c13 : y358.length + l1.length < 8796093022208
        · rw [if_pos c13] at H
          have LMc13 := Aside0.mk c13
          clear c13
          obtain ⟨y361, hy361⟩ : ∃ y_ : List (S62), y_ = (y358 ++ l1) := ⟨_, rfl⟩
          replace H : (if y361.length + l2.length < 8796093022208 then ((heap_Put.f kj3 l0 (y361 ++ l2)).bind fun bt367 => ((heap_Put.f kj3 l0 l1).bind fun bt371 => ((heap_Put.f kj3 bt371.1 l2).bind fun bt375 => (if bt371.2 = 0 then (if bt367.2 = 0 then (if bt375.2 = 0 then ((handshakerref02_Same.f kj3 bt367.1 bt375.1).bind fun t379 => (handshakerlaw02_HeapParts.j1 kj3 l0 (!t379))) else (handshakerlaw02_HeapParts.j1 kj3 l0 true)) else (if bt375.2 = 0 then (handshakerlaw02_HeapParts.j1 kj3 l0 true) else (handshakerlaw02_HeapParts.j1 kj3 l0 false))) else (if bt367.2 = 0 then (handshakerlaw02_HeapParts.j1 kj3 l0 true) else (handshakerlaw02_HeapParts.j1 kj3 l0 false)))))) else (none)) = some r := by first | (rw [hy361]; with_reducible exact H) | (have H2_ := (Option.bind_some _ _).symm.trans H; rw [hy361]; with_reducible exact H2_) | (have H2_ := (Option.bind_some _ _).symm.trans H; with_reducible exact H2_) | with_reducible exact H | (rw [hy361]; exact H) | exact H
          have Ny361 := Aside0.mk hy361
          clear hy361
          by_cases c14 : y361.length + l2.length < 8796093022208
          · rw [if_pos c14] at H
            have LMc14 := Aside0.mk c14
            clear c14
            obtain ⟨y364, hy364⟩ : ∃ y_ : List (S62), y_ = (y361 ++ l2) := ⟨_, rfl⟩
            replace H : ((heap_Put.f kj3 l0 y364).bind fun bt367 => ((heap_Put.f kj3 l0 l1).bind fun bt371 => ((heap_Put.f kj3 bt371.1 l2).bind fun bt375 => (if bt371.2 = 0 then (if bt367.2 = 0 then (if bt375.2 = 0 then ((handshakerref02_Same.f kj3 bt367.1 bt375.1).bind fun t379 => (handshakerlaw02_HeapParts.j1 kj3 l0 (!t379))) else (handshakerlaw02_HeapParts.j1 kj3 l0 true)) else (if bt375.2 = 0 then (handshakerlaw02_HeapParts.j1 kj3 l0 true) else (handshakerlaw02_HeapParts.j1 kj3 l0 false))) else (if bt367.2 = 0 then (handshakerlaw02_HeapParts.j1 kj3 l0 true) else (handshakerlaw02_HeapParts.j1 kj3 l0 false)))))) = some r := by first | (rw [hy364]; with_reducible exact H) | (have H2_ := (Option.bind_some _ _).symm.trans H; rw [hy364]; with_reducible exact H2_) | (have H2_ := (Option.bind_some _ _).symm.trans H; with_reducible exact H2_) | with_reducible exact H | (rw [hy364]; exact H) | exact H
            have Ny364 := Aside0.mk hy364
            clear hy364
            replace H := Option.bind_eq_some_iff.mp H
            obtain ⟨⟨t367, t370⟩, A150, H⟩ := H
            replace H : ((heap_Put.f kj3 l0 l1).bind fun bt371 => ((heap_Put.f kj3 bt371.1 l2).bind fun bt375 => (if bt371.2 = 0 then (if t370 = 0 then (if bt375.2 = 0 then ((handshakerref02_Same.f kj3 t367 bt375.1).bind fun t379 => (handshakerlaw02_HeapParts.j1 kj3 l0 (!t379))) else (handshakerlaw02_HeapParts.j1 kj3 l0 true)) else (if bt375.2 = 0 then (handshakerlaw02_HeapParts.j1 kj3 l0 true) else (handshakerlaw02_HeapParts.j1 kj3 l0 false))) else (if t370 = 0 then (handshakerlaw02_HeapParts.j1 kj3 l0 true) else (handshakerlaw02_HeapParts.j1 kj3 l0 false))))) = some r := H
            have A15 := Aside0.mk A150
            clear A150
            replace H := Option.bind_eq_some_iff.mp H
            obtain ⟨⟨t371, t374⟩, A160, H⟩ := H
            replace H : ((heap_Put.f kj3 t371 l2).bind fun bt375 => (if t374 = 0 then (if t370 = 0 then (if bt375.2 = 0 then ((handshakerref02_Same.f kj3 t367 bt375.1).bind fun t379 => (handshakerlaw02_HeapParts.j1 kj3 l0 (!t379))) else (handshakerlaw02_HeapParts.j1 kj3 l0 true)) else (if bt375.2 = 0 then (handshakerlaw02_HeapParts.j1 kj3 l0 true) else (handshakerlaw02_HeapParts.j1 kj3 l0 false))) else (if t370 = 0 then (handshakerlaw02_HeapParts.j1 kj3 l0 true) else (handshakerlaw02_HeapParts.j1 kj3 l0 false)))) = some r := H
            have A16 := Aside0.mk A160
            clear A160
            replace H := Option.bind_eq_some_iff.mp H
            obtain ⟨⟨t375, t378⟩, A170, H⟩ := H
            replace H : (if t374 = 0 then (if t370 = 0 then (if t378 = 0 then ((handshakerref02_Same.f kj3 t367 t375).bind fun t379 => (handshakerlaw02_HeapParts.j1 kj3 l0 (!t379))) else (handshakerlaw02_HeapParts.j1 kj3 l0 true)) else (if t378 = 0 then (handshakerlaw02_HeapParts.j1 kj3 l0 true) else (handshakerlaw02_HeapParts.j1 kj3 l0 false))) else (if t370 = 0 then (handshakerlaw02_HeapParts.j1 kj3 l0 true) else (handshakerlaw02_HeapParts.j1 kj3 l0 false))) = some r := H
            have A17 := Aside0.mk A170
            clear A170
            have HC18 := Aside0.mk H
            clear H
            go_upto_region 6 with (first | ((with_reducible refine gate_dst (N := 39) rfl ?_); (try (refine gate_guard (by rfl) ?_; dsimp only)); refine Kd.R_lit k62 _ 62 ?hg (N := 39) ?hd (xs := ([] : List (S62))) (inner := []) (ok := fun _ => True) (okp := fun _ => True) ?hr ?hp (fun _ hk => hk) trivial (Below.refl _ _) (Nat.le_refl _) (by simp) ?_; (case hd => rfl); (case hg => rfl); (case hr => first | (go_simp; done) | (go_simp; rfl)); (case hp => exact (Reps.none _ _)); intro v359 w19 ho20 hb hg_ hnew_; clear hg_ hnew_; (first | rw [← Ny358.out] at ho20 | (simp only [Int.reduceToNat] at ho20; rw [← Ny358.out] at ho20)); have n0_ := Aside0.mk (Kd.R_lower ho20 (below_size (by repeat (first | (with_reducible first | exact HB.out | apply below_alloc | apply pw_below_drewN | apply below_drew1) | exact HB.out)))); have n1_ := Aside0.mk (below_step (by repeat (first | (with_reducible first | exact HB.out | apply below_alloc | apply pw_below_drewN | apply below_drew1) | exact HB.out)) hb); clear HB; have HO360 := n0_; have HB := n1_; clear n0_ n1_; clear hb ho20) | ((with_reducible refine gate_builtin (b := .append) (xs := #[.tmp 39, .tmp 40]) rfl ?_); (try (refine gate_guard (by rfl) ?_; dsimp only)); at_builtin; refine Kd.R_append_rows k62 (w0 := w) w.heap.size rfl (.tmp 39) (.tmp 40) 35 62 (.agg #[(.int .i64 0), (.int .i64 0)]) 16 rfl Try.underlying35 info62 rfl (by decide) (by omega) v359 y358 l1 _ _ _ (fun _ => True) (fun _ => False) rfl rfl ?aO ?aR (fun _ _ h => h) (fun _ h => h.elim) ?aF ?aB ?aS ?aL ?_; (case aR => repeat (first | exact (Kd.C_below HR1.out HB.out) | (with_reducible refine Kd.C_alloc ?_ _) | (with_reducible refine Kd.C_drewN ?_ _) | (with_reducible refine Kd.C_drew ?_))); (case aB => exact (by repeat (first | (with_reducible first | exact HB.out | apply below_alloc | apply pw_below_drewN | apply below_drew1) | exact HB.out))); (case aF => exact (fun _ _ => trivial)); (case aO => exact (by (with_reducible repeat (first | apply Kd.R_alloc | apply Kd.R_drewN | apply Kd.R_drew)); exact HO360.out)); (case aS => exact (below_size (by repeat (first | (with_reducible first | exact HB.out | apply below_alloc | apply pw_below_drewN | apply below_drew1) | exact HB.out)))); (case aL => have := LMc13.out; omega); intro v362 w21 ho hb hg hat; rw [← Ny361.out] at ho; have n0_ := Aside0.mk (hb); have n1_ := Aside0.mk (ho); clear HB; clear HO360; have HB := n0_; have HO363 := n1_; clear n0_ n1_; clear ho hb hg hat) | ((with_reducible refine gate_builtin (b := .append) (xs := #[.tmp 41, .tmp 42]) rfl ?_); (try (refine gate_guard (by rfl) ?_; dsimp only)); at_builtin; refine Kd.R_append_rows k62 (w0 := w) w.heap.size rfl (.tmp 41) (.tmp 42) 35 62 (.agg #[(.int .i64 0), (.int .i64 0)]) 16 rfl Try.underlying35 info62 rfl (by decide) (by omega) v362 y361 l2 _ _ _ (fun _ => True) (fun _ => False) rfl rfl ?aO ?aR (fun _ _ h => h) (fun _ h => h.elim) ?aF ?aB ?aS ?aL ?_; (case aR => repeat (first | exact (Kd.C_below HR2.out HB.out) | (with_reducible refine Kd.C_alloc ?_ _) | (with_reducible refine Kd.C_drewN ?_ _) | (with_reducible refine Kd.C_drew ?_))); (case aB => exact (by repeat (first | (with_reducible first | exact HB.out | apply below_alloc | apply pw_below_drewN | apply below_drew1) | exact HB.out))); (case aF => exact (fun _ _ => trivial)); (case aO => exact (by (with_reducible repeat (first | apply Kd.R_alloc | apply Kd.R_drewN | apply Kd.R_drew)); exact HO363.out)); (case aS => exact (below_size (by repeat (first | (with_reducible first | exact HB.out | apply below_alloc | apply pw_below_drewN | apply below_drew1) | exact HB.out)))); (case aL => have := LMc14.out; omega); intro v365 w22 ho hb hg hat; rw [← Ny364.out] at ho; have n0_ := Aside0.mk (hb); have n1_ := Aside0.mk (ho); clear HB; clear HO363; have HB := n0_; have HO366 := n1_; clear n0_ n1_; clear ho hb hg hat; obtain ⟨Ao23, co23, eo23⟩ := Kd.R_slice HO366.out; subst eo23) | ((with_reducible refine gate_callee (f := 32) rfl ?_); refine goesL_ (some 44) rfl rfl Try.func32 (by kernel_rfl) rfl #[.slice A0 l0.length c0, .slice Ao23 y364.length co23] rfl (by (try simp only [List.map_toArray, List.map_cons, List.map_nil]); first | done | rfl | (simp only [List.length_drop, List.length_take]; rfl)) ?_; (with_reducible refine (heap_Put.calls kj3 (fun k_ => k_ < w.heap.size) _ _ l0 _ _ y364 t367 t370 _ ?side1 ?side2 ?side3 A15.out).mono ?_); (case side1 => exact Kd.V_mk HC0.out (Kd.F_below (Kd.C_F k59_heap HR0.out) (by repeat (first | (with_reducible first | exact HB.out | apply below_alloc | apply pw_below_drewN | apply below_drew1) | exact HB.out)))); (case side2 => repeat (first | exact (Kd.R_reads' HO366.out).2.2 | (with_reducible refine Kd.C_alloc ?_ _) | (with_reducible refine Kd.C_drewN ?_ _) | (with_reducible refine Kd.C_drew ?_))); (case side3 => exact (Kd.R_reads' HO366.out).2.1); rintro e w24 ⟨v368, rfl, ho0, hb⟩; refine ⟨_, rfl, ?_⟩; have n0_ := Aside0.mk (Kd.R_below (by (with_reducible repeat (first | apply Kd.R_alloc | apply Kd.R_drewN | apply Kd.R_drew)); exact HO366.out) hb); have n1_ := Aside0.mk (Kd.V_lower (Kd.V_mono (ok' := fun k_ => some k_ ≠ (.slice Ao23 y364.length co23 : Value).ownBlock) ho0 (fun k_ hk_ => Or.elim hk_ (fun hs_ => fun e_ => Nat.not_le.2 hs_ (Kd.R_base HO366.out k_ e_.symm)) (fun hn_ => (Kd.fresh' (Kd.R_lt (by (with_reducible repeat (first | apply Kd.R_alloc | apply Kd.R_drewN | apply Kd.R_drew)); exact HO366.out)) k_ hn_)))) (below_size (by repeat (first | (with_reducible first | exact HB.out | apply below_alloc | apply pw_below_drewN | apply below_drew1) | exact HB.out)))); have n2_ := Aside0.mk (below_step (by repeat (first | (with_reducible first | exact HB.out | apply below_alloc | apply pw_below_drewN | apply below_drew1) | exact HB.out)) hb); clear HO366; clear HB; have HO366 := n0_; have HO369 := n1_; have HB := n2_; clear n0_ n1_ n2_; (try clear hb); (try clear hb2); (try clear hk); (try clear hi); (try clear ho0)) | ((with_reducible refine gate_callee (f := 32) rfl ?_); refine goesL_ (some 50) rfl rfl Try.func32 (by kernel_rfl) rfl #[.slice A0 l0.length c0, .slice A1 l1.length c1] rfl (by (try simp only [List.map_toArray, List.map_cons, List.map_nil]); first | done | rfl | (simp only [List.length_drop, List.length_take]; rfl)) ?_; (with_reducible refine (heap_Put.calls kj3 (fun k_ => k_ < w.heap.size) _ _ l0 _ _ l1 t371 t374 _ ?side1 ?side2 ?side3 A16.out).mono ?_); (case side1 => exact Kd.V_mk HC0.out (Kd.F_below (Kd.C_F k59_heap HR0.out) (by repeat (first | (with_reducible first | exact HB.out | apply below_alloc | apply pw_below_drewN | apply below_drew1) | exact HB.out)))); (case side2 => repeat (first | exact (Kd.C_below HR1.out HB.out) | (with_reducible refine Kd.C_alloc ?_ _) | (with_reducible refine Kd.C_drewN ?_ _) | (with_reducible refine Kd.C_drew ?_))); (case side3 => exact HC1.out); rintro e w25 ⟨v372, rfl, ho0, hb⟩; refine ⟨_, rfl, ?_⟩; have n0_ := Aside0.mk (Kd.R_below (by (with_reducible repeat (first | apply Kd.R_alloc | apply Kd.R_drewN | apply Kd.R_drew)); exact HO366.out) hb); have n1_ := Aside0.mk (Kd.V_below (by (with_reducible repeat (first | apply Kd.V_alloc | apply Kd.V_drewN | apply Kd.V_drew)); exact HO369.out) hb); have n2_ := Aside0.mk (Kd.V_lower (Kd.V_mono (ok' := fun k_ => some k_ ≠ (.slice Ao23 y364.length co23 : Value).ownBlock) ho0 (fun k_ hk_ => Or.elim hk_ (fun hs_ => fun e_ => Nat.not_le.2 hs_ (Kd.R_base HO366.out k_ e_.symm)) (fun hn_ => (Kd.fresh' (Kd.R_lt (by (with_reducible repeat (first | apply Kd.R_alloc | apply Kd.R_drewN | apply Kd.R_drew)); exact HO366.out)) k_ hn_)))) (below_size (by repeat (first | (with_reducible first | exact HB.out | apply below_alloc | apply pw_below_drewN | apply below_drew1) | exact HB.out)))); have n3_ := Aside0.mk (below_step (by repeat (first | (with_reducible first | exact HB.out | apply below_alloc | apply pw_below_drewN | apply below_drew1) | exact HB.out)) hb); clear HO366; clear HO369; clear HB; have HO366 := n0_; have HO369 := n1_; have HO373 := n2_; have HB := n3_; clear n0_ n1_ n2_ n3_; (try clear hb); (try clear hb2); (try clear hk); (try clear hi); (try clear ho0); obtain ⟨Ao26, co26, eo26⟩ := Kd.V_slice HO373.out; subst eo26) | ((with_reducible refine gate_callee (f := 32) rfl ?_); refine goesL_ (some 56) rfl rfl Try.func32 (by kernel_rfl) rfl #[.slice Ao26 t371.length co26, .slice A2 l2.length c2] rfl (by (try simp only [List.map_toArray, List.map_cons, List.map_nil]); first | done | rfl | (simp only [List.length_drop, List.length_take]; rfl)) ?_; (with_reducible refine (heap_Put.calls kj3 (fun k_ => some k_ ≠ (.slice Ao23 y364.length co23 : Value).ownBlock) _ _ t371 _ _ l2 t375 t378 _ ?side1 ?side2 ?side3 A17.out).mono ?_); (case side1 => exact HO373.out); (case side2 => repeat (first | exact (Kd.C_below HR2.out HB.out) | (with_reducible refine Kd.C_alloc ?_ _) | (with_reducible refine Kd.C_drewN ?_ _) | (with_reducible refine Kd.C_drew ?_))); (case side3 => exact HC2.out); rintro e w27 ⟨v376, rfl, ho0, hb⟩; refine ⟨_, rfl, ?_⟩; have n0_ := Aside0.mk (Kd.R_below (by (with_reducible repeat (first | apply Kd.R_alloc | apply Kd.R_drewN | apply Kd.R_drew)); exact HO366.out) hb); have n1_ := Aside0.mk (Kd.V_below (by (with_reducible repeat (first | apply Kd.V_alloc | apply Kd.V_drewN | apply Kd.V_drew)); exact HO369.out) hb); have n2_ := Aside0.mk (Kd.V_below (by (with_reducible repeat (first | apply Kd.V_alloc | apply Kd.V_drewN | apply Kd.V_drew)); exact HO373.out) hb); have n3_ := Aside0.mk (Kd.V_lower (Kd.V_mono (ok' := fun k_ => some k_ ≠ (.slice Ao23 y364.length co23 : Value).ownBlock) ho0 (fun k_ hk_ => Or.elim hk_ (fun hs_ => hs_) (fun hn_ => (Kd.fresh' (Kd.R_lt (by (with_reducible repeat (first | apply Kd.R_alloc | apply Kd.R_drewN | apply Kd.R_drew)); exact HO366.out)) k_ hn_)))) (below_size (by repeat (first | (with_reducible first | exact HB.out | apply below_alloc | apply pw_below_drewN | apply below_drew1) | exact HB.out)))); have n4_ := Aside0.mk (below_step (by repeat (first | (with_reducible first | exact HB.out | apply below_alloc | apply pw_below_drewN | apply below_drew1) | exact HB.out)) hb); clear HO366; clear HO369; clear HO373; clear HB; have HO366 := n0_; have HO369 := n1_; have HO373 := n2_; have HO377 := n3_; have HB := n4_; clear n0_ n1_ n2_ n3_ n4_; (try clear hb); (try clear hb2); (try clear hk); (try clear hi); (try clear ho0)))
            (try simp only [Act.put, List.setIfInBounds_toArray, List.set_cons_zero, List.set_cons_succ])
            go_cut [77] (fun v77 wc => ∃ (kq : Nat) (x77_17 : Bool), v77 = .bool x77_17 ∧ Aside0 (handshakerlaw02_HeapParts.j1 kq l0 x77_17 = some r) ∧ Aside0 (kq ≤ kj3) ∧ Aside0 (Below w.heap.size w wc))
            case first =>
              have H := HC18.out
              clear HC18
              by_cases c28 : t374 = 0
              · rw [if_pos c28] at H
                have c28b0 : (t374 == 0) = true := beq_iff_eq.mpr c28
                have c28b1 : (t374 != 0) = false := bne_eq_false_iff_eq.mpr c28
                clear c28
                (first | rw [c28b0] | (simp only [i64_w, i32_w]; rw [c28b0]) | skip)
                by_cases c29 : t370 = 0
                · rw [if_pos c29] at H
                  have c29b0 : (t370 == 0) = true := beq_iff_eq.mpr c29
                  have c29b1 : (t370 != 0) = false := bne_eq_false_iff_eq.mpr c29
                  clear c29
                  by_cases c30 : t378 = 0
                  · rw [if_pos c30] at H
                    have c30b0 : (t378 == 0) = true := beq_iff_eq.mpr c30
                    have c30b1 : (t378 != 0) = false := bne_eq_false_iff_eq.mpr c30
                    clear c30
                    replace H := Option.bind_eq_some_iff.mp H
                    obtain ⟨t379, A310, H⟩ := H
                    replace H : (handshakerlaw02_HeapParts.j1 kj3 l0 (!t379)) = some r := H
                    have A31 := Aside0.mk A310
                    clear A310
                    have H' := Aside0.mk H
                    clear H
                    obtain ⟨Ao32, co32, eo32⟩ := Kd.V_slice HO369.out
                    subst eo32
                    obtain ⟨Ao33, co33, eo33⟩ := Kd.V_slice HO377.out
                    subst eo33
                    go_wp2_with (first | (go_at_call 36; (with_reducible refine (handshakerref02_Same.calls kj3 _ _ t367 _ _ t375 t379 _ ?side1 ?side2 ?side3 ?side4 A31.out).mono ?_); (case side1 => repeat (first | exact (Kd.V_reads' HO369.out).2.2 | (with_reducible refine Kd.C_alloc ?_ _) | (with_reducible refine Kd.C_drewN ?_ _) | (with_reducible refine Kd.C_drew ?_))); (case side2 => exact (Kd.V_reads' HO369.out).2.1); (case side3 => repeat (first | exact (Kd.V_reads' HO377.out).2.2 | (with_reducible refine Kd.C_alloc ?_ _) | (with_reducible refine Kd.C_drewN ?_ _) | (with_reducible refine Kd.C_drew ?_))); (case side4 => exact (Kd.V_reads' HO377.out).2.1); rintro e w' ⟨rfl, ⟨nd, rfl⟩⟩))
                    go_meet
                    case rel => exact ⟨_, (!t379), (by first | rfl | (simp; done) | (simp [*]; done)), H', ⟨by have := HJ3.out; first | omega | exact Nat.le_refl _⟩, ⟨by repeat (first | (with_reducible first | exact HB.out | apply below_alloc | apply pw_below_drewN | apply below_drew1) | exact HB.out)⟩⟩
                  · rw [if_neg c30] at H
                    have c30b0 : (t378 == 0) = false := beq_eq_false_iff_ne.mpr c30
                    have c30b1 : (t378 != 0) = true := bne_iff_ne.mpr c30
                    have H' := Aside0.mk H
                    clear H
                    go_wp2
                    go_meet
                    case rel => exact ⟨_, (true), (by first | rfl | (simp; done) | (simp [*]; done)), H', ⟨by have := HJ3.out; first | omega | exact Nat.le_refl _⟩, ⟨by repeat (first | (with_reducible first | exact HB.out | apply below_alloc | apply pw_below_drewN | apply below_drew1) | exact HB.out)⟩⟩
                · rw [if_neg c29] at H
                  have c29b0 : (t370 == 0) = false := beq_eq_false_iff_ne.mpr c29
                  have c29b1 : (t370 != 0) = true := bne_iff_ne.mpr c29
                  by_cases c34 : t378 = 0
                  · rw [if_pos c34] at H
                    have c34b0 : (t378 == 0) = true := beq_iff_eq.mpr c34
                    have c34b1 : (t378 != 0) = false := bne_eq_false_iff_eq.mpr c34
                    clear c34
                    have H' := Aside0.mk H
                    clear H
                    go_wp2
                    go_meet
                    case rel => exact ⟨_, (true), (by first | rfl | (simp; done) | (simp [*]; done)), H', ⟨by have := HJ3.out; first | omega | exact Nat.le_refl _⟩, ⟨by repeat (first | (with_reducible first | exact HB.out | apply below_alloc | apply pw_below_drewN | apply below_drew1) | exact HB.out)⟩⟩
                  · rw [if_neg c34] at H
                    have c34b0 : (t378 == 0) = false := beq_eq_false_iff_ne.mpr c34
                    have c34b1 : (t378 != 0) = true := bne_iff_ne.mpr c34
                    have H' := Aside0.mk H
                    clear H
                    go_wp2
                    go_meet
                    case rel => exact ⟨_, (false), (by first | rfl | (simp; done) | (simp [*]; done)), H', ⟨by have := HJ3.out; first | omega | exact Nat.le_refl _⟩, ⟨by repeat (first | (with_reducible first | exact HB.out | apply below_alloc | apply pw_below_drewN | apply below_drew1) | exact HB.out)⟩⟩
              · rw [if_neg c28] at H
                have c28b0 : (t374 == 0) = false := beq_eq_false_iff_ne.mpr c28
                have c28b1 : (t374 != 0) = true := bne_iff_ne.mpr c28
                (first | rw [c28b0] | (simp only [i64_w, i32_w]; rw [c28b0]) | skip)
                by_cases c35 : t370 = 0
                · rw [if_pos c35] at H
                  have c35b0 : (t370 == 0) = true := beq_iff_eq.mpr c35
                  have c35b1 : (t370 != 0) = false := bne_eq_false_iff_eq.mpr c35
                  clear c35
                  have H' := Aside0.mk H
                  clear H
                  go_wp2
                  go_meet
                  case rel => exact ⟨_, (true), (by first | rfl | (simp; done) | (simp [*]; done)), H', ⟨by have := HJ3.out; first | omega | exact Nat.le_refl _⟩, ⟨by repeat (first | (with_reducible first | exact HB.out | apply below_alloc | apply pw_below_drewN | apply below_drew1) | exact HB.out)⟩⟩
                · rw [if_neg c35] at H
                  have c35b0 : (t370 == 0) = false := beq_eq_false_iff_ne.mpr c35
                  have c35b1 : (t370 != 0) = true := bne_iff_ne.mpr c35
                  have H' := Aside0.mk H
                  clear H
                  go_wp2
                  go_meet
                  case rel => exact ⟨_, (false), (by first | rfl | (simp; done) | (simp [*]; done)), H', ⟨by have := HJ3.out; first | omega | exact Nat.le_refl _⟩, ⟨by repeat (first | (with_reducible first | exact HB.out | apply below_alloc | apply pw_below_drewN | apply below_drew1) | exact HB.out)⟩⟩
            case rest =>
              clear HC18
              try clear c1
              try clear c2
              try clear p2
              try clear c3
              try clear c5
              try clear c5b0
              try clear c5b1
              try clear c6
              try clear c6b0
              try clear c6b1
              try clear c7
              try clear c7b0
              try clear c7b1
              try clear c10
              try clear c13
              try clear c14
              try clear c25
              try clear c28
              try clear c28b0
              try clear c28b1
              try clear c29
              try clear c29b0
              try clear c29b1
              try clear c30
              try clear c30b0
              try clear c30b1
              try clear c32
              try clear c34
              try clear c34b0
              try clear c34b1
              try clear c35
              try clear c35b0
              try clear c35b1
              try clear p2
              obtain ⟨kq, x77_17, rfl, HA, HJ17, HB⟩ := hcut
              cases kq with
              | zero => exact absurd HA.out (by simp [handshakerlaw02_HeapParts.j1])
              | succ kj17 =>
                have H := HA.out
                clear HA
                simp only [handshakerlaw02_HeapParts.j1] at H
                by_cases c36 : x77_17 = true
                · subst c36
                  have H1 : (some false) = some r := by rw [if_pos rfl] at H; exact H
                  clear H
                  have H := H1
                  clear H1
                  exact absurd (Option.some.inj H) (by rw [HT.out]; decide)
                · replace c36 := Bool.eq_false_iff.mpr c36
                  subst c36
                  have H1 : ((heap_Live.f kj17 l0).bind fun t380 => (handshakerlaw02_HeapParts.l0 kj17 l0 ([] : List (S62)) t380 (t380.length : Int) 0)) = some r := by rw [if_neg (show ¬ (false = true) by decide)] at H; exact H
                  clear H
                  have H := H1
                  clear H1
                  replace H := Option.bind_eq_some_iff.mp H
                  obtain ⟨t380, A370, H⟩ := H
                  replace H : (handshakerlaw02_HeapParts.l0 kj17 l0 ([] : List (S62)) t380 (t380.length : Int) 0) = some r := H
                  have A37 := Aside0.mk A370
                  clear A370
                  have H' := Aside0.mk H
                  clear H
                  go_wp2_with (first | ((with_reducible refine gate_callee (f := 38) rfl ?_); refine goesL_ (some 79) rfl rfl Try.func38 (by kernel_rfl) rfl #[.slice A0 l0.length c0] rfl (by (try simp only [List.map_toArray, List.map_cons, List.map_nil]); first | done | rfl | (simp only [List.length_drop, List.length_take]; rfl)) ?_; (with_reducible refine (heap_Live.calls kj17 _ _ l0 t380 _ ?side1 ?side2 A37.out).mono ?_); (case side1 => repeat (first | exact (Kd.C_below HR0.out HB.out) | (with_reducible refine Kd.C_alloc ?_ _) | (with_reducible refine Kd.C_drewN ?_ _) | (with_reducible refine Kd.C_drew ?_))); (case side2 => exact HC0.out); rintro e w38 ⟨v381, rfl, ho0, hb⟩; refine ⟨_, rfl, ?_⟩; have n0_ := Aside0.mk (Kd.R_lower ho0 (below_size (by repeat (first | (with_reducible first | exact HB.out | apply below_alloc | apply pw_below_drewN | apply below_drew1) | exact HB.out)))); have n1_ := Aside0.mk (below_step (by repeat (first | (with_reducible first | exact HB.out | apply below_alloc | apply pw_below_drewN | apply below_drew1) | exact HB.out)) hb); clear HB; have HO382 := n0_; have HB := n1_; clear n0_ n1_; (try clear hb); (try clear hb2); (try clear hk); (try clear hi); (try clear ho0); obtain ⟨Ao39, co39, eo39⟩ := Kd.R_slice HO382.out; subst eo39))
                  go_loopg [13, 81] kj17 (fun kq v13 v81 w' => ∃ (x13_3 : List (S62)) (x81_3 : Int), v81 = .int .i64 x81_3 ∧ Aside0 (handshakerlaw02_HeapParts.l0 kq l0 x13_3 t380 (t380.length : Int) x81_3 = some r) ∧ Aside0 (kq ≤ kj17) ∧ Aside0 (Kd.R k62 62 w' w.heap.size (fun _ => True) v13 x13_3) ∧ Aside0 (Kd.R (Kd.int .i64) 3 w' w.heap.size (fun _ => True) (.slice Ao39 t380.length co39) t380) ∧ Aside0 (Below w.heap.size w w'))
                  case atStart => exact ⟨(([] : List (S62))), (0), (by first | rfl | (simp; done) | (simp [*]; done)), H', ⟨Nat.le_refl _⟩, ⟨by first | exact Kd.R_nil _ _ _ _ _ | exact Kd.N_nil _ _ _ _ _ | exact Kd.V_nil _ _ _ _ _ | exact Kd.Q_nil _ _ _ _ _ | exact Kd.S_nil _ _ _ _ _⟩, ⟨by (with_reducible repeat (first | apply Kd.R_alloc | apply Kd.R_drewN | apply Kd.R_drew)); exact HO382.out⟩, ⟨by repeat (first | (with_reducible first | exact HB.out | apply below_alloc | apply pw_below_drewN | apply below_drew1) | exact HB.out)⟩⟩
                  case round =>
                    clear H'
                    try clear c1
                    try clear c2
                    try clear p2
                    try clear c3
                    try clear c5
                    try clear c5b0
                    try clear c5b1
                    try clear c6
                    try clear c6b0
                    try clear c6b1
                    try clear c7
                    try clear c7b0
                    try clear c7b1
                    try clear c10
                    try clear c13
                    try clear c14
                    try clear c25
                    try clear c28
                    try clear c28b0
                    try clear c28b1
                    try clear c29
                    try clear c29b0
                    try clear c29b1
                    try clear c30
                    try clear c30b0
                    try clear c30b1
                    try clear c32
                    try clear c34
                    try clear c34b0
                    try clear c34b1
                    try clear c35
                    try clear c35b0
                    try clear c35b1
                    try clear c36
                    try clear c38
                    try clear p2
                    obtain ⟨x13_3, x81_3, rfl, HA, HK3, HO_13, HO_79, HB⟩ := hrel
                    cases gk with
                    | zero => exact absurd HA.out (by simp [handshakerlaw02_HeapParts.l0])
                    | succ k3 =>
                      have H := HA.out
                      clear HA
                      simp only [handshakerlaw02_HeapParts.l0] at H
                      by_cases c40 : x81_3 < (t380.length : Int)
                      · rw [if_pos c40] at H
                        have c40b0 : decide (x81_3 < (t380.length : Int)) = true := decide_eq_true c40
                        clear c40
                        by_cases c41 : 0 ≤ x81_3
                        · rw [if_pos c41] at H
                          have c41b0 : decide (0 ≤ x81_3) = true := decide_eq_true c41
                          clear c41
                          by_cases c42 : x81_3 < (t380.length : Int)
                          · rw [if_pos c42] at H
                            have c42b0 : decide (x81_3 < (t380.length : Int)) = true := decide_eq_true c42
                            clear c42
                            by_cases c43 : 0 ≤ (rd t380 x81_3)
                            · rw [if_pos c43] at H
                              have c43b0 : decide (0 ≤ (rd t380 x81_3)) = true := decide_eq_true c43
                              clear c43
                              by_cases c44 : (rd t380 x81_3) < (l0.length : Int)
                              · rw [if_pos c44] at H
                                have c44b0 : decide ((rd t380 x81_3) < (l0.length : Int)) = true := decide_eq_true c44
                                clear c44
                                by_cases c45 : x13_3.length < 8796093022208
                                · rw [if_pos c45] at H
                                  have LMc45 := Aside0.mk c45
                                  clear c45
                                  obtain ⟨y385, hy385⟩ : ∃ y_ : List (S62), y_ = (x13_3 ++ [(⟨rd t380 x81_3, (rd_T59 l0 (rd t380 x81_3)).f1⟩ : S62)]) := ⟨_, rfl⟩
                                  replace H : (handshakerlaw02_HeapParts.l0 k3 l0 y385 t380 (t380.length : Int) (wrap64 (x81_3 + 1))) = some r := by first | (rw [hy385]; with_reducible exact H) | (have H2_ := (Option.bind_some _ _).symm.trans H; rw [hy385]; with_reducible exact H2_) | (have H2_ := (Option.bind_some _ _).symm.trans H; with_reducible exact H2_) | with_reducible exact H | (rw [hy385]; exact H) | exact H
                                  have Ny385 := Aside0.mk hy385
                                  clear hy385
                                  have H' := Aside0.mk H
                                  clear H
                                  have p383 : 0 ≤ (x81_3 : Int) := of_decide_eq_true (by first | (with_reducible assumption) | assumption)
                                  have q383 : x81_3 < (t380.length : Int) := of_decide_eq_true (by first | (with_reducible assumption) | assumption)
                                  obtain ⟨ad383, e383, hx383_0⟩ := Kd.at_int (Kd.R_reads' HO_79.out).2.2 x81_3 p383 q383
                                  cases e383
                                  replace p383 := eq_true p383
                                  replace q383 := eq_true q383
                                  have p384 : 0 ≤ ((rd t380 x81_3) : Int) := of_decide_eq_true (by first | (with_reducible assumption) | assumption)
                                  have q384 : (rd t380 x81_3) < (l0.length : Int) := of_decide_eq_true (by first | (with_reducible assumption) | assumption)
                                  obtain ⟨ad384, e384, hx384_0, hx384_1⟩ := at_T59 HR0.out (rd t380 x81_3) p384 q384
                                  cases e384
                                  replace hx384_0 := (HB.out.cell (World.block_lt_of_cell? w _ hx384_0)).trans hx384_0
                                  replace hx384_1 := (HB.out.cell (World.block_lt_of_cell? w _ hx384_1)).trans hx384_1
                                  replace p384 := eq_true p384
                                  replace q384 := eq_true q384
                                  go_wp2_with (first | ((with_reducible refine gate_builtin (b := .append) (xs := #[.tmp 85, .tmp 93]) rfl ?_); (try (refine gate_guard (by rfl) ?_; dsimp only)); at_builtin; refine Kd.R_append k62 (w0 := w) w.heap.size rfl (.tmp 85) (.tmp 93) 35 62 (.agg #[(.int .i64 0), (.int .i64 0)]) 16 rfl Try.underlying35 info62 rfl (by decide) (by omega) u13 x13_3 (⟨rd t380 x81_3, (rd_T59 l0 (rd t380 x81_3)).f1⟩ : S62) [.int .i64 (rd t380 x81_3), .int .i64 ((rd_T59 l0 (rd t380 x81_3)).f1)] (fun _ => True) (fun _ => False) rfl rfl ?aP (fun _ hk => hk.elim) ?aF ?aO ?aB ?aS ?aL ?_; (case aP => exact k62_mkM _ _ _ (⟨rd t380 x81_3, (rd_T59 l0 (rd t380 x81_3)).f1⟩ : S62)); (case aB => exact (by repeat (first | (with_reducible first | exact HB.out | apply below_alloc | apply pw_below_drewN | apply below_drew1) | exact HB.out))); (case aF => exact (fun _ _ => trivial)); (case aO => exact (by (with_reducible repeat (first | apply Kd.R_alloc | apply Kd.R_drewN | apply Kd.R_drew)); exact HO_13.out)); (case aS => exact (below_size (by repeat (first | (with_reducible first | exact HB.out | apply below_alloc | apply pw_below_drewN | apply below_drew1) | exact HB.out)))); (case aL => have := LMc45.out; omega); intro v386 w46 ho hb hg hat; rw [← Ny385.out] at ho; have n0_ := Aside0.mk (Kd.R_over' (by (with_reducible repeat (first | apply Kd.R_alloc | apply Kd.R_drewN | apply Kd.R_drew)); exact HO_79.out) (Kd.R_typed (by (with_reducible repeat (first | apply Kd.R_alloc | apply Kd.R_drewN | apply Kd.R_drew)); exact HO_13.out)) (by decide) hg); have n1_ := Aside0.mk (hb); have n2_ := Aside0.mk (ho); clear HO_79; clear HB; clear HO_13; have HO_79 := n0_; have HB := n1_; have HO387 := n2_; clear n0_ n1_ n2_; clear ho hb hg hat))
                                  go_roundg k3
                                  case measure => have := HJ3.out; have := HJ17.out; have := HK3.out; omega
                                  case rel => exact ⟨(y385), (wrap64 (x81_3 + 1)), (by first | rfl | (simp; done) | (simp [*]; done)), H', ⟨by have := HJ3.out; have := HJ17.out; have := HK3.out; omega⟩, ⟨by (with_reducible repeat (first | apply Kd.R_alloc | apply Kd.R_drewN | apply Kd.R_drew)); exact HO387.out⟩, ⟨by (with_reducible repeat (first | apply Kd.R_alloc | apply Kd.R_drewN | apply Kd.R_drew)); exact HO_79.out⟩, ⟨by repeat (first | (with_reducible first | exact HB.out | apply below_alloc | apply pw_below_drewN | apply below_drew1) | exact HB.out)⟩⟩
                                · rw [if_neg c45] at H
                                  exact absurd H (by simp)
                              · rw [if_neg c44] at H
                                exact absurd H (by simp)
                            · rw [if_neg c43] at H
                              exact absurd H (by simp)
                          · rw [if_neg c42] at H
                            exact absurd H (by simp)
                        · rw [if_neg c41] at H
                          exact absurd H (by simp)
                      · rw [if_neg c40] at H
                        have c40b0 : decide (x81_3 < (t380.length : Int)) = false := decide_eq_false c40
                        clear c40
                        replace H := Option.bind_eq_some_iff.mp H
                        obtain ⟨⟨t388, t391⟩, A470, H⟩ := H
                        replace H : (if t391 = 0 then ((handshakerref02_Same.f k3 t388 l0).bind fun t392 => (if t392 = true then ((handshakerlaw02_awake.f k3).bind fun t393 => (some t393)) else (some false))) else (some false)) = some r := H
                        have A47 := Aside0.mk A470
                        clear A470
                        by_cases c48 : t391 = 0
                        · rw [if_pos c48] at H
                          have c48b0 : (t391 == 0) = true := beq_iff_eq.mpr c48
                          have c48b1 : (t391 != 0) = false := bne_eq_false_iff_eq.mpr c48
                          clear c48
                          replace H := Option.bind_eq_some_iff.mp H
                          obtain ⟨t392, A490, H⟩ := H
                          replace H : (if t392 = true then ((handshakerlaw02_awake.f k3).bind fun t393 => (some t393)) else (some false)) = some r := H
                          have A49 := Aside0.mk A490
                          clear A490
                          by_cases c50 : t392 = true
                          · subst c50
                            have H1 : ((handshakerlaw02_awake.f k3).bind fun t393 => (some t393)) = some r := by rw [if_pos rfl] at H; exact H
                            clear H
                            have H := H1
                            clear H1
                            replace H := Option.bind_eq_some_iff.mp H
                            obtain ⟨t393, A510, H⟩ := H
                            replace H : (some t393) = some r := H
                            have A51 := Aside0.mk A510
                            clear A510
                            obtain rfl := Option.some.inj H
                            obtain ⟨Ao52, co52, eo52⟩ := Kd.R_slice HO_13.out
                            subst eo52
                            go_wp2_with (first | ((with_reducible refine gate_callee (f := 32) rfl ?_); refine goesL_ (some 99) rfl rfl Try.func32 (by kernel_rfl) rfl #[.slice A0 l0.length c0, .slice Ao52 x13_3.length co52] rfl (by (try simp only [List.map_toArray, List.map_cons, List.map_nil]); first | done | rfl | (simp only [List.length_drop, List.length_take]; rfl)) ?_; (with_reducible refine (heap_Put.calls k3 (fun k_ => k_ < w.heap.size) _ _ l0 _ _ x13_3 t388 t391 _ ?side1 ?side2 ?side3 A47.out).mono ?_); (case side1 => exact Kd.V_mk HC0.out (Kd.F_below (Kd.C_F k59_heap HR0.out) (by repeat (first | (with_reducible first | exact HB.out | apply below_alloc | apply pw_below_drewN | apply below_drew1) | exact HB.out)))); (case side2 => repeat (first | exact (Kd.R_reads' HO_13.out).2.2 | (with_reducible refine Kd.C_alloc ?_ _) | (with_reducible refine Kd.C_drewN ?_ _) | (with_reducible refine Kd.C_drew ?_))); (case side3 => exact (Kd.R_reads' HO_13.out).2.1); rintro e w53 ⟨v389, rfl, ho0, hb⟩; refine ⟨_, rfl, ?_⟩; have n0_ := Aside0.mk (Kd.R_below (by (with_reducible repeat (first | apply Kd.R_alloc | apply Kd.R_drewN | apply Kd.R_drew)); exact HO_13.out) hb); have n1_ := Aside0.mk (Kd.R_below (by (with_reducible repeat (first | apply Kd.R_alloc | apply Kd.R_drewN | apply Kd.R_drew)); exact HO_79.out) hb); have n2_ := Aside0.mk (Kd.V_lower (Kd.V_mono (ok' := fun k_ => some k_ ≠ (.slice Ao52 x13_3.length co52 : Value).ownBlock ∧ some k_ ≠ (.slice Ao39 t380.length co39 : Value).ownBlock) ho0 (fun k_ hk_ => ⟨Or.elim hk_ (fun hs_ => fun e_ => Nat.not_le.2 hs_ (Kd.R_base HO_13.out k_ e_.symm)) (fun hn_ => (Kd.fresh' (Kd.R_lt (by (with_reducible repeat (first | apply Kd.R_alloc | apply Kd.R_drewN | apply Kd.R_drew)); exact HO_13.out)) k_ hn_)), Or.elim hk_ (fun hs_ => fun e_ => Nat.not_le.2 hs_ (Kd.R_base HO_79.out k_ e_.symm)) (fun hn_ => (Kd.fresh' (Kd.R_lt (by (with_reducible repeat (first | apply Kd.R_alloc | apply Kd.R_drewN | apply Kd.R_drew)); exact HO_79.out)) k_ hn_))⟩)) (below_size (by repeat (first | (with_reducible first | exact HB.out | apply below_alloc | apply pw_below_drewN | apply below_drew1) | exact HB.out)))); have n3_ := Aside0.mk (below_step (by repeat (first | (with_reducible first | exact HB.out | apply below_alloc | apply pw_below_drewN | apply below_drew1) | exact HB.out)) hb); clear HO_13; clear HO_79; clear HB; have HO_13 := n0_; have HO_79 := n1_; have HO390 := n2_; have HB := n3_; clear n0_ n1_ n2_ n3_; (try clear hb); (try clear hb2); (try clear hk); (try clear hi); (try clear ho0); obtain ⟨Ao54, co54, eo54⟩ := Kd.V_slice HO390.out; subst eo54) | (go_at_call 36; (with_reducible refine (handshakerref02_Same.calls k3 _ _ t388 _ _ l0 true _ ?side1 ?side2 ?side3 ?side4 A49.out).mono ?_); (case side1 => repeat (first | exact (Kd.V_reads' HO390.out).2.2 | (with_reducible refine Kd.C_alloc ?_ _) | (with_reducible refine Kd.C_drewN ?_ _) | (with_reducible refine Kd.C_drew ?_))); (case side2 => exact (Kd.V_reads' HO390.out).2.1); (case side3 => repeat (first | exact (Kd.C_below HR0.out HB.out) | (with_reducible refine Kd.C_alloc ?_ _) | (with_reducible refine Kd.C_drewN ?_ _) | (with_reducible refine Kd.C_drew ?_))); (case side4 => exact HC0.out); rintro e w' ⟨rfl, ⟨nd, rfl⟩⟩) | (go_at_call 25; (with_reducible refine (handshakerlaw02_awake.calls k3  t393 _ A51.out).mono ?_); rintro e w55 ⟨rfl, hb⟩; have n0_ := Aside0.mk (Kd.R_below (by (with_reducible repeat (first | apply Kd.R_alloc | apply Kd.R_drewN | apply Kd.R_drew)); exact HO_13.out) hb); have n1_ := Aside0.mk (Kd.R_below (by (with_reducible repeat (first | apply Kd.R_alloc | apply Kd.R_drewN | apply Kd.R_drew)); exact HO_79.out) hb); have n2_ := Aside0.mk (Kd.V_below (by (with_reducible repeat (first | apply Kd.V_alloc | apply Kd.V_drewN | apply Kd.V_drew)); exact HO390.out) hb); have n3_ := Aside0.mk (below_step (by repeat (first | (with_reducible first | exact HB.out | apply below_alloc | apply pw_below_drewN | apply below_drew1) | exact HB.out)) hb); clear HO_13; clear HO_79; clear HO390; clear HB; have HO_13 := n0_; have HO_79 := n1_; have HO390 := n2_; have HB := n3_; clear n0_ n1_ n2_ n3_; (try clear hb); (try clear hb2); (try clear hk); (try clear hi)))
                            go_ret
                            exact ⟨by first | rfl | (simp [errW_none, errW_some] <;> rfl) | (simp [*, errW_none, errW_some] <;> rfl), by repeat (first | (with_reducible first | exact HB.out | apply below_alloc | apply pw_below_drewN | apply below_drew1) | exact HB.out)⟩
                          · replace c50 := Bool.eq_false_iff.mpr c50
                            subst c50
                            have H1 : (some false) = some r := by rw [if_neg (show ¬ (false = true) by decide)] at H; exact H
                            clear H
                            have H := H1
                            clear H1
                            exact absurd (Option.some.inj H) (by rw [HT.out]; decide)
                        · rw [if_neg c48] at H
                          have c48b0 : (t391 == 0) = false := beq_eq_false_iff_ne.mpr c48
                          have c48b1 : (t391 != 0) = true := bne_iff_ne.mpr c48
                          exact absurd (Option.some.inj H) (by rw [HT.out]; decide)
          · rw [if_neg c14] at H
            exact absurd H (by simp)
        · rw [if_neg c13] at H
          exact absurd H (by simp)

/-- THE ONE PURE STATEMENT of handshakerlaw02_HeapParts. -/
def handshakerlaw02_HeapParts.Pure : Prop := ∀ (l0 : List (S59)) (l1 : List (S62)) (l2 : List (S62)), l0.length ≤ maxLen → l0.length * 16 ≤ 140737488351232 → (∀ y ∈ l0, wfS59 y) → l1.length ≤ maxLen → l1.length * 16 ≤ 140737488351232 → (∀ y ∈ l1, wfS62 y) → l2.length ≤ maxLen → l2.length * 16 ≤ 140737488351232 → (∀ y ∈ l2, wfS62 y) → ∃ k, handshakerlaw02_HeapParts.f k l0 l1 l2 = some true

end Go.Proofs.Ytlfeohglfjnnhaa.Hp
