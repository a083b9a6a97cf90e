-- PRINTED by print.py (a twelfth state) out of the translation. Not trusted: Lean checks it.
import Derived.Test.YtlfeohglfjnnhaaHpx0
import Derived.Test.YtlfeohglfjnnhaaHpx2
import Derived.Test.YtlfeohglfjnnhaaHpx3
import Derived.Test.YtlfeohglfjnnhaaHpx5
namespace Go.Proofs.Ytlfeohglfjnnhaa.Hp
open Go.Proofs.Ytlfeohglfjnnhaa.Ho
open Go.RowKit Go.Proofs.YtlfeohglfjnnhaaW.PrintWords Go.Proofs.YtlfeohglfjnnhaaW.PrintLast Go.Proofs.YtlfeohglfjnnhaaW.PrintMore
attribute [local go_sem] max2_int min2_int max_two min_two max_three min_three max_four min_four   -- for this text's walks alone
set_option linter.unusedVariables false
set_option linter.unusedSimpArgs false

/-! ### handshakerlaw02_HeapLive: function 13 -/
mutual
def handshakerlaw02_HeapLive.j0 : Nat → List (S59) → Int → Bool → Option (Bool)
  | 0, _, _, _ => none
  | k + 1, x0, x1, x23 => if x23 = true then ((handshakerlaw02_awake.f k).bind fun t330 => (some t330)) else ((heap_Live.f k x0).bind fun t331 => (handshakerlaw02_HeapLive.l0 k x0 x1 t331 0 (x0.length : Int) 0))
def handshakerlaw02_HeapLive.l0 : Nat → List (S59) → Int → List Int → Int → Int → Int → Option (Bool)
  | 0, _, _, _, _, _, _ => none
  | k + 1, x0, x1, x5, x6, x28, x29 => if x29 < x28 then ((heap_Get.f x0 x29).bind fun bt345 => ((heap_Put.f k x0 (([(⟨x29, wrap64 (x1)⟩ : S62)] : List (S62)))).bind fun bt350 => (if bt345.2 = 0 then (if bt350.2 = 0 then (if 0 ≤ x29 then (if x29 < (x0.length : Int) then (handshakerlaw02_HeapLive.j2 k x0 x1 x5 x6 x29 bt345.2 x28 x29 (bt345.1 != ((rd_T59 x0 x29).f1))) else (none)) else (none)) else (handshakerlaw02_HeapLive.j2 k x0 x1 x5 x6 x29 bt345.2 x28 x29 true)) else (if bt350.2 = 0 then (handshakerlaw02_HeapLive.j2 k x0 x1 x5 x6 x29 bt345.2 x28 x29 true) else (handshakerlaw02_HeapLive.j2 k x0 x1 x5 x6 x29 bt345.2 x28 x29 false))))) else ((heap_Alloc.f k x0 (wrap64 (x1))).bind fun bt334 => ((heap_Live.f k bt334.1).bind fun t339 => (if x6 = (x5.length : Int) then (if bt334.2.2 = 0 then (if (wrap64 ((t339.length : Int) - x6)) = 1 then ((handshakerlaw02_awake.f k).bind fun t342 => (some t342)) else (if bt334.2.2 = 4 then (if (wrap64 ((t339.length : Int) - x6)) = 0 then (if x6 = (x0.length : Int) then ((handshakerlaw02_awake.f k).bind fun t343 => (some t343)) else (some false)) else (some false)) else (some false))) else (if bt334.2.2 = 4 then (if (wrap64 ((t339.length : Int) - x6)) = 0 then (if x6 = (x0.length : Int) then ((handshakerlaw02_awake.f k).bind fun t344 => (some t344)) else (some false)) else (some false)) else (some false))) else (some false))))
def handshakerlaw02_HeapLive.j2 : Nat → List (S59) → Int → List Int → Int → Int → Int → Int → Int → Bool → Option (Bool)
  | 0, _, _, _, _, _, _, _, _, _ => none
  | k + 1, x0, x1, x5, x6, x7, x9, x28, x29, x65 => if x65 = true then (some false) else (if x9 = 0 then (if x6 ≥ (x5.length : Int) then (some false) else (if 0 ≤ x6 then (if x6 < (x5.length : Int) then (if (rd x5 x6) = x7 then (handshakerlaw02_HeapLive.l0 k x0 x1 x5 (wrap64 (x6 + 1)) x28 (wrap64 (x29 + 1))) else (some false)) else (none)) else (none))) else (handshakerlaw02_HeapLive.l0 k x0 x1 x5 x6 x28 (wrap64 (x29 + 1))))
end
def handshakerlaw02_HeapLive.f (k : Nat) (l0 : List (S59)) (a1 : Int) : Option (Bool) := if (l0.length : Int) > 64 then (handshakerlaw02_HeapLive.j0 k l0 a1 true) else ((heap_Right.f l0).bind fun t329 => (handshakerlaw02_HeapLive.j0 k l0 a1 (!t329)))
theorem handshakerlaw02_HeapLive.mono_l : ∀ k, (∀ y0 y1 y2, LeO (handshakerlaw02_HeapLive.j0 k y0 y1 y2) (handshakerlaw02_HeapLive.j0 (k + 1) y0 y1 y2)) ∧ (∀ y0 y1 y2 y3 y4 y5, LeO (handshakerlaw02_HeapLive.l0 k y0 y1 y2 y3 y4 y5) (handshakerlaw02_HeapLive.l0 (k + 1) y0 y1 y2 y3 y4 y5)) ∧ (∀ y0 y1 y2 y3 y4 y5 y6 y7 y8, LeO (handshakerlaw02_HeapLive.j2 k y0 y1 y2 y3 y4 y5 y6 y7 y8) (handshakerlaw02_HeapLive.j2 (k + 1) y0 y1 y2 y3 y4 y5 y6 y7 y8))
  | 0 => ⟨fun _ _ _ r h => by simp [handshakerlaw02_HeapLive.j0] at h, fun _ _ _ _ _ _ r h => by simp [handshakerlaw02_HeapLive.l0] at h, fun _ _ _ _ _ _ _ _ _ r h => by simp [handshakerlaw02_HeapLive.j2] at h⟩
  | k + 1 => by
    obtain ⟨ih0, ih1, ih2⟩ := handshakerlaw02_HeapLive.mono_l k
    refine ⟨?_, ?_, ?_⟩
    · intro y0 y1 y2
      unfold handshakerlaw02_HeapLive.j0
      repeat' first
      | (with_reducible exact ih0 _ _ _)
      | (with_reducible exact ih1 _ _ _ _ _ _)
      | (with_reducible exact ih2 _ _ _ _ _ _ _ _ _)
      | (with_reducible exact handshakerlaw02_awake.mono _)
      | (with_reducible exact heap_Alloc.mono _ _ _)
      | (with_reducible exact heap_Live.mono _ _)
      | (with_reducible exact heap_Put.mono _ _ _)
      | (with_reducible exact LeO.refl _)
      | (with_reducible exact LeO.none _)
      | (with_reducible refine LeO.ite ?_ ?_)
      | (with_reducible refine LeO.bind ?_ (fun _ => ?_))
      | exact ih0 _ _ _
      | exact ih1 _ _ _ _ _ _
      | exact ih2 _ _ _ _ _ _ _ _ _
      | exact handshakerlaw02_awake.mono _
      | exact heap_Alloc.mono _ _ _
      | exact heap_Live.mono _ _
      | exact heap_Put.mono _ _ _
      | exact LeO.none _
      | refine LeO.ite ?_ ?_
      | refine LeO.bind ?_ (fun _ => ?_)
    · intro y0 y1 y2 y3 y4 y5
      unfold handshakerlaw02_HeapLive.l0
      repeat' first
      | (with_reducible exact ih0 _ _ _)
      | (with_reducible exact ih1 _ _ _ _ _ _)
      | (with_reducible exact ih2 _ _ _ _ _ _ _ _ _)
      | (with_reducible exact handshakerlaw02_awake.mono _)
      | (with_reducible exact heap_Alloc.mono _ _ _)
      | (with_reducible exact heap_Live.mono _ _)
      | (with_reducible exact heap_Put.mono _ _ _)
      | (with_reducible exact LeO.refl _)
      | (with_reducible exact LeO.none _)
      | (with_reducible refine LeO.ite ?_ ?_)
      | (with_reducible refine LeO.bind ?_ (fun _ => ?_))
      | exact ih0 _ _ _
      | exact ih1 _ _ _ _ _ _
      | exact ih2 _ _ _ _ _ _ _ _ _
      | exact handshakerlaw02_awake.mono _
      | exact heap_Alloc.mono _ _ _
      | exact heap_Live.mono _ _
      | exact heap_Put.mono _ _ _
      | exact LeO.none _
      | refine LeO.ite ?_ ?_
      | refine LeO.bind ?_ (fun _ => ?_)
    · intro y0 y1 y2 y3 y4 y5 y6 y7 y8
      unfold handshakerlaw02_HeapLive.j2
      repeat' first
      | (with_reducible exact ih0 _ _ _)
      | (with_reducible exact ih1 _ _ _ _ _ _)
      | (with_reducible exact ih2 _ _ _ _ _ _ _ _ _)
      | (with_reducible exact handshakerlaw02_awake.mono _)
      | (with_reducible exact heap_Alloc.mono _ _ _)
      | (with_reducible exact heap_Live.mono _ _)
      | (with_reducible exact heap_Put.mono _ _ _)
      | (with_reducible exact LeO.refl _)
      | (with_reducible exact LeO.none _)
      | (with_reducible refine LeO.ite ?_ ?_)
      | (with_reducible refine LeO.bind ?_ (fun _ => ?_))
      | exact ih0 _ _ _
      | exact ih1 _ _ _ _ _ _
      | exact ih2 _ _ _ _ _ _ _ _ _
      | exact handshakerlaw02_awake.mono _
      | exact heap_Alloc.mono _ _ _
      | exact heap_Live.mono _ _
      | exact heap_Put.mono _ _ _
      | exact LeO.none _
      | refine LeO.ite ?_ ?_
      | refine LeO.bind ?_ (fun _ => ?_)
theorem handshakerlaw02_HeapLive.mono : ∀ a0 a1 k, LeO (handshakerlaw02_HeapLive.f k a0 a1) (handshakerlaw02_HeapLive.f (k + 1) a0 a1) := by
  intro a0 a1 k
  obtain ⟨ih0, ih1, ih2⟩ := handshakerlaw02_HeapLive.mono_l k
  unfold handshakerlaw02_HeapLive.f
  repeat' first
      | (with_reducible exact ih0 _ _ _)
      | (with_reducible exact ih1 _ _ _ _ _ _)
      | (with_reducible exact ih2 _ _ _ _ _ _ _ _ _)
      | (with_reducible exact handshakerlaw02_awake.mono _)
      | (with_reducible exact heap_Alloc.mono _ _ _)
      | (with_reducible exact heap_Live.mono _ _)
      | (with_reducible exact heap_Put.mono _ _ _)
      | (with_reducible exact LeO.refl _)
      | (with_reducible exact LeO.none _)
      | (with_reducible refine LeO.ite ?_ ?_)
      | (with_reducible refine LeO.bind ?_ (fun _ => ?_))
      | exact ih0 _ _ _
      | exact ih1 _ _ _ _ _ _
      | exact ih2 _ _ _ _ _ _ _ _ _
      | exact handshakerlaw02_awake.mono _
      | exact heap_Alloc.mono _ _ _
      | exact heap_Live.mono _ _
      | exact heap_Put.mono _ _ _
      | exact LeO.none _
      | refine LeO.ite ?_ ?_
      | refine LeO.bind ?_ (fun _ => ?_)
set_option maxHeartbeats 8000000 in
set_option maxRecDepth 100000 in
theorem handshakerlaw02_HeapLive.calls (k : Nat) (A0 : Option Addr) (c0 : Nat) (l0 : List (S59)) (a1 : Int) (r : Bool) (w : World) (HT : Aside0 (r = true)) (hr0 : Kd.C k59 w A0 l0.length l0) (hc0 : l0.length ≤ c0) (h : handshakerlaw02_HeapLive.f k l0 a1 = some r) :
    Calls Try.prog 13 #[.slice A0 l0.length c0, .int .i32 a1] w fun e w' => e = .returned (.bool r) ∧ Below w.heap.size w w' := by
  have hu62 := Try.underlying62
  have HR0 := Aside0.mk hr0
  have HC0 := Aside0.mk hc0
  clear hr0 hc0
  have HB := Aside0.mk (Below.refl w.heap.size w)
  have H : (if (l0.length : Int) > 64 then (handshakerlaw02_HeapLive.j0 k l0 a1 true) else ((heap_Right.f l0).bind fun t329 => (handshakerlaw02_HeapLive.j0 k l0 a1 (!t329)))) = some r := h
  clear h
  have HC3 := Aside0.mk H
  clear H
  go_enter Try.func13, Try.ntmps13
  go_upto_region 1 with (fail)
  go_cut [23] (fun v23 wc => ∃ (kq : Nat) (x23_2 : Bool), v23 = .bool x23_2 ∧ Aside0 (handshakerlaw02_HeapLive.j0 kq l0 a1 x23_2 = some r) ∧ Aside0 (kq ≤ k) ∧ Aside0 (Below w.heap.size w wc))
  case first =>
    have H := HC3.out
    clear HC3
    by_cases c4 : (l0.length : Int) > 64
    · rw [if_pos c4] at H
      have c4b0 : decide (64 < (l0.length : Int)) = true := decide_eq_true c4
      have c4b1 : decide (64 < l0.length) = true := decide_eq_true (by omega)
      clear c4
      (first | rw [c4b0] | (simp only [i64_w, i32_w]; rw [c4b0]) | skip)
      have H' := Aside0.mk H
      clear H
      go_wp2
      go_meet
      case rel => exact ⟨_, (true), (by first | rfl | (simp; done) | (simp [*]; done)), H', ⟨by first | omega | exact Nat.le_refl _⟩, ⟨by repeat (first | (with_reducible first | exact HB.out | apply below_alloc | apply pw_below_drewN | apply below_drew1) | exact HB.out)⟩⟩
    · rw [if_neg c4] at H
      have c4b0 : decide (64 < (l0.length : Int)) = false := decide_eq_false c4
      have c4b1 : decide (64 < l0.length) = false := decide_eq_false (by omega)
      clear c4
      (first | rw [c4b0] | (simp only [i64_w, i32_w]; rw [c4b0]) | skip)
      replace H := Option.bind_eq_some_iff.mp H
      obtain ⟨t329, A50, H⟩ := H
      replace H : (handshakerlaw02_HeapLive.j0 k l0 a1 (!t329)) = some r := H
      have A5 := Aside0.mk A50
      clear A50
      have H' := Aside0.mk H
      clear H
      go_wp2_with (first | (go_at_call 34; (with_reducible refine (heap_Right.calls _ _ l0 t329 _ ?side1 ?side2 A5.out).mono ?_); (case side1 => repeat (first | exact (Kd.C_below HR0.out HB.out) | (with_reducible refine Kd.C_alloc ?_ _) | (with_reducible refine Kd.C_drewN ?_ _) | (with_reducible refine Kd.C_drew ?_))); (case side2 => exact HC0.out); rintro e w6 ⟨rfl, hb⟩; have n0_ := Aside0.mk (below_step (by repeat (first | (with_reducible first | exact HB.out | apply below_alloc | apply pw_below_drewN | apply below_drew1) | exact HB.out)) hb); clear HB; have HB := n0_; clear n0_; (try clear hb); (try clear hb2); (try clear hk); (try clear hi)))
      go_meet
      case rel => exact ⟨_, (!t329), (by first | rfl | (simp; done) | (simp [*]; done)), H', ⟨by first | omega | exact Nat.le_refl _⟩, ⟨by repeat (first | (with_reducible first | exact HB.out | apply below_alloc | apply pw_below_drewN | apply below_drew1) | exact HB.out)⟩⟩
  case rest =>
    clear HC3
    try clear c1
    try clear p2
    try clear c4
    try clear c4b0
    try clear c4b1
    obtain ⟨kq, x23_2, rfl, HA, HJ2, HB⟩ := hcut
    cases kq with
    | zero => exact absurd HA.out (by simp [handshakerlaw02_HeapLive.j0])
    | succ kj2 =>
      have H := HA.out
      clear HA
      simp only [handshakerlaw02_HeapLive.j0] at H
      by_cases c7 : x23_2 = true
      · subst c7
        have H1 : ((handshakerlaw02_awake.f kj2).bind fun t330 => (some t330)) = some r := by rw [if_pos rfl] at H; exact H
        clear H
        have H := H1
        clear H1
        replace H := Option.bind_eq_some_iff.mp H
        obtain ⟨t330, A80, H⟩ := H
        replace H : (some t330) = some r := H
        have A8 := Aside0.mk A80
        clear A80
        obtain rfl := Option.some.inj H
        go_wp2_with (first | ((with_reducible refine gate_callee (f := 25) rfl ?_); refine goesL_ (some 24) rfl rfl Try.func25 (by kernel_rfl) rfl #[] rfl (by (try simp only [List.map_toArray, List.map_cons, List.map_nil]); first | done | rfl | (simp only [List.length_drop, List.length_take]; rfl)) ?_; (with_reducible refine (handshakerlaw02_awake.calls kj2  t330 _ A8.out).mono ?_); rintro e w9 ⟨rfl, hb⟩; refine ⟨_, rfl, ?_⟩; have n0_ := Aside0.mk (below_step (by repeat (first | (with_reducible first | exact HB.out | apply below_alloc | apply pw_below_drewN | apply below_drew1) | exact HB.out)) hb); clear HB; have HB := n0_; clear n0_; (try clear hb); (try clear hb2); (try clear hk); (try clear hi)))
        go_ret
        exact ⟨by first | rfl | (simp [errW_none, errW_some] <;> rfl) | (simp [*, errW_none, errW_some] <;> rfl), by repeat (first | (with_reducible first | exact HB.out | apply below_alloc | apply pw_below_drewN | apply below_drew1) | exact HB.out)⟩
      · replace c7 := Bool.eq_false_iff.mpr c7
        subst c7
        have H1 : ((heap_Live.f kj2 l0).bind fun t331 => (handshakerlaw02_HeapLive.l0 kj2 l0 a1 t331 0 (l0.length : Int) 0)) = some r := by rw [if_neg (show ¬ (false = true) by decide)] at H; exact H
        clear H
        have H := H1
        clear H1
        replace H := Option.bind_eq_some_iff.mp H
        obtain ⟨t331, A100, H⟩ := H
        replace H : (handshakerlaw02_HeapLive.l0 kj2 l0 a1 t331 0 (l0.length : Int) 0) = some r := H
        have A10 := Aside0.mk A100
        clear A100
        have H' := Aside0.mk H
        clear H
        go_wp2_with (first | ((with_reducible refine gate_callee (f := 38) rfl ?_); refine goesL_ (some 26) rfl rfl Try.func38 (by kernel_rfl) rfl #[.slice A0 l0.length c0] rfl (by (try simp only [List.map_toArray, List.map_cons, List.map_nil]); first | done | rfl | (simp only [List.length_drop, List.length_take]; rfl)) ?_; (with_reducible refine (heap_Live.calls kj2 _ _ l0 t331 _ ?side1 ?side2 A10.out).mono ?_); (case side1 => repeat (first | exact (Kd.C_below HR0.out HB.out) | (with_reducible refine Kd.C_alloc ?_ _) | (with_reducible refine Kd.C_drewN ?_ _) | (with_reducible refine Kd.C_drew ?_))); (case side2 => exact HC0.out); rintro e w11 ⟨v332, rfl, ho0, hb⟩; refine ⟨_, rfl, ?_⟩; have n0_ := Aside0.mk (Kd.R_lower ho0 (below_size (by repeat (first | (with_reducible first | exact HB.out | apply below_alloc | apply pw_below_drewN | apply below_drew1) | exact HB.out)))); have n1_ := Aside0.mk (below_step (by repeat (first | (with_reducible first | exact HB.out | apply below_alloc | apply pw_below_drewN | apply below_drew1) | exact HB.out)) hb); clear HB; have HO333 := n0_; have HB := n1_; clear n0_ n1_; (try clear hb); (try clear hb2); (try clear hk); (try clear hi); (try clear ho0)))
        go_loopg [6, 29] kj2 (fun kq v6 v29 w' => ∃ (x6_2 : Int) (x29_2 : Int), v6 = .int .i64 x6_2 ∧ v29 = .int .i64 x29_2 ∧ Aside0 (handshakerlaw02_HeapLive.l0 kq l0 a1 t331 x6_2 (l0.length : Int) x29_2 = some r) ∧ Aside0 (kq ≤ kj2) ∧ Aside0 (Kd.R (Kd.int .i64) 3 w' w.heap.size (fun _ => True) v332 t331) ∧ Aside0 (Below w.heap.size w w'))
        case atStart => exact ⟨(0), (0), (by first | rfl | (simp; done) | (simp [*]; done)), (by first | rfl | (simp; done) | (simp [*]; done)), H', ⟨Nat.le_refl _⟩, ⟨by (with_reducible repeat (first | apply Kd.R_alloc | apply Kd.R_drewN | apply Kd.R_drew)); exact HO333.out⟩, ⟨by repeat (first | (with_reducible first | exact HB.out | apply below_alloc | apply pw_below_drewN | apply below_drew1) | exact HB.out)⟩⟩
        case round =>
          clear H'
          try clear c1
          try clear c2
          try clear p2
          try clear c3
          try clear c4
          try clear c4b0
          try clear c4b1
          try clear c7
          try clear p2
          obtain ⟨x6_2, x29_2, rfl, rfl, HA, HK2, HO_5, HB⟩ := hrel
          cases gk with
          | zero => exact absurd HA.out (by simp [handshakerlaw02_HeapLive.l0])
          | succ k2 =>
            have H := HA.out
            clear HA
            simp only [handshakerlaw02_HeapLive.l0] at H
            by_cases c12 : x29_2 < (l0.length : Int)
            · rw [if_pos c12] at H
              have c12b0 : decide (x29_2 < (l0.length : Int)) = true := decide_eq_true c12
              clear c12
              replace H := Option.bind_eq_some_iff.mp H
              obtain ⟨⟨t345, t346⟩, A130, H⟩ := H
              replace H : ((heap_Put.f k2 l0 (([(⟨x29_2, wrap64 (a1)⟩ : S62)] : List (S62)))).bind fun bt350 => (if t346 = 0 then (if bt350.2 = 0 then (if 0 ≤ x29_2 then (if x29_2 < (l0.length : Int) then (handshakerlaw02_HeapLive.j2 k2 l0 a1 t331 x6_2 x29_2 t346 (l0.length : Int) x29_2 (t345 != ((rd_T59 l0 x29_2).f1))) else (none)) else (none)) else (handshakerlaw02_HeapLive.j2 k2 l0 a1 t331 x6_2 x29_2 t346 (l0.length : Int) x29_2 true)) else (if bt350.2 = 0 then (handshakerlaw02_HeapLive.j2 k2 l0 a1 t331 x6_2 x29_2 t346 (l0.length : Int) x29_2 true) else (handshakerlaw02_HeapLive.j2 k2 l0 a1 t331 x6_2 x29_2 t346 (l0.length : Int) x29_2 false)))) = some r := H
              have A13 := Aside0.mk A130
              clear A130
              obtain ⟨y347, hy347⟩ : ∃ y_ : List (S62), y_ = (([(⟨x29_2, wrap64 (a1)⟩ : S62)] : List (S62))) := ⟨_, rfl⟩
              replace H : ((heap_Put.f k2 l0 y347).bind fun bt350 => (if t346 = 0 then (if bt350.2 = 0 then (if 0 ≤ x29_2 then (if x29_2 < (l0.length : Int) then (handshakerlaw02_HeapLive.j2 k2 l0 a1 t331 x6_2 x29_2 t346 (l0.length : Int) x29_2 (t345 != ((rd_T59 l0 x29_2).f1))) else (none)) else (none)) else (handshakerlaw02_HeapLive.j2 k2 l0 a1 t331 x6_2 x29_2 t346 (l0.length : Int) x29_2 true)) else (if bt350.2 = 0 then (handshakerlaw02_HeapLive.j2 k2 l0 a1 t331 x6_2 x29_2 t346 (l0.length : Int) x29_2 true) else (handshakerlaw02_HeapLive.j2 k2 l0 a1 t331 x6_2 x29_2 t346 (l0.length : Int) x29_2 false)))) = some r := by first | (rw [hy347]; with_reducible exact H) | (have H2_ := (Option.bind_some _ _).symm.trans H; rw [hy347]; with_reducible exact H2_) | (have H2_ := (Option.bind_some _ _).symm.trans H; with_reducible exact H2_) | with_reducible exact H | (rw [hy347]; exact H) | exact H
              have Ny347 := Aside0.mk hy347
              clear hy347
              replace H := Option.bind_eq_some_iff.mp H
              obtain ⟨⟨t350, t353⟩, A140, H⟩ := H
              replace H : (if t346 = 0 then (if t353 = 0 then (if 0 ≤ x29_2 then (if x29_2 < (l0.length : Int) then (handshakerlaw02_HeapLive.j2 k2 l0 a1 t331 x6_2 x29_2 t346 (l0.length : Int) x29_2 (t345 != ((rd_T59 l0 x29_2).f1))) else (none)) else (none)) else (handshakerlaw02_HeapLive.j2 k2 l0 a1 t331 x6_2 x29_2 t346 (l0.length : Int) x29_2 true)) else (if t353 = 0 then (handshakerlaw02_HeapLive.j2 k2 l0 a1 t331 x6_2 x29_2 t346 (l0.length : Int) x29_2 true) else (handshakerlaw02_HeapLive.j2 k2 l0 a1 t331 x6_2 x29_2 t346 (l0.length : Int) x29_2 false))) = some r := H
              have A14 := Aside0.mk A140
              clear A140
              have HC15 := Aside0.mk H
              clear H
              go_upto_region 10 with (first | ((with_reducible refine gate_callee (f := 30) rfl ?_); refine goesL_ (some 35) rfl rfl Try.func30 (by kernel_rfl) rfl #[.slice A0 l0.length c0, .int .i64 x29_2] rfl (by (try simp only [List.map_toArray, List.map_cons, List.map_nil]); first | done | rfl | (simp only [List.length_drop, List.length_take]; rfl)) ?_; (with_reducible refine (heap_Get.calls _ _ l0 x29_2 t345 t346 _ ?side1 ?side2 A13.out).mono ?_); (case side1 => repeat (first | exact (Kd.C_below HR0.out HB.out) | (with_reducible refine Kd.C_alloc ?_ _) | (with_reducible refine Kd.C_drewN ?_ _) | (with_reducible refine Kd.C_drew ?_))); (case side2 => exact HC0.out); rintro e w16 ⟨rfl, hb⟩; refine ⟨_, rfl, ?_⟩; have n0_ := Aside0.mk (Kd.R_below (by (with_reducible repeat (first | apply Kd.R_alloc | apply Kd.R_drewN | apply Kd.R_drew)); exact HO_5.out) hb); have n1_ := Aside0.mk (below_step (by repeat (first | (with_reducible first | exact HB.out | apply below_alloc | apply pw_below_drewN | apply below_drew1) | exact HB.out)) hb); clear HO_5; clear HB; have HO_5 := n0_; have HB := n1_; clear n0_ n1_; (try clear hb); (try clear hb2); (try clear hk); (try clear hi)) | ((with_reducible refine gate_dst (N := 44) rfl ?_); (try (refine gate_guard (by rfl) ?_; dsimp only)); refine Kd.R_lit k62 _ 62 ?hg (N := 44) ?hd (xs := ([(⟨x29_2, wrap64 (a1)⟩ : S62)] : List (S62))) (inner := [.int .i64 x29_2, .int .i64 (wrap64 (a1))]) (ok := fun _ => True) (okp := fun _ => True) ?hr ?hp (fun _ hk => hk) trivial (Below.refl _ _) (Nat.le_refl _) (by simp) ?_; (case hd => rfl); (case hg => rfl); (case hr => first | (go_simp; done) | (go_simp; rfl)); (case hp => exact (Reps.c2 (show Kd.M k62 _ _ _ (⟨x29_2, wrap64 (a1)⟩ : S62) [.int .i64 x29_2, .int .i64 (wrap64 (a1))] from (k62_mkM _ _ _ (⟨x29_2, wrap64 (a1)⟩ : S62) )) (Reps.none _ _))); intro v348 w17 ho18 hb hg_ hnew_; clear hg_ hnew_; (first | rw [← Ny347.out] at ho18 | (simp only [Int.reduceToNat] at ho18; rw [← Ny347.out] at ho18)); have n0_ := Aside0.mk (Kd.R_below (by (with_reducible repeat (first | apply Kd.R_alloc | apply Kd.R_drewN | apply Kd.R_drew)); exact HO_5.out) hb); have n1_ := Aside0.mk (Kd.R_lower ho18 (below_size (by repeat (first | (with_reducible first | exact HB.out | apply below_alloc | apply pw_below_drewN | apply below_drew1) | exact HB.out)))); have n2_ := Aside0.mk (below_step (by repeat (first | (with_reducible first | exact HB.out | apply below_alloc | apply pw_below_drewN | apply below_drew1) | exact HB.out)) hb); clear HO_5; clear HB; have HO_5 := n0_; have HO349 := n1_; have HB := n2_; clear n0_ n1_ n2_; clear hb ho18; obtain ⟨Ao19, co19, eo19⟩ := Kd.R_slice HO349.out; subst eo19) | ((with_reducible refine gate_callee (f := 32) rfl ?_); refine goesL_ (some 45) rfl rfl Try.func32 (by kernel_rfl) rfl #[.slice A0 l0.length c0, .slice Ao19 y347.length co19] rfl (by (try simp only [List.map_toArray, List.map_cons, List.map_nil]); first | done | rfl | (simp only [List.length_drop, List.length_take]; rfl)) ?_; (with_reducible refine (heap_Put.calls k2 (fun k_ => k_ < w.heap.size) _ _ l0 _ _ y347 t350 t353 _ ?side1 ?side2 ?side3 A14.out).mono ?_); (case side1 => exact Kd.V_mk HC0.out (Kd.F_below (Kd.C_F k59_heap HR0.out) (by repeat (first | (with_reducible first | exact HB.out | apply below_alloc | apply pw_below_drewN | apply below_drew1) | exact HB.out)))); (case side2 => repeat (first | exact (Kd.R_reads' HO349.out).2.2 | (with_reducible refine Kd.C_alloc ?_ _) | (with_reducible refine Kd.C_drewN ?_ _) | (with_reducible refine Kd.C_drew ?_))); (case side3 => exact (Kd.R_reads' HO349.out).2.1); rintro e w20 ⟨v351, rfl, ho0, hb⟩; refine ⟨_, rfl, ?_⟩; have n0_ := Aside0.mk (Kd.R_below (by (with_reducible repeat (first | apply Kd.R_alloc | apply Kd.R_drewN | apply Kd.R_drew)); exact HO_5.out) hb); have n1_ := Aside0.mk (Kd.R_below (by (with_reducible repeat (first | apply Kd.R_alloc | apply Kd.R_drewN | apply Kd.R_drew)); exact HO349.out) hb); have n2_ := Aside0.mk (Kd.V_lower (Kd.V_mono (ok' := fun k_ => some k_ ≠ (v332 : Value).ownBlock ∧ some k_ ≠ (.slice Ao19 y347.length co19 : Value).ownBlock) ho0 (fun k_ hk_ => ⟨Or.elim hk_ (fun hs_ => fun e_ => Nat.not_le.2 hs_ (Kd.R_base HO_5.out k_ e_.symm)) (fun hn_ => (Kd.fresh' (Kd.R_lt (by (with_reducible repeat (first | apply Kd.R_alloc | apply Kd.R_drewN | apply Kd.R_drew)); exact HO_5.out)) k_ hn_)), Or.elim hk_ (fun hs_ => fun e_ => Nat.not_le.2 hs_ (Kd.R_base HO349.out k_ e_.symm)) (fun hn_ => (Kd.fresh' (Kd.R_lt (by (with_reducible repeat (first | apply Kd.R_alloc | apply Kd.R_drewN | apply Kd.R_drew)); exact HO349.out)) k_ hn_))⟩)) (below_size (by repeat (first | (with_reducible first | exact HB.out | apply below_alloc | apply pw_below_drewN | apply below_drew1) | exact HB.out)))); have n3_ := Aside0.mk (below_step (by repeat (first | (with_reducible first | exact HB.out | apply below_alloc | apply pw_below_drewN | apply below_drew1) | exact HB.out)) hb); clear HO_5; clear HO349; clear HB; have HO_5 := n0_; have HO349 := n1_; have HO352 := n2_; have HB := n3_; clear n0_ n1_ n2_ n3_; (try clear hb); (try clear hb2); (try clear hk); (try clear hi); (try clear ho0)))
              (try simp only [Act.put, List.setIfInBounds_toArray, List.set_cons_zero, List.set_cons_succ])
              go_cut [65] (fun v65 wc => ∃ (kq : Nat) (x65_14 : Bool), v65 = .bool x65_14 ∧ Aside0 (handshakerlaw02_HeapLive.j2 kq l0 a1 t331 x6_2 x29_2 t346 (l0.length : Int) x29_2 x65_14 = some r) ∧ Aside0 (kq ≤ k2) ∧ Aside0 (Kd.R (Kd.int .i64) 3 wc w.heap.size (fun _ => True) v332 t331) ∧ Aside0 (Below w.heap.size w wc))
              case first =>
                have H := HC15.out
                clear HC15
                by_cases c21 : t346 = 0
                · rw [if_pos c21] at H
                  have c21b0 : (t346 == 0) = true := beq_iff_eq.mpr c21
                  have c21b1 : (t346 != 0) = false := bne_eq_false_iff_eq.mpr c21
                  clear c21
                  (first | rw [c21b0] | (simp only [i64_w, i32_w]; rw [c21b0]) | skip)
                  by_cases c22 : t353 = 0
                  · rw [if_pos c22] at H
                    have c22b0 : (t353 == 0) = true := beq_iff_eq.mpr c22
                    have c22b1 : (t353 != 0) = false := bne_eq_false_iff_eq.mpr c22
                    clear c22
                    by_cases c23 : 0 ≤ x29_2
                    · rw [if_pos c23] at H
                      have c23b0 : decide (0 ≤ x29_2) = true := decide_eq_true c23
                      clear c23
                      by_cases c24 : x29_2 < (l0.length : Int)
                      · rw [if_pos c24] at H
                        have c24b0 : decide (x29_2 < (l0.length : Int)) = true := decide_eq_true c24
                        clear c24
                        have H' := Aside0.mk H
                        clear H
                        have p354 : 0 ≤ (x29_2 : Int) := of_decide_eq_true (by first | (with_reducible assumption) | assumption)
                        have q354 : x29_2 < (l0.length : Int) := of_decide_eq_true (by first | (with_reducible assumption) | assumption)
                        obtain ⟨ad354, e354, hx354_0, hx354_1⟩ := at_T59 HR0.out x29_2 p354 q354
                        cases e354
                        replace hx354_0 := (HB.out.cell (World.block_lt_of_cell? w _ hx354_0)).trans hx354_0
                        replace hx354_1 := (HB.out.cell (World.block_lt_of_cell? w _ hx354_1)).trans hx354_1
                        replace p354 := eq_true p354
                        replace q354 := eq_true q354
                        go_wp2
                        go_meet
                        case rel => exact ⟨_, ((t345 != ((rd_T59 l0 x29_2).f1))), (by first | rfl | (simp; done) | (simp [*]; done)), H', ⟨by have := HJ2.out; have := HK2.out; first | omega | exact Nat.le_refl _⟩, ⟨by (with_reducible repeat (first | apply Kd.R_alloc | apply Kd.R_drewN | apply Kd.R_drew)); exact HO_5.out⟩, ⟨by repeat (first | (with_reducible first | exact HB.out | apply below_alloc | apply pw_below_drewN | apply below_drew1) | exact HB.out)⟩⟩
                      · rw [if_neg c24] at H
                        exact absurd H (by simp)
                    · rw [if_neg c23] at H
                      exact absurd H (by simp)
                  · rw [if_neg c22] at H
                    have c22b0 : (t353 == 0) = false := beq_eq_false_iff_ne.mpr c22
                    have c22b1 : (t353 != 0) = true := bne_iff_ne.mpr c22
                    have H' := Aside0.mk H
                    clear H
                    go_wp2
                    go_meet
                    case rel => exact ⟨_, (true), (by first | rfl | (simp; done) | (simp [*]; done)), H', ⟨by have := HJ2.out; have := HK2.out; first | omega | exact Nat.le_refl _⟩, ⟨by (with_reducible repeat (first | apply Kd.R_alloc | apply Kd.R_drewN | apply Kd.R_drew)); exact HO_5.out⟩, ⟨by repeat (first | (with_reducible first | exact HB.out | apply below_alloc | apply pw_below_drewN | apply below_drew1) | exact HB.out)⟩⟩
                · rw [if_neg c21] at H
                  have c21b0 : (t346 == 0) = false := beq_eq_false_iff_ne.mpr c21
                  have c21b1 : (t346 != 0) = true := bne_iff_ne.mpr c21
                  (first | rw [c21b0] | (simp only [i64_w, i32_w]; rw [c21b0]) | skip)
                  by_cases c25 : t353 = 0
                  · rw [if_pos c25] at H
                    have c25b0 : (t353 == 0) = true := beq_iff_eq.mpr c25
                    have c25b1 : (t353 != 0) = false := bne_eq_false_iff_eq.mpr c25
                    clear c25
                    have H' := Aside0.mk H
                    clear H
                    go_wp2
                    go_meet
                    case rel => exact ⟨_, (true), (by first | rfl | (simp; done) | (simp [*]; done)), H', ⟨by have := HJ2.out; have := HK2.out; first | omega | exact Nat.le_refl _⟩, ⟨by (with_reducible repeat (first | apply Kd.R_alloc | apply Kd.R_drewN | apply Kd.R_drew)); exact HO_5.out⟩, ⟨by repeat (first | (with_reducible first | exact HB.out | apply below_alloc | apply pw_below_drewN | apply below_drew1) | exact HB.out)⟩⟩
                  · rw [if_neg c25] at H
                    have c25b0 : (t353 == 0) = false := beq_eq_false_iff_ne.mpr c25
                    have c25b1 : (t353 != 0) = true := bne_iff_ne.mpr c25
                    have H' := Aside0.mk H
                    clear H
                    go_wp2
                    go_meet
                    case rel => exact ⟨_, (false), (by first | rfl | (simp; done) | (simp [*]; done)), H', ⟨by have := HJ2.out; have := HK2.out; first | omega | exact Nat.le_refl _⟩, ⟨by (with_reducible repeat (first | apply Kd.R_alloc | apply Kd.R_drewN | apply Kd.R_drew)); exact HO_5.out⟩, ⟨by repeat (first | (with_reducible first | exact HB.out | apply below_alloc | apply pw_below_drewN | apply below_drew1) | exact HB.out)⟩⟩
              case rest =>
                clear HC15
                try clear c1
                try clear c2
                try clear p2
                try clear c3
                try clear p3
                try clear q3
                try clear hx3
                try clear c4
                try clear c4b0
                try clear c4b1
                try clear p6
                try clear c7
                try clear c12
                try clear c12b0
                try clear c13
                try clear c21
                try clear c21b0
                try clear c21b1
                try clear c22
                try clear c22b0
                try clear c22b1
                try clear c23
                try clear c23b0
                try clear c24
                try clear c24b0
                try clear c25
                try clear c25b0
                try clear c25b1
                try clear hx354_0
                try clear hx354_1
                try clear p2
                try clear p354
                try clear q354
                obtain ⟨kq, x65_14, rfl, HA, HJ14, HO_5, HB⟩ := hcut
                cases kq with
                | zero => exact absurd HA.out (by simp [handshakerlaw02_HeapLive.j2])
                | succ kj14 =>
                  have H := HA.out
                  clear HA
                  simp only [handshakerlaw02_HeapLive.j2] at H
                  by_cases c26 : x65_14 = true
                  · subst c26
                    have H1 : (some false) = some r := by rw [if_pos rfl] at H; exact H
                    clear H
                    have H := H1
                    clear H1
                    exact absurd (Option.some.inj H) (by rw [HT.out]; decide)
                  · replace c26 := Bool.eq_false_iff.mpr c26
                    subst c26
                    have H1 : (if t346 = 0 then (if x6_2 ≥ (t331.length : Int) then (some false) else (if 0 ≤ x6_2 then (if x6_2 < (t331.length : Int) then (if (rd t331 x6_2) = x29_2 then (handshakerlaw02_HeapLive.l0 kj14 l0 a1 t331 (wrap64 (x6_2 + 1)) (l0.length : Int) (wrap64 (x29_2 + 1))) else (some false)) else (none)) else (none))) else (handshakerlaw02_HeapLive.l0 kj14 l0 a1 t331 x6_2 (l0.length : Int) (wrap64 (x29_2 + 1)))) = some r := by rw [if_neg (show ¬ (false = true) by decide)] at H; exact H
                    clear H
                    have H := H1
                    clear H1
                    by_cases c27 : t346 = 0
                    · rw [if_pos c27] at H
                      have c27b0 : (t346 == 0) = true := beq_iff_eq.mpr c27
                      have c27b1 : (t346 != 0) = false := bne_eq_false_iff_eq.mpr c27
                      clear c27
                      by_cases c28 : x6_2 ≥ (t331.length : Int)
                      · rw [if_pos c28] at H
                        have c28b0 : decide ((t331.length : Int) ≤ x6_2) = true := decide_eq_true c28
                        clear c28
                        exact absurd (Option.some.inj H) (by rw [HT.out]; decide)
                      · rw [if_neg c28] at H
                        have c28b0 : decide ((t331.length : Int) ≤ x6_2) = false := decide_eq_false c28
                        clear c28
                        by_cases c29 : 0 ≤ x6_2
                        · rw [if_pos c29] at H
                          have c29b0 : decide (0 ≤ x6_2) = true := decide_eq_true c29
                          clear c29
                          by_cases c30 : x6_2 < (t331.length : Int)
                          · rw [if_pos c30] at H
                            have c30b0 : decide (x6_2 < (t331.length : Int)) = true := decide_eq_true c30
                            clear c30
                            by_cases c31 : (rd t331 x6_2) = x29_2
                            · rw [if_pos c31] at H
                              have c31b0 : ((rd t331 x6_2) == x29_2) = true := beq_iff_eq.mpr c31
                              have c31b1 : ((rd t331 x6_2) != x29_2) = false := bne_eq_false_iff_eq.mpr c31
                              clear c31
                              have H' := Aside0.mk H
                              clear H
                              obtain ⟨Ao32, co32, eo32⟩ := Kd.R_slice HO_5.out
                              subst eo32
                              have p355 : 0 ≤ (x6_2 : Int) := of_decide_eq_true (by first | (with_reducible assumption) | assumption)
                              have q355 : x6_2 < (t331.length : Int) := of_decide_eq_true (by first | (with_reducible assumption) | assumption)
                              obtain ⟨ad355, e355, hx355_0⟩ := Kd.at_int (Kd.R_reads' HO_5.out).2.2 x6_2 p355 q355
                              cases e355
                              replace p355 := eq_true p355
                              replace q355 := eq_true q355
                              go_wp2
                              go_roundg kj14
                              case measure => have := HJ2.out; have := HK2.out; have := HJ14.out; omega
                              case rel => exact ⟨(wrap64 (x6_2 + 1)), (wrap64 (x29_2 + 1)), (by first | rfl | (simp; done) | (simp [*]; done)), (by first | rfl | (simp; done) | (simp [*]; done)), H', ⟨by have := HJ2.out; have := HK2.out; have := HJ14.out; omega⟩, ⟨by (with_reducible repeat (first | apply Kd.R_alloc | apply Kd.R_drewN | apply Kd.R_drew)); exact HO_5.out⟩, ⟨by repeat (first | (with_reducible first | exact HB.out | apply below_alloc | apply pw_below_drewN | apply below_drew1) | exact HB.out)⟩⟩
                            · rw [if_neg c31] at H
                              have c31b0 : ((rd t331 x6_2) == x29_2) = false := beq_eq_false_iff_ne.mpr c31
                              have c31b1 : ((rd t331 x6_2) != x29_2) = true := bne_iff_ne.mpr c31
                              exact absurd (Option.some.inj H) (by rw [HT.out]; decide)
                          · rw [if_neg c30] at H
                            exact absurd H (by simp)
                        · rw [if_neg c29] at H
                          exact absurd H (by simp)
                    · rw [if_neg c27] at H
                      have c27b0 : (t346 == 0) = false := beq_eq_false_iff_ne.mpr c27
                      have c27b1 : (t346 != 0) = true := bne_iff_ne.mpr c27
                      have H' := Aside0.mk H
                      clear H
                      go_wp2
                      go_roundg kj14
                      case measure => have := HJ2.out; have := HK2.out; have := HJ14.out; omega
                      case rel => exact ⟨(x6_2), (wrap64 (x29_2 + 1)), (by first | rfl | (simp; done) | (simp [*]; done)), (by first | rfl | (simp; done) | (simp [*]; done)), H', ⟨by have := HJ2.out; have := HK2.out; have := HJ14.out; omega⟩, ⟨by (with_reducible repeat (first | apply Kd.R_alloc | apply Kd.R_drewN | apply Kd.R_drew)); exact HO_5.out⟩, ⟨by repeat (first | (with_reducible first | exact HB.out | apply below_alloc | apply pw_below_drewN | apply below_drew1) | exact HB.out)⟩⟩
            · rw [if_neg c12] at H
              have c12b0 : decide (x29_2 < (l0.length : Int)) = false := decide_eq_false c12
              clear c12
              replace H := Option.bind_eq_some_iff.mp H
              obtain ⟨⟨t334, t337, t338⟩, A330, H⟩ := H
              replace H : ((heap_Live.f k2 t334).bind fun t339 => (if x6_2 = (t331.length : Int) then (if t338 = 0 then (if (wrap64 ((t339.length : Int) - x6_2)) = 1 then ((handshakerlaw02_awake.f k2).bind fun t342 => (some t342)) else (if t338 = 4 then (if (wrap64 ((t339.length : Int) - x6_2)) = 0 then (if x6_2 = (l0.length : Int) then ((handshakerlaw02_awake.f k2).bind fun t343 => (some t343)) else (some false)) else (some false)) else (some false))) else (if t338 = 4 then (if (wrap64 ((t339.length : Int) - x6_2)) = 0 then (if x6_2 = (l0.length : Int) then ((handshakerlaw02_awake.f k2).bind fun t344 => (some t344)) else (some false)) else (some false)) else (some false))) else (some false))) = some r := H
              have A33 := Aside0.mk A330
              clear A330
              replace H := Option.bind_eq_some_iff.mp H
              obtain ⟨t339, A340, H⟩ := H
              replace H : (if x6_2 = (t331.length : Int) then (if t338 = 0 then (if (wrap64 ((t339.length : Int) - x6_2)) = 1 then ((handshakerlaw02_awake.f k2).bind fun t342 => (some t342)) else (if t338 = 4 then (if (wrap64 ((t339.length : Int) - x6_2)) = 0 then (if x6_2 = (l0.length : Int) then ((handshakerlaw02_awake.f k2).bind fun t343 => (some t343)) else (some false)) else (some false)) else (some false))) else (if t338 = 4 then (if (wrap64 ((t339.length : Int) - x6_2)) = 0 then (if x6_2 = (l0.length : Int) then ((handshakerlaw02_awake.f k2).bind fun t344 => (some t344)) else (some false)) else (some false)) else (some false))) else (some false)) = some r := H
              have A34 := Aside0.mk A340
              clear A340
              by_cases c35 : x6_2 = (t331.length : Int)
              · rw [if_pos c35] at H
                have c35b0 : (x6_2 == (t331.length : Int)) = true := beq_iff_eq.mpr c35
                have c35b1 : (x6_2 != (t331.length : Int)) = false := bne_eq_false_iff_eq.mpr c35
                clear c35
                by_cases c36 : t338 = 0
                · rw [if_pos c36] at H
                  have c36b0 : (t338 == 0) = true := beq_iff_eq.mpr c36
                  have c36b1 : (t338 != 0) = false := bne_eq_false_iff_eq.mpr c36
                  clear c36
                  by_cases c37 : (wrap64 ((t339.length : Int) - x6_2)) = 1
                  · rw [if_pos c37] at H
                    have c37b0 : ((wrap64 ((t339.length : Int) - x6_2)) == 1) = true := beq_iff_eq.mpr c37
                    have c37b1 : ((wrap64 ((t339.length : Int) - x6_2)) != 1) = false := bne_eq_false_iff_eq.mpr c37
                    clear c37
                    replace H := Option.bind_eq_some_iff.mp H
                    obtain ⟨t342, A380, H⟩ := H
                    replace H : (some t342) = some r := H
                    have A38 := Aside0.mk A380
                    clear A380
                    obtain rfl := Option.some.inj H
                    go_wp2_with (first | ((with_reducible refine gate_callee (f := 26) rfl ?_); refine goesL_ (some 87) rfl rfl Try.func26 (by kernel_rfl) rfl #[.slice A0 l0.length c0, .int .i64 (wrap64 (a1))] rfl (by (try simp only [List.map_toArray, List.map_cons, List.map_nil]); first | done | rfl | (simp only [List.length_drop, List.length_take]; rfl)) ?_; (with_reducible refine (heap_Alloc.calls k2 (fun k_ => k_ < w.heap.size) _ _ l0 (wrap64 (a1)) t334 t337 t338 _ ?side1 A33.out).mono ?_); (case side1 => exact Kd.V_mk HC0.out (Kd.F_below (Kd.C_F k59_heap HR0.out) (by repeat (first | (with_reducible first | exact HB.out | apply below_alloc | apply pw_below_drewN | apply below_drew1) | exact HB.out)))); rintro e w39 ⟨v335, rfl, ho0, hb⟩; refine ⟨_, rfl, ?_⟩; have n0_ := Aside0.mk (Kd.R_below (by (with_reducible repeat (first | apply Kd.R_alloc | apply Kd.R_drewN | apply Kd.R_drew)); exact HO_5.out) hb); have n1_ := Aside0.mk (Kd.V_lower (Kd.V_mono (ok' := fun k_ => some k_ ≠ (v332 : Value).ownBlock) ho0 (fun k_ hk_ => Or.elim hk_ (fun hs_ => fun e_ => Nat.not_le.2 hs_ (Kd.R_base HO_5.out k_ e_.symm)) (fun hn_ => (Kd.fresh' (Kd.R_lt (by (with_reducible repeat (first | apply Kd.R_alloc | apply Kd.R_drewN | apply Kd.R_drew)); exact HO_5.out)) k_ hn_)))) (below_size (by repeat (first | (with_reducible first | exact HB.out | apply below_alloc | apply pw_below_drewN | apply below_drew1) | exact HB.out)))); have n2_ := Aside0.mk (below_step (by repeat (first | (with_reducible first | exact HB.out | apply below_alloc | apply pw_below_drewN | apply below_drew1) | exact HB.out)) hb); clear HO_5; clear HB; have HO_5 := n0_; have HO336 := n1_; have HB := n2_; clear n0_ n1_ n2_; (try clear hb); (try clear hb2); (try clear hk); (try clear hi); (try clear ho0); obtain ⟨Ao40, co40, eo40⟩ := Kd.V_slice HO336.out; subst eo40) | ((with_reducible refine gate_callee (f := 38) rfl ?_); refine goesL_ (some 92) rfl rfl Try.func38 (by kernel_rfl) rfl #[.slice Ao40 t334.length co40] rfl (by (try simp only [List.map_toArray, List.map_cons, List.map_nil]); first | done | rfl | (simp only [List.length_drop, List.length_take]; rfl)) ?_; (with_reducible refine (heap_Live.calls k2 _ _ t334 t339 _ ?side1 ?side2 A34.out).mono ?_); (case side1 => repeat (first | exact (Kd.V_reads' HO336.out).2.2 | (with_reducible refine Kd.C_alloc ?_ _) | (with_reducible refine Kd.C_drewN ?_ _) | (with_reducible refine Kd.C_drew ?_))); (case side2 => exact (Kd.V_reads' HO336.out).2.1); rintro e w41 ⟨v340, rfl, ho0, hb⟩; refine ⟨_, rfl, ?_⟩; have n0_ := Aside0.mk (Kd.R_elder' (by (with_reducible repeat (first | apply Kd.R_alloc | apply Kd.R_drewN | apply Kd.R_drew)); exact HO_5.out) (Kd.R_base ho0) hb); have n1_ := Aside0.mk (Kd.V_elder' (by (with_reducible repeat (first | apply Kd.V_alloc | apply Kd.V_drewN | apply Kd.V_drew)); exact HO336.out) (Kd.R_base ho0) hb); have n2_ := Aside0.mk (Kd.R_lower (Kd.R_new' ho0 (Kd.R_lt (by (with_reducible repeat (first | apply Kd.R_alloc | apply Kd.R_drewN | apply Kd.R_drew)); exact HO_5.out))) (below_size (by repeat (first | (with_reducible first | exact HB.out | apply below_alloc | apply pw_below_drewN | apply below_drew1) | exact HB.out)))); have n3_ := Aside0.mk (below_step (by repeat (first | (with_reducible first | exact HB.out | apply below_alloc | apply pw_below_drewN | apply below_drew1) | exact HB.out)) hb); clear HO_5; clear HO336; clear HB; have HO_5 := n0_; have HO336 := n1_; have HO341 := n2_; have HB := n3_; clear n0_ n1_ n2_ n3_; (try clear hb); (try clear hb2); (try clear hk); (try clear hi); (try clear ho0); obtain ⟨Ao42, co42, eo42⟩ := Kd.R_slice HO341.out; subst eo42; obtain ⟨Ao43, co43, eo43⟩ := Kd.R_slice HO_5.out; subst eo43) | (go_at_call 25; (with_reducible refine (handshakerlaw02_awake.calls k2  t342 _ A38.out).mono ?_); rintro e w44 ⟨rfl, hb⟩; have n0_ := Aside0.mk (Kd.R_below (by (with_reducible repeat (first | apply Kd.R_alloc | apply Kd.R_drewN | apply Kd.R_drew)); exact HO_5.out) hb); have n1_ := Aside0.mk (Kd.V_below (by (with_reducible repeat (first | apply Kd.V_alloc | apply Kd.V_drewN | apply Kd.V_drew)); exact HO336.out) hb); have n2_ := Aside0.mk (Kd.R_below (by (with_reducible repeat (first | apply Kd.R_alloc | apply Kd.R_drewN | apply Kd.R_drew)); exact HO341.out) hb); have n3_ := Aside0.mk (below_step (by repeat (first | (with_reducible first | exact HB.out | apply below_alloc | apply pw_below_drewN | apply below_drew1) | exact HB.out)) hb); clear HO_5; clear HO336; clear HO341; clear HB; have HO_5 := n0_; have HO336 := n1_; have HO341 := n2_; have HB := n3_; clear n0_ n1_ n2_ n3_; (try clear hb); (try clear hb2); (try clear hk); (try clear hi)))
                    go_ret
                    exact ⟨by first | rfl | (simp [errW_none, errW_some] <;> rfl) | (simp [*, errW_none, errW_some] <;> rfl), by repeat (first | (with_reducible first | exact HB.out | apply below_alloc | apply pw_below_drewN | apply below_drew1) | exact HB.out)⟩
                  · rw [if_neg c37] at H
                    have c37b0 : ((wrap64 ((t339.length : Int) - x6_2)) == 1) = false := beq_eq_false_iff_ne.mpr c37
                    have c37b1 : ((wrap64 ((t339.length : Int) - x6_2)) != 1) = true := bne_iff_ne.mpr c37
                    by_cases c45 : t338 = 4
                    · rw [if_pos c45] at H
                      have c45b0 : (t338 == 4) = true := beq_iff_eq.mpr c45
                      have c45b1 : (t338 != 4) = false := bne_eq_false_iff_eq.mpr c45
                      clear c45
                      by_cases c46 : (wrap64 ((t339.length : Int) - x6_2)) = 0
                      · rw [if_pos c46] at H
                        have c46b0 : ((wrap64 ((t339.length : Int) - x6_2)) == 0) = true := beq_iff_eq.mpr c46
                        have c46b1 : ((wrap64 ((t339.length : Int) - x6_2)) != 0) = false := bne_eq_false_iff_eq.mpr c46
                        clear c46
                        by_cases c47 : x6_2 = (l0.length : Int)
                        · rw [if_pos c47] at H
                          have c47b0 : (x6_2 == (l0.length : Int)) = true := beq_iff_eq.mpr c47
                          have c47b1 : (x6_2 != (l0.length : Int)) = false := bne_eq_false_iff_eq.mpr c47
                          clear c47
                          replace H := Option.bind_eq_some_iff.mp H
                          obtain ⟨t343, A480, H⟩ := H
                          replace H : (some t343) = some r := H
                          have A48 := Aside0.mk A480
                          clear A480
                          obtain rfl := Option.some.inj H
                          go_wp2_with (first | ((with_reducible refine gate_callee (f := 26) rfl ?_); refine goesL_ (some 87) rfl rfl Try.func26 (by kernel_rfl) rfl #[.slice A0 l0.length c0, .int .i64 (wrap64 (a1))] rfl (by (try simp only [List.map_toArray, List.map_cons, List.map_nil]); first | done | rfl | (simp only [List.length_drop, List.length_take]; rfl)) ?_; (with_reducible refine (heap_Alloc.calls k2 (fun k_ => k_ < w.heap.size) _ _ l0 (wrap64 (a1)) t334 t337 t338 _ ?side1 A33.out).mono ?_); (case side1 => exact Kd.V_mk HC0.out (Kd.F_below (Kd.C_F k59_heap HR0.out) (by repeat (first | (with_reducible first | exact HB.out | apply below_alloc | apply pw_below_drewN | apply below_drew1) | exact HB.out)))); rintro e w49 ⟨v335, rfl, ho0, hb⟩; refine ⟨_, rfl, ?_⟩; have n0_ := Aside0.mk (Kd.R_below (by (with_reducible repeat (first | apply Kd.R_alloc | apply Kd.R_drewN | apply Kd.R_drew)); exact HO_5.out) hb); have n1_ := Aside0.mk (Kd.V_lower (Kd.V_mono (ok' := fun k_ => some k_ ≠ (v332 : Value).ownBlock) ho0 (fun k_ hk_ => Or.elim hk_ (fun hs_ => fun e_ => Nat.not_le.2 hs_ (Kd.R_base HO_5.out k_ e_.symm)) (fun hn_ => (Kd.fresh' (Kd.R_lt (by (with_reducible repeat (first | apply Kd.R_alloc | apply Kd.R_drewN | apply Kd.R_drew)); exact HO_5.out)) k_ hn_)))) (below_size (by repeat (first | (with_reducible first | exact HB.out | apply below_alloc | apply pw_below_drewN | apply below_drew1) | exact HB.out)))); have n2_ := Aside0.mk (below_step (by repeat (first | (with_reducible first | exact HB.out | apply below_alloc | apply pw_below_drewN | apply below_drew1) | exact HB.out)) hb); clear HO_5; clear HB; have HO_5 := n0_; have HO336 := n1_; have HB := n2_; clear n0_ n1_ n2_; (try clear hb); (try clear hb2); (try clear hk); (try clear hi); (try clear ho0); obtain ⟨Ao50, co50, eo50⟩ := Kd.V_slice HO336.out; subst eo50) | ((with_reducible refine gate_callee (f := 38) rfl ?_); refine goesL_ (some 92) rfl rfl Try.func38 (by kernel_rfl) rfl #[.slice Ao50 t334.length co50] rfl (by (try simp only [List.map_toArray, List.map_cons, List.map_nil]); first | done | rfl | (simp only [List.length_drop, List.length_take]; rfl)) ?_; (with_reducible refine (heap_Live.calls k2 _ _ t334 t339 _ ?side1 ?side2 A34.out).mono ?_); (case side1 => repeat (first | exact (Kd.V_reads' HO336.out).2.2 | (with_reducible refine Kd.C_alloc ?_ _) | (with_reducible refine Kd.C_drewN ?_ _) | (with_reducible refine Kd.C_drew ?_))); (case side2 => exact (Kd.V_reads' HO336.out).2.1); rintro e w51 ⟨v340, rfl, ho0, hb⟩; refine ⟨_, rfl, ?_⟩; have n0_ := Aside0.mk (Kd.R_elder' (by (with_reducible repeat (first | apply Kd.R_alloc | apply Kd.R_drewN | apply Kd.R_drew)); exact HO_5.out) (Kd.R_base ho0) hb); have n1_ := Aside0.mk (Kd.V_elder' (by (with_reducible repeat (first | apply Kd.V_alloc | apply Kd.V_drewN | apply Kd.V_drew)); exact HO336.out) (Kd.R_base ho0) hb); have n2_ := Aside0.mk (Kd.R_lower (Kd.R_new' ho0 (Kd.R_lt (by (with_reducible repeat (first | apply Kd.R_alloc | apply Kd.R_drewN | apply Kd.R_drew)); exact HO_5.out))) (below_size (by repeat (first | (with_reducible first | exact HB.out | apply below_alloc | apply pw_below_drewN | apply below_drew1) | exact HB.out)))); have n3_ := Aside0.mk (below_step (by repeat (first | (with_reducible first | exact HB.out | apply below_alloc | apply pw_below_drewN | apply below_drew1) | exact HB.out)) hb); clear HO_5; clear HO336; clear HB; have HO_5 := n0_; have HO336 := n1_; have HO341 := n2_; have HB := n3_; clear n0_ n1_ n2_ n3_; (try clear hb); (try clear hb2); (try clear hk); (try clear hi); (try clear ho0); obtain ⟨Ao52, co52, eo52⟩ := Kd.R_slice HO341.out; subst eo52; obtain ⟨Ao53, co53, eo53⟩ := Kd.R_slice HO_5.out; subst eo53) | (go_at_call 25; (with_reducible refine (handshakerlaw02_awake.calls k2  t343 _ A48.out).mono ?_); rintro e w54 ⟨rfl, hb⟩; have n0_ := Aside0.mk (Kd.R_below (by (with_reducible repeat (first | apply Kd.R_alloc | apply Kd.R_drewN | apply Kd.R_drew)); exact HO_5.out) hb); have n1_ := Aside0.mk (Kd.V_below (by (with_reducible repeat (first | apply Kd.V_alloc | apply Kd.V_drewN | apply Kd.V_drew)); exact HO336.out) hb); have n2_ := Aside0.mk (Kd.R_below (by (with_reducible repeat (first | apply Kd.R_alloc | apply Kd.R_drewN | apply Kd.R_drew)); exact HO341.out) hb); have n3_ := Aside0.mk (below_step (by repeat (first | (with_reducible first | exact HB.out | apply below_alloc | apply pw_below_drewN | apply below_drew1) | exact HB.out)) hb); clear HO_5; clear HO336; clear HO341; clear HB; have HO_5 := n0_; have HO336 := n1_; have HO341 := n2_; have HB := n3_; clear n0_ n1_ n2_ n3_; (try clear hb); (try clear hb2); (try clear hk); (try clear hi)))
                          go_ret
                          exact ⟨by first | rfl | (simp [errW_none, errW_some] <;> rfl) | (simp [*, errW_none, errW_some] <;> rfl), by repeat (first | (with_reducible first | exact HB.out | apply below_alloc | apply pw_below_drewN | apply below_drew1) | exact HB.out)⟩
                        · rw [if_neg c47] at H
                          have c47b0 : (x6_2 == (l0.length : Int)) = false := beq_eq_false_iff_ne.mpr c47
                          have c47b1 : (x6_2 != (l0.length : Int)) = true := bne_iff_ne.mpr c47
                          exact absurd (Option.some.inj H) (by rw [HT.out]; decide)
                      · rw [if_neg c46] at H
                        have c46b0 : ((wrap64 ((t339.length : Int) - x6_2)) == 0) = false := beq_eq_false_iff_ne.mpr c46
                        have c46b1 : ((wrap64 ((t339.length : Int) - x6_2)) != 0) = true := bne_iff_ne.mpr c46
                        exact absurd (Option.some.inj H) (by rw [HT.out]; decide)
                    · rw [if_neg c45] at H
                      have c45b0 : (t338 == 4) = false := beq_eq_false_iff_ne.mpr c45
                      have c45b1 : (t338 != 4) = true := bne_iff_ne.mpr c45
                      exact absurd (Option.some.inj H) (by rw [HT.out]; decide)
                · rw [if_neg c36] at H
                  have c36b0 : (t338 == 0) = false := beq_eq_false_iff_ne.mpr c36
                  have c36b1 : (t338 != 0) = true := bne_iff_ne.mpr c36
                  by_cases c55 : t338 = 4
                  · rw [if_pos c55] at H
                    have c55b0 : (t338 == 4) = true := beq_iff_eq.mpr c55
                    have c55b1 : (t338 != 4) = false := bne_eq_false_iff_eq.mpr c55
                    clear c55
                    by_cases c56 : (wrap64 ((t339.length : Int) - x6_2)) = 0
                    · rw [if_pos c56] at H
                      have c56b0 : ((wrap64 ((t339.length : Int) - x6_2)) == 0) = true := beq_iff_eq.mpr c56
                      have c56b1 : ((wrap64 ((t339.length : Int) - x6_2)) != 0) = false := bne_eq_false_iff_eq.mpr c56
                      clear c56
                      by_cases c57 : x6_2 = (l0.length : Int)
                      · rw [if_pos c57] at H
                        have c57b0 : (x6_2 == (l0.length : Int)) = true := beq_iff_eq.mpr c57
                        have c57b1 : (x6_2 != (l0.length : Int)) = false := bne_eq_false_iff_eq.mpr c57
                        clear c57
                        replace H := Option.bind_eq_some_iff.mp H
                        obtain ⟨t344, A580, H⟩ := H
                        replace H : (some t344) = some r := H
                        have A58 := Aside0.mk A580
                        clear A580
                        obtain rfl := Option.some.inj H
                        go_wp2_with (first | ((with_reducible refine gate_callee (f := 26) rfl ?_); refine goesL_ (some 87) rfl rfl Try.func26 (by kernel_rfl) rfl #[.slice A0 l0.length c0, .int .i64 (wrap64 (a1))] rfl (by (try simp only [List.map_toArray, List.map_cons, List.map_nil]); first | done | rfl | (simp only [List.length_drop, List.length_take]; rfl)) ?_; (with_reducible refine (heap_Alloc.calls k2 (fun k_ => k_ < w.heap.size) _ _ l0 (wrap64 (a1)) t334 t337 t338 _ ?side1 A33.out).mono ?_); (case side1 => exact Kd.V_mk HC0.out (Kd.F_below (Kd.C_F k59_heap HR0.out) (by repeat (first | (with_reducible first | exact HB.out | apply below_alloc | apply pw_below_drewN | apply below_drew1) | exact HB.out)))); rintro e w59 ⟨v335, rfl, ho0, hb⟩; refine ⟨_, rfl, ?_⟩; have n0_ := Aside0.mk (Kd.R_below (by (with_reducible repeat (first | apply Kd.R_alloc | apply Kd.R_drewN | apply Kd.R_drew)); exact HO_5.out) hb); have n1_ := Aside0.mk (Kd.V_lower (Kd.V_mono (ok' := fun k_ => some k_ ≠ (v332 : Value).ownBlock) ho0 (fun k_ hk_ => Or.elim hk_ (fun hs_ => fun e_ => Nat.not_le.2 hs_ (Kd.R_base HO_5.out k_ e_.symm)) (fun hn_ => (Kd.fresh' (Kd.R_lt (by (with_reducible repeat (first | apply Kd.R_alloc | apply Kd.R_drewN | apply Kd.R_drew)); exact HO_5.out)) k_ hn_)))) (below_size (by repeat (first | (with_reducible first | exact HB.out | apply below_alloc | apply pw_below_drewN | apply below_drew1) | exact HB.out)))); have n2_ := Aside0.mk (below_step (by repeat (first | (with_reducible first | exact HB.out | apply below_alloc | apply pw_below_drewN | apply below_drew1) | exact HB.out)) hb); clear HO_5; clear HB; have HO_5 := n0_; have HO336 := n1_; have HB := n2_; clear n0_ n1_ n2_; (try clear hb); (try clear hb2); (try clear hk); (try clear hi); (try clear ho0); obtain ⟨Ao60, co60, eo60⟩ := Kd.V_slice HO336.out; subst eo60) | ((with_reducible refine gate_callee (f := 38) rfl ?_); refine goesL_ (some 92) rfl rfl Try.func38 (by kernel_rfl) rfl #[.slice Ao60 t334.length co60] rfl (by (try simp only [List.map_toArray, List.map_cons, List.map_nil]); first | done | rfl | (simp only [List.length_drop, List.length_take]; rfl)) ?_; (with_reducible refine (heap_Live.calls k2 _ _ t334 t339 _ ?side1 ?side2 A34.out).mono ?_); (case side1 => repeat (first | exact (Kd.V_reads' HO336.out).2.2 | (with_reducible refine Kd.C_alloc ?_ _) | (with_reducible refine Kd.C_drewN ?_ _) | (with_reducible refine Kd.C_drew ?_))); (case side2 => exact (Kd.V_reads' HO336.out).2.1); rintro e w61 ⟨v340, rfl, ho0, hb⟩; refine ⟨_, rfl, ?_⟩; have n0_ := Aside0.mk (Kd.R_elder' (by (with_reducible repeat (first | apply Kd.R_alloc | apply Kd.R_drewN | apply Kd.R_drew)); exact HO_5.out) (Kd.R_base ho0) hb); have n1_ := Aside0.mk (Kd.V_elder' (by (with_reducible repeat (first | apply Kd.V_alloc | apply Kd.V_drewN | apply Kd.V_drew)); exact HO336.out) (Kd.R_base ho0) hb); have n2_ := Aside0.mk (Kd.R_lower (Kd.R_new' ho0 (Kd.R_lt (by (with_reducible repeat (first | apply Kd.R_alloc | apply Kd.R_drewN | apply Kd.R_drew)); exact HO_5.out))) (below_size (by repeat (first | (with_reducible first | exact HB.out | apply below_alloc | apply pw_below_drewN | apply below_drew1) | exact HB.out)))); have n3_ := Aside0.mk (below_step (by repeat (first | (with_reducible first | exact HB.out | apply below_alloc | apply pw_below_drewN | apply below_drew1) | exact HB.out)) hb); clear HO_5; clear HO336; clear HB; have HO_5 := n0_; have HO336 := n1_; have HO341 := n2_; have HB := n3_; clear n0_ n1_ n2_ n3_; (try clear hb); (try clear hb2); (try clear hk); (try clear hi); (try clear ho0); obtain ⟨Ao62, co62, eo62⟩ := Kd.R_slice HO341.out; subst eo62; obtain ⟨Ao63, co63, eo63⟩ := Kd.R_slice HO_5.out; subst eo63) | (go_at_call 25; (with_reducible refine (handshakerlaw02_awake.calls k2  t344 _ A58.out).mono ?_); rintro e w64 ⟨rfl, hb⟩; have n0_ := Aside0.mk (Kd.R_below (by (with_reducible repeat (first | apply Kd.R_alloc | apply Kd.R_drewN | apply Kd.R_drew)); exact HO_5.out) hb); have n1_ := Aside0.mk (Kd.V_below (by (with_reducible repeat (first | apply Kd.V_alloc | apply Kd.V_drewN | apply Kd.V_drew)); exact HO336.out) hb); have n2_ := Aside0.mk (Kd.R_below (by (with_reducible repeat (first | apply Kd.R_alloc | apply Kd.R_drewN | apply Kd.R_drew)); exact HO341.out) hb); have n3_ := Aside0.mk (below_step (by repeat (first | (with_reducible first | exact HB.out | apply below_alloc | apply pw_below_drewN | apply below_drew1) | exact HB.out)) hb); clear HO_5; clear HO336; clear HO341; clear HB; have HO_5 := n0_; have HO336 := n1_; have HO341 := n2_; have HB := n3_; clear n0_ n1_ n2_ n3_; (try clear hb); (try clear hb2); (try clear hk); (try clear hi)))
                        go_ret
                        exact ⟨by first | rfl | (simp [errW_none, errW_some] <;> rfl) | (simp [*, errW_none, errW_some] <;> rfl), by repeat (first | (with_reducible first | exact HB.out | apply below_alloc | apply pw_below_drewN | apply below_drew1) | exact HB.out)⟩
                      · rw [if_neg c57] at H
                        have c57b0 : (x6_2 == (l0.length : Int)) = false := beq_eq_false_iff_ne.mpr c57
                        have c57b1 : (x6_2 != (l0.length : Int)) = true := bne_iff_ne.mpr c57
                        exact absurd (Option.some.inj H) (by rw [HT.out]; decide)
                    · rw [if_neg c56] at H
                      have c56b0 : ((wrap64 ((t339.length : Int) - x6_2)) == 0) = false := beq_eq_false_iff_ne.mpr c56
                      have c56b1 : ((wrap64 ((t339.length : Int) - x6_2)) != 0) = true := bne_iff_ne.mpr c56
                      exact absurd (Option.some.inj H) (by rw [HT.out]; decide)
                  · rw [if_neg c55] at H
                    have c55b0 : (t338 == 4) = false := beq_eq_false_iff_ne.mpr c55
                    have c55b1 : (t338 != 4) = true := bne_iff_ne.mpr c55
                    exact absurd (Option.some.inj H) (by rw [HT.out]; decide)
              · rw [if_neg c35] at H
                have c35b0 : (x6_2 == (t331.length : Int)) = false := beq_eq_false_iff_ne.mpr c35
                have c35b1 : (x6_2 != (t331.length : Int)) = true := bne_iff_ne.mpr c35
                exact absurd (Option.some.inj H) (by rw [HT.out]; decide)

/-- THE ONE PURE STATEMENT of handshakerlaw02_HeapLive. -/
def handshakerlaw02_HeapLive.Pure : Prop := ∀ (l0 : List (S59)) (a1 : Int), l0.length ≤ maxLen → l0.length * 16 ≤ 140737488351232 → (∀ y ∈ l0, wfS59 y) → (Lit.int .i32 a1).wf = true → ∃ k, handshakerlaw02_HeapLive.f k l0 a1 = some true

end Go.Proofs.Ytlfeohglfjnnhaa.Hp
