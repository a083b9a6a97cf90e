-- PRINTED by print.py (a twelfth state) out of the translation. Not trusted: Lean checks it.
import Derived.Test.YtlfeohglfjnnhaaHpx0
import Derived.Test.YtlfeohglfjnnhaaHpx2
import Derived.Test.YtlfeohglfjnnhaaHpx3
import Derived.Test.YtlfeohglfjnnhaaHpx4
import Derived.Test.YtlfeohglfjnnhaaHpx5
namespace Go.Proofs.Ytlfeohglfjnnhaa.Hp
open Go.Proofs.Ytlfeohglfjnnhaa.Ho
open Go.RowKit Go.Proofs.YtlfeohglfjnnhaaW.PrintWords Go.Proofs.YtlfeohglfjnnhaaW.PrintLast Go.Proofs.YtlfeohglfjnnhaaW.PrintMore
attribute [local go_sem] max2_int min2_int max_two min_two max_three min_three max_four min_four   -- for this text's walks alone
set_option linter.unusedVariables false
set_option linter.unusedSimpArgs false

/-! ### handshakerlaw02_HeapTells: function 9 -/
def handshakerlaw02_HeapTells.j0 : Nat → List (S59) → Int → Int → List (S62) → Bool → Option (Bool)
  | 0, _, _, _, _, _ => none
  | k + 1, x0, x1, x2, x3, x34 => if x34 = true then ((handshakerlaw02_awake.f k).bind fun t225 => (some t225)) else ((heap_Alloc.f k x0 x1).bind fun bt226 => ((handshakerref02_Alloc.f k x0 x1).bind fun bt231 => ((heap_Free.f x0 x2).bind fun bt236 => ((handshakerref02_Free.f k x0 x2).bind fun bt240 => ((heap_Get.f x0 x2).bind fun bt244 => ((handshakerref02_Get.f k x0 x2).bind fun bt246 => ((heap_Put.f k x0 x3).bind fun bt248 => ((handshakerref02_Put.f k x0 x3).bind fun bt252 => ((heap_Right.f x0).bind fun t256 => ((handshakerref02_Right.f k x0).bind fun t257 => (if t256 = true then (if t257 = true then ((handshakerref02_Same.f k bt226.1 bt231.1).bind fun t258 => (if t258 = true then (if bt226.2.1 = bt231.2.1 then (if bt226.2.2 = bt231.2.2 then ((handshakerref02_Same.f k bt236.1 bt240.1).bind fun t259 => (if t259 = true then (if bt236.2 = bt240.2 then (if bt244.1 = bt246.1 then (if bt244.2 = bt246.2 then ((handshakerref02_Same.f k bt248.1 bt252.1).bind fun t260 => (if t260 = true then (if bt248.2 = bt252.2 then ((handshakerlaw02_awake.f k).bind fun t261 => (some t261)) else (some false)) else (some false))) else (some false)) else (some false)) else (some false)) else (some false))) else (some false)) else (some false)) else (some false))) else (some false)) else (if t257 = true then (some false) else ((handshakerref02_Same.f k bt226.1 bt231.1).bind fun t262 => (if t262 = true then (if bt226.2.1 = bt231.2.1 then (if bt226.2.2 = bt231.2.2 then ((handshakerref02_Same.f k bt236.1 bt240.1).bind fun t263 => (if t263 = true then (if bt236.2 = bt240.2 then (if bt244.1 = bt246.1 then (if bt244.2 = bt246.2 then ((handshakerref02_Same.f k bt248.1 bt252.1).bind fun t264 => (if t264 = true then (if bt248.2 = bt252.2 then ((handshakerlaw02_awake.f k).bind fun t265 => (some t265)) else (some false)) else (some false))) else (some false)) else (some false)) else (some false)) else (some false))) else (some false)) else (some false)) else (some false)))))))))))))))
def handshakerlaw02_HeapTells.f (k : Nat) (l0 : List (S59)) (a1 : Int) (a2 : Int) (l3 : List (S62)) : Option (Bool) := if (l0.length : Int) > 100 then (handshakerlaw02_HeapTells.j0 k l0 a1 a2 l3 true) else (handshakerlaw02_HeapTells.j0 k l0 a1 a2 l3 (decide ((l3.length : Int) > 60)))
theorem handshakerlaw02_HeapTells.mono_l : ∀ k, (∀ y0 y1 y2 y3 y4, LeO (handshakerlaw02_HeapTells.j0 k y0 y1 y2 y3 y4) (handshakerlaw02_HeapTells.j0 (k + 1) y0 y1 y2 y3 y4))
  | 0 => fun _ _ _ _ _ r h => by simp [handshakerlaw02_HeapTells.j0] at h
  | k + 1 => by
    have ih0 := handshakerlaw02_HeapTells.mono_l k
    · intro y0 y1 y2 y3 y4
      unfold handshakerlaw02_HeapTells.j0
      repeat' first
      | (with_reducible exact ih0 _ _ _ _ _)
      | (with_reducible exact handshakerlaw02_awake.mono _)
      | (with_reducible exact handshakerref02_Alloc.mono _ _ _)
      | (with_reducible exact handshakerref02_Free.mono _ _ _)
      | (with_reducible exact handshakerref02_Get.mono _ _ _)
      | (with_reducible exact handshakerref02_Put.mono _ _ _)
      | (with_reducible exact handshakerref02_Right.mono _ _)
      | (with_reducible exact handshakerref02_Same.mono _ _ _)
      | (with_reducible exact heap_Alloc.mono _ _ _)
      | (with_reducible exact heap_Put.mono _ _ _)
      | (with_reducible exact LeO.refl _)
      | (with_reducible exact LeO.none _)
      | (with_reducible refine LeO.ite ?_ ?_)
      | (with_reducible refine LeO.bind ?_ (fun _ => ?_))
      | exact ih0 _ _ _ _ _
      | exact handshakerlaw02_awake.mono _
      | exact handshakerref02_Alloc.mono _ _ _
      | exact handshakerref02_Free.mono _ _ _
      | exact handshakerref02_Get.mono _ _ _
      | exact handshakerref02_Put.mono _ _ _
      | exact handshakerref02_Right.mono _ _
      | exact handshakerref02_Same.mono _ _ _
      | exact heap_Alloc.mono _ _ _
      | exact heap_Put.mono _ _ _
      | exact LeO.none _
      | refine LeO.ite ?_ ?_
      | refine LeO.bind ?_ (fun _ => ?_)
theorem handshakerlaw02_HeapTells.mono : ∀ a0 a1 a2 a3 k, LeO (handshakerlaw02_HeapTells.f k a0 a1 a2 a3) (handshakerlaw02_HeapTells.f (k + 1) a0 a1 a2 a3) := by
  intro a0 a1 a2 a3 k
  have ih0 := handshakerlaw02_HeapTells.mono_l k
  unfold handshakerlaw02_HeapTells.f
  repeat' first
      | (with_reducible exact ih0 _ _ _ _ _)
      | (with_reducible exact handshakerlaw02_awake.mono _)
      | (with_reducible exact handshakerref02_Alloc.mono _ _ _)
      | (with_reducible exact handshakerref02_Free.mono _ _ _)
      | (with_reducible exact handshakerref02_Get.mono _ _ _)
      | (with_reducible exact handshakerref02_Put.mono _ _ _)
      | (with_reducible exact handshakerref02_Right.mono _ _)
      | (with_reducible exact handshakerref02_Same.mono _ _ _)
      | (with_reducible exact heap_Alloc.mono _ _ _)
      | (with_reducible exact heap_Put.mono _ _ _)
      | (with_reducible exact LeO.refl _)
      | (with_reducible exact LeO.none _)
      | (with_reducible refine LeO.ite ?_ ?_)
      | (with_reducible refine LeO.bind ?_ (fun _ => ?_))
      | exact ih0 _ _ _ _ _
      | exact handshakerlaw02_awake.mono _
      | exact handshakerref02_Alloc.mono _ _ _
      | exact handshakerref02_Free.mono _ _ _
      | exact handshakerref02_Get.mono _ _ _
      | exact handshakerref02_Put.mono _ _ _
      | exact handshakerref02_Right.mono _ _
      | exact handshakerref02_Same.mono _ _ _
      | exact heap_Alloc.mono _ _ _
      | exact heap_Put.mono _ _ _
      | exact LeO.none _
      | refine LeO.ite ?_ ?_
      | refine LeO.bind ?_ (fun _ => ?_)
set_option maxHeartbeats 8000000 in
set_option maxRecDepth 100000 in
theorem handshakerlaw02_HeapTells.calls (k : Nat) (A0 : Option Addr) (c0 : Nat) (l0 : List (S59)) (a1 : Int) (a2 : Int) (A3 : Option Addr) (c3 : Nat) (l3 : List (S62)) (r : Bool) (w : World) (HT : Aside0 (r = true)) (hr0 : Kd.C k59 w A0 l0.length l0) (hc0 : l0.length ≤ c0) (hr3 : Kd.C k62 w A3 l3.length l3) (hc3 : l3.length ≤ c3) (h : handshakerlaw02_HeapTells.f k l0 a1 a2 l3 = some r) :
    Calls Try.prog 9 #[.slice A0 l0.length c0, .int .i64 a1, .int .i64 a2, .slice A3 l3.length c3] w fun e w' => e = .returned (.bool r) ∧ Below w.heap.size w w' := by
  have HR0 := Aside0.mk hr0
  have HC0 := Aside0.mk hc0
  clear hr0 hc0
  have HR3 := Aside0.mk hr3
  have HC3 := Aside0.mk hc3
  clear hr3 hc3
  have HB := Aside0.mk (Below.refl w.heap.size w)
  have H : (if (l0.length : Int) > 100 then (handshakerlaw02_HeapTells.j0 k l0 a1 a2 l3 true) else (handshakerlaw02_HeapTells.j0 k l0 a1 a2 l3 (decide ((l3.length : Int) > 60)))) = some r := h
  clear h
  have HC5 := Aside0.mk H
  clear H
  go_enter Try.func9, Try.ntmps9
  go_upto_region 1 with (fail)
  go_cut [34] (fun v34 wc => ∃ (kq : Nat) (x34_4 : Bool), v34 = .bool x34_4 ∧ Aside0 (handshakerlaw02_HeapTells.j0 kq l0 a1 a2 l3 x34_4 = some r) ∧ Aside0 (kq ≤ k) ∧ Aside0 (Below w.heap.size w wc))
  case first =>
    have H := HC5.out
    clear HC5
    by_cases c6 : (l0.length : Int) > 100
    · rw [if_pos c6] at H
      have c6b0 : decide (100 < (l0.length : Int)) = true := decide_eq_true c6
      have c6b1 : decide (100 < l0.length) = true := decide_eq_true (by omega)
      clear c6
      (first | rw [c6b0] | (simp only [i64_w, i32_w]; rw [c6b0]) | skip)
      have H' := Aside0.mk H
      clear H
      go_wp2
      go_meet
      case rel => exact ⟨_, (true), (by first | rfl | (simp; done) | (simp [*]; done)), H', ⟨by first | omega | exact Nat.le_refl _⟩, ⟨by repeat (first | (with_reducible first | exact HB.out | apply below_alloc | apply pw_below_drewN | apply below_drew1) | exact HB.out)⟩⟩
    · rw [if_neg c6] at H
      have c6b0 : decide (100 < (l0.length : Int)) = false := decide_eq_false c6
      have c6b1 : decide (100 < l0.length) = false := decide_eq_false (by omega)
      clear c6
      (first | rw [c6b0] | (simp only [i64_w, i32_w]; rw [c6b0]) | skip)
      have H' := Aside0.mk H
      clear H
      go_wp2
      go_meet
      case rel => exact ⟨_, (decide ((l3.length : Int) > 60)), (by first | rfl | (simp; done) | (simp [*]; done)), H', ⟨by first | omega | exact Nat.le_refl _⟩, ⟨by repeat (first | (with_reducible first | exact HB.out | apply below_alloc | apply pw_below_drewN | apply below_drew1) | exact HB.out)⟩⟩
  case rest =>
    clear HC5
    try clear p2
    try clear c3
    try clear c6
    try clear c6b0
    try clear c6b1
    obtain ⟨kq, x34_4, rfl, HA, HJ4, HB⟩ := hcut
    cases kq with
    | zero => exact absurd HA.out (by simp [handshakerlaw02_HeapTells.j0])
    | succ kj4 =>
      have H := HA.out
      clear HA
      simp only [handshakerlaw02_HeapTells.j0] at H
      by_cases c7 : x34_4 = true
      · subst c7
        have H1 : ((handshakerlaw02_awake.f kj4).bind fun t225 => (some t225)) = some r := by rw [if_pos rfl] at H; exact H
        clear H
        have H := H1
        clear H1
        replace H := Option.bind_eq_some_iff.mp H
        obtain ⟨t225, A80, H⟩ := H
        replace H : (some t225) = some r := H
        have A8 := Aside0.mk A80
        clear A80
        obtain rfl := Option.some.inj H
        go_wp2_with (first | ((with_reducible refine gate_callee (f := 25) rfl ?_); refine goesL_ (some 35) rfl rfl Try.func25 (by kernel_rfl) rfl #[] rfl (by (try simp only [List.map_toArray, List.map_cons, List.map_nil]); first | done | rfl | (simp only [List.length_drop, List.length_take]; rfl)) ?_; (with_reducible refine (handshakerlaw02_awake.calls kj4  t225 _ A8.out).mono ?_); rintro e w9 ⟨rfl, hb⟩; refine ⟨_, rfl, ?_⟩; have n0_ := Aside0.mk (below_step (by repeat (first | (with_reducible first | exact HB.out | apply below_alloc | apply pw_below_drewN | apply below_drew1) | exact HB.out)) hb); clear HB; have HB := n0_; clear n0_; (try clear hb); (try clear hb2); (try clear hk); (try clear hi)))
        go_ret
        exact ⟨by first | rfl | (simp [errW_none, errW_some] <;> rfl) | (simp [*, errW_none, errW_some] <;> rfl), by repeat (first | (with_reducible first | exact HB.out | apply below_alloc | apply pw_below_drewN | apply below_drew1) | exact HB.out)⟩
      · replace c7 := Bool.eq_false_iff.mpr c7
        subst c7
        have H1 : ((heap_Alloc.f kj4 l0 a1).bind fun bt226 => ((handshakerref02_Alloc.f kj4 l0 a1).bind fun bt231 => ((heap_Free.f l0 a2).bind fun bt236 => ((handshakerref02_Free.f kj4 l0 a2).bind fun bt240 => ((heap_Get.f l0 a2).bind fun bt244 => ((handshakerref02_Get.f kj4 l0 a2).bind fun bt246 => ((heap_Put.f kj4 l0 l3).bind fun bt248 => ((handshakerref02_Put.f kj4 l0 l3).bind fun bt252 => ((heap_Right.f l0).bind fun t256 => ((handshakerref02_Right.f kj4 l0).bind fun t257 => (if t256 = true then (if t257 = true then ((handshakerref02_Same.f kj4 bt226.1 bt231.1).bind fun t258 => (if t258 = true then (if bt226.2.1 = bt231.2.1 then (if bt226.2.2 = bt231.2.2 then ((handshakerref02_Same.f kj4 bt236.1 bt240.1).bind fun t259 => (if t259 = true then (if bt236.2 = bt240.2 then (if bt244.1 = bt246.1 then (if bt244.2 = bt246.2 then ((handshakerref02_Same.f kj4 bt248.1 bt252.1).bind fun t260 => (if t260 = true then (if bt248.2 = bt252.2 then ((handshakerlaw02_awake.f kj4).bind fun t261 => (some t261)) else (some false)) else (some false))) else (some false)) else (some false)) else (some false)) else (some false))) else (some false)) else (some false)) else (some false))) else (some false)) else (if t257 = true then (some false) else ((handshakerref02_Same.f kj4 bt226.1 bt231.1).bind fun t262 => (if t262 = true then (if bt226.2.1 = bt231.2.1 then (if bt226.2.2 = bt231.2.2 then ((handshakerref02_Same.f kj4 bt236.1 bt240.1).bind fun t263 => (if t263 = true then (if bt236.2 = bt240.2 then (if bt244.1 = bt246.1 then (if bt244.2 = bt246.2 then ((handshakerref02_Same.f kj4 bt248.1 bt252.1).bind fun t264 => (if t264 = true then (if bt248.2 = bt252.2 then ((handshakerlaw02_awake.f kj4).bind fun t265 => (some t265)) else (some false)) else (some false))) else (some false)) else (some false)) else (some false)) else (some false))) else (some false)) else (some false)) else (some false))))))))))))))) = some r := by rw [if_neg (show ¬ (false = true) by decide)] at H; exact H
        clear H
        have H := H1
        clear H1
        replace H := Option.bind_eq_some_iff.mp H
        obtain ⟨⟨t226, t229, t230⟩, A100, H⟩ := H
        replace H : ((handshakerref02_Alloc.f kj4 l0 a1).bind fun bt231 => ((heap_Free.f l0 a2).bind fun bt236 => ((handshakerref02_Free.f kj4 l0 a2).bind fun bt240 => ((heap_Get.f l0 a2).bind fun bt244 => ((handshakerref02_Get.f kj4 l0 a2).bind fun bt246 => ((heap_Put.f kj4 l0 l3).bind fun bt248 => ((handshakerref02_Put.f kj4 l0 l3).bind fun bt252 => ((heap_Right.f l0).bind fun t256 => ((handshakerref02_Right.f kj4 l0).bind fun t257 => (if t256 = true then (if t257 = true then ((handshakerref02_Same.f kj4 t226 bt231.1).bind fun t258 => (if t258 = true then (if t229 = bt231.2.1 then (if t230 = bt231.2.2 then ((handshakerref02_Same.f kj4 bt236.1 bt240.1).bind fun t259 => (if t259 = true then (if bt236.2 = bt240.2 then (if bt244.1 = bt246.1 then (if bt244.2 = bt246.2 then ((handshakerref02_Same.f kj4 bt248.1 bt252.1).bind fun t260 => (if t260 = true then (if bt248.2 = bt252.2 then ((handshakerlaw02_awake.f kj4).bind fun t261 => (some t261)) else (some false)) else (some false))) else (some false)) else (some false)) else (some false)) else (some false))) else (some false)) else (some false)) else (some false))) else (some false)) else (if t257 = true then (some false) else ((handshakerref02_Same.f kj4 t226 bt231.1).bind fun t262 => (if t262 = true then (if t229 = bt231.2.1 then (if t230 = bt231.2.2 then ((handshakerref02_Same.f kj4 bt236.1 bt240.1).bind fun t263 => (if t263 = true then (if bt236.2 = bt240.2 then (if bt244.1 = bt246.1 then (if bt244.2 = bt246.2 then ((handshakerref02_Same.f kj4 bt248.1 bt252.1).bind fun t264 => (if t264 = true then (if bt248.2 = bt252.2 then ((handshakerlaw02_awake.f kj4).bind fun t265 => (some t265)) else (some false)) else (some false))) else (some false)) else (some false)) else (some false)) else (some false))) else (some false)) else (some false)) else (some false)))))))))))))) = some r := H
        have A10 := Aside0.mk A100
        clear A100
        replace H := Option.bind_eq_some_iff.mp H
        obtain ⟨⟨t231, t234, t235⟩, A110, H⟩ := H
        replace H : ((heap_Free.f l0 a2).bind fun bt236 => ((handshakerref02_Free.f kj4 l0 a2).bind fun bt240 => ((heap_Get.f l0 a2).bind fun bt244 => ((handshakerref02_Get.f kj4 l0 a2).bind fun bt246 => ((heap_Put.f kj4 l0 l3).bind fun bt248 => ((handshakerref02_Put.f kj4 l0 l3).bind fun bt252 => ((heap_Right.f l0).bind fun t256 => ((handshakerref02_Right.f kj4 l0).bind fun t257 => (if t256 = true then (if t257 = true then ((handshakerref02_Same.f kj4 t226 t231).bind fun t258 => (if t258 = true then (if t229 = t234 then (if t230 = t235 then ((handshakerref02_Same.f kj4 bt236.1 bt240.1).bind fun t259 => (if t259 = true then (if bt236.2 = bt240.2 then (if bt244.1 = bt246.1 then (if bt244.2 = bt246.2 then ((handshakerref02_Same.f kj4 bt248.1 bt252.1).bind fun t260 => (if t260 = true then (if bt248.2 = bt252.2 then ((handshakerlaw02_awake.f kj4).bind fun t261 => (some t261)) else (some false)) else (some false))) else (some false)) else (some false)) else (some false)) else (some false))) else (some false)) else (some false)) else (some false))) else (some false)) else (if t257 = true then (some false) else ((handshakerref02_Same.f kj4 t226 t231).bind fun t262 => (if t262 = true then (if t229 = t234 then (if t230 = t235 then ((handshakerref02_Same.f kj4 bt236.1 bt240.1).bind fun t263 => (if t263 = true then (if bt236.2 = bt240.2 then (if bt244.1 = bt246.1 then (if bt244.2 = bt246.2 then ((handshakerref02_Same.f kj4 bt248.1 bt252.1).bind fun t264 => (if t264 = true then (if bt248.2 = bt252.2 then ((handshakerlaw02_awake.f kj4).bind fun t265 => (some t265)) else (some false)) else (some false))) else (some false)) else (some false)) else (some false)) else (some false))) else (some false)) else (some false)) else (some false))))))))))))) = some r := H
        have A11 := Aside0.mk A110
        clear A110
        replace H := Option.bind_eq_some_iff.mp H
        obtain ⟨⟨t236, t239⟩, A120, H⟩ := H
        replace H : ((handshakerref02_Free.f kj4 l0 a2).bind fun bt240 => ((heap_Get.f l0 a2).bind fun bt244 => ((handshakerref02_Get.f kj4 l0 a2).bind fun bt246 => ((heap_Put.f kj4 l0 l3).bind fun bt248 => ((handshakerref02_Put.f kj4 l0 l3).bind fun bt252 => ((heap_Right.f l0).bind fun t256 => ((handshakerref02_Right.f kj4 l0).bind fun t257 => (if t256 = true then (if t257 = true then ((handshakerref02_Same.f kj4 t226 t231).bind fun t258 => (if t258 = true then (if t229 = t234 then (if t230 = t235 then ((handshakerref02_Same.f kj4 t236 bt240.1).bind fun t259 => (if t259 = true then (if t239 = bt240.2 then (if bt244.1 = bt246.1 then (if bt244.2 = bt246.2 then ((handshakerref02_Same.f kj4 bt248.1 bt252.1).bind fun t260 => (if t260 = true then (if bt248.2 = bt252.2 then ((handshakerlaw02_awake.f kj4).bind fun t261 => (some t261)) else (some false)) else (some false))) else (some false)) else (some false)) else (some false)) else (some false))) else (some false)) else (some false)) else (some false))) else (some false)) else (if t257 = true then (some false) else ((handshakerref02_Same.f kj4 t226 t231).bind fun t262 => (if t262 = true then (if t229 = t234 then (if t230 = t235 then ((handshakerref02_Same.f kj4 t236 bt240.1).bind fun t263 => (if t263 = true then (if t239 = bt240.2 then (if bt244.1 = bt246.1 then (if bt244.2 = bt246.2 then ((handshakerref02_Same.f kj4 bt248.1 bt252.1).bind fun t264 => (if t264 = true then (if bt248.2 = bt252.2 then ((handshakerlaw02_awake.f kj4).bind fun t265 => (some t265)) else (some false)) else (some false))) else (some false)) else (some false)) else (some false)) else (some false))) else (some false)) else (some false)) else (some false)))))))))))) = some r := H
        have A12 := Aside0.mk A120
        clear A120
        replace H := Option.bind_eq_some_iff.mp H
        obtain ⟨⟨t240, t243⟩, A130, H⟩ := H
        replace H : ((heap_Get.f l0 a2).bind fun bt244 => ((handshakerref02_Get.f kj4 l0 a2).bind fun bt246 => ((heap_Put.f kj4 l0 l3).bind fun bt248 => ((handshakerref02_Put.f kj4 l0 l3).bind fun bt252 => ((heap_Right.f l0).bind fun t256 => ((handshakerref02_Right.f kj4 l0).bind fun t257 => (if t256 = true then (if t257 = true then ((handshakerref02_Same.f kj4 t226 t231).bind fun t258 => (if t258 = true then (if t229 = t234 then (if t230 = t235 then ((handshakerref02_Same.f kj4 t236 t240).bind fun t259 => (if t259 = true then (if t239 = t243 then (if bt244.1 = bt246.1 then (if bt244.2 = bt246.2 then ((handshakerref02_Same.f kj4 bt248.1 bt252.1).bind fun t260 => (if t260 = true then (if bt248.2 = bt252.2 then ((handshakerlaw02_awake.f kj4).bind fun t261 => (some t261)) else (some false)) else (some false))) else (some false)) else (some false)) else (some false)) else (some false))) else (some false)) else (some false)) else (some false))) else (some false)) else (if t257 = true then (some false) else ((handshakerref02_Same.f kj4 t226 t231).bind fun t262 => (if t262 = true then (if t229 = t234 then (if t230 = t235 then ((handshakerref02_Same.f kj4 t236 t240).bind fun t263 => (if t263 = true then (if t239 = t243 then (if bt244.1 = bt246.1 then (if bt244.2 = bt246.2 then ((handshakerref02_Same.f kj4 bt248.1 bt252.1).bind fun t264 => (if t264 = true then (if bt248.2 = bt252.2 then ((handshakerlaw02_awake.f kj4).bind fun t265 => (some t265)) else (some false)) else (some false))) else (some false)) else (some false)) else (some false)) else (some false))) else (some false)) else (some false)) else (some false))))))))))) = some r := H
        have A13 := Aside0.mk A130
        clear A130
        replace H := Option.bind_eq_some_iff.mp H
        obtain ⟨⟨t244, t245⟩, A140, H⟩ := H
        replace H : ((handshakerref02_Get.f kj4 l0 a2).bind fun bt246 => ((heap_Put.f kj4 l0 l3).bind fun bt248 => ((handshakerref02_Put.f kj4 l0 l3).bind fun bt252 => ((heap_Right.f l0).bind fun t256 => ((handshakerref02_Right.f kj4 l0).bind fun t257 => (if t256 = true then (if t257 = true then ((handshakerref02_Same.f kj4 t226 t231).bind fun t258 => (if t258 = true then (if t229 = t234 then (if t230 = t235 then ((handshakerref02_Same.f kj4 t236 t240).bind fun t259 => (if t259 = true then (if t239 = t243 then (if t244 = bt246.1 then (if t245 = bt246.2 then ((handshakerref02_Same.f kj4 bt248.1 bt252.1).bind fun t260 => (if t260 = true then (if bt248.2 = bt252.2 then ((handshakerlaw02_awake.f kj4).bind fun t261 => (some t261)) else (some false)) else (some false))) else (some false)) else (some false)) else (some false)) else (some false))) else (some false)) else (some false)) else (some false))) else (some false)) else (if t257 = true then (some false) else ((handshakerref02_Same.f kj4 t226 t231).bind fun t262 => (if t262 = true then (if t229 = t234 then (if t230 = t235 then ((handshakerref02_Same.f kj4 t236 t240).bind fun t263 => (if t263 = true then (if t239 = t243 then (if t244 = bt246.1 then (if t245 = bt246.2 then ((handshakerref02_Same.f kj4 bt248.1 bt252.1).bind fun t264 => (if t264 = true then (if bt248.2 = bt252.2 then ((handshakerlaw02_awake.f kj4).bind fun t265 => (some t265)) else (some false)) else (some false))) else (some false)) else (some false)) else (some false)) else (some false))) else (some false)) else (some false)) else (some false)))))))))) = some r := H
        have A14 := Aside0.mk A140
        clear A140
        replace H := Option.bind_eq_some_iff.mp H
        obtain ⟨⟨t246, t247⟩, A150, H⟩ := H
        replace H : ((heap_Put.f kj4 l0 l3).bind fun bt248 => ((handshakerref02_Put.f kj4 l0 l3).bind fun bt252 => ((heap_Right.f l0).bind fun t256 => ((handshakerref02_Right.f kj4 l0).bind fun t257 => (if t256 = true then (if t257 = true then ((handshakerref02_Same.f kj4 t226 t231).bind fun t258 => (if t258 = true then (if t229 = t234 then (if t230 = t235 then ((handshakerref02_Same.f kj4 t236 t240).bind fun t259 => (if t259 = true then (if t239 = t243 then (if t244 = t246 then (if t245 = t247 then ((handshakerref02_Same.f kj4 bt248.1 bt252.1).bind fun t260 => (if t260 = true then (if bt248.2 = bt252.2 then ((handshakerlaw02_awake.f kj4).bind fun t261 => (some t261)) else (some false)) else (some false))) else (some false)) else (some false)) else (some false)) else (some false))) else (some false)) else (some false)) else (some false))) else (some false)) else (if t257 = true then (some false) else ((handshakerref02_Same.f kj4 t226 t231).bind fun t262 => (if t262 = true then (if t229 = t234 then (if t230 = t235 then ((handshakerref02_Same.f kj4 t236 t240).bind fun t263 => (if t263 = true then (if t239 = t243 then (if t244 = t246 then (if t245 = t247 then ((handshakerref02_Same.f kj4 bt248.1 bt252.1).bind fun t264 => (if t264 = true then (if bt248.2 = bt252.2 then ((handshakerlaw02_awake.f kj4).bind fun t265 => (some t265)) else (some false)) else (some false))) else (some false)) else (some false)) else (some false)) else (some false))) else (some false)) else (some false)) else (some false))))))))) = some r := H
        have A15 := Aside0.mk A150
        clear A150
        replace H := Option.bind_eq_some_iff.mp H
        obtain ⟨⟨t248, t251⟩, A160, H⟩ := H
        replace H : ((handshakerref02_Put.f kj4 l0 l3).bind fun bt252 => ((heap_Right.f l0).bind fun t256 => ((handshakerref02_Right.f kj4 l0).bind fun t257 => (if t256 = true then (if t257 = true then ((handshakerref02_Same.f kj4 t226 t231).bind fun t258 => (if t258 = true then (if t229 = t234 then (if t230 = t235 then ((handshakerref02_Same.f kj4 t236 t240).bind fun t259 => (if t259 = true then (if t239 = t243 then (if t244 = t246 then (if t245 = t247 then ((handshakerref02_Same.f kj4 t248 bt252.1).bind fun t260 => (if t260 = true then (if t251 = bt252.2 then ((handshakerlaw02_awake.f kj4).bind fun t261 => (some t261)) else (some false)) else (some false))) else (some false)) else (some false)) else (some false)) else (some false))) else (some false)) else (some false)) else (some false))) else (some false)) else (if t257 = true then (some false) else ((handshakerref02_Same.f kj4 t226 t231).bind fun t262 => (if t262 = true then (if t229 = t234 then (if t230 = t235 then ((handshakerref02_Same.f kj4 t236 t240).bind fun t263 => (if t263 = true then (if t239 = t243 then (if t244 = t246 then (if t245 = t247 then ((handshakerref02_Same.f kj4 t248 bt252.1).bind fun t264 => (if t264 = true then (if t251 = bt252.2 then ((handshakerlaw02_awake.f kj4).bind fun t265 => (some t265)) else (some false)) else (some false))) else (some false)) else (some false)) else (some false)) else (some false))) else (some false)) else (some false)) else (some false)))))))) = some r := H
        have A16 := Aside0.mk A160
        clear A160
        replace H := Option.bind_eq_some_iff.mp H
        obtain ⟨⟨t252, t255⟩, A170, H⟩ := H
        replace H : ((heap_Right.f l0).bind fun t256 => ((handshakerref02_Right.f kj4 l0).bind fun t257 => (if t256 = true then (if t257 = true then ((handshakerref02_Same.f kj4 t226 t231).bind fun t258 => (if t258 = true then (if t229 = t234 then (if t230 = t235 then ((handshakerref02_Same.f kj4 t236 t240).bind fun t259 => (if t259 = true then (if t239 = t243 then (if t244 = t246 then (if t245 = t247 then ((handshakerref02_Same.f kj4 t248 t252).bind fun t260 => (if t260 = true then (if t251 = t255 then ((handshakerlaw02_awake.f kj4).bind fun t261 => (some t261)) else (some false)) else (some false))) else (some false)) else (some false)) else (some false)) else (some false))) else (some false)) else (some false)) else (some false))) else (some false)) else (if t257 = true then (some false) else ((handshakerref02_Same.f kj4 t226 t231).bind fun t262 => (if t262 = true then (if t229 = t234 then (if t230 = t235 then ((handshakerref02_Same.f kj4 t236 t240).bind fun t263 => (if t263 = true then (if t239 = t243 then (if t244 = t246 then (if t245 = t247 then ((handshakerref02_Same.f kj4 t248 t252).bind fun t264 => (if t264 = true then (if t251 = t255 then ((handshakerlaw02_awake.f kj4).bind fun t265 => (some t265)) else (some false)) else (some false))) else (some false)) else (some false)) else (some false)) else (some false))) else (some false)) else (some false)) else (some false))))))) = some r := H
        have A17 := Aside0.mk A170
        clear A170
        replace H := Option.bind_eq_some_iff.mp H
        obtain ⟨t256, A180, H⟩ := H
        replace H : ((handshakerref02_Right.f kj4 l0).bind fun t257 => (if t256 = true then (if t257 = true then ((handshakerref02_Same.f kj4 t226 t231).bind fun t258 => (if t258 = true then (if t229 = t234 then (if t230 = t235 then ((handshakerref02_Same.f kj4 t236 t240).bind fun t259 => (if t259 = true then (if t239 = t243 then (if t244 = t246 then (if t245 = t247 then ((handshakerref02_Same.f kj4 t248 t252).bind fun t260 => (if t260 = true then (if t251 = t255 then ((handshakerlaw02_awake.f kj4).bind fun t261 => (some t261)) else (some false)) else (some false))) else (some false)) else (some false)) else (some false)) else (some false))) else (some false)) else (some false)) else (some false))) else (some false)) else (if t257 = true then (some false) else ((handshakerref02_Same.f kj4 t226 t231).bind fun t262 => (if t262 = true then (if t229 = t234 then (if t230 = t235 then ((handshakerref02_Same.f kj4 t236 t240).bind fun t263 => (if t263 = true then (if t239 = t243 then (if t244 = t246 then (if t245 = t247 then ((handshakerref02_Same.f kj4 t248 t252).bind fun t264 => (if t264 = true then (if t251 = t255 then ((handshakerlaw02_awake.f kj4).bind fun t265 => (some t265)) else (some false)) else (some false))) else (some false)) else (some false)) else (some false)) else (some false))) else (some false)) else (some false)) else (some false)))))) = some r := H
        have A18 := Aside0.mk A180
        clear A180
        replace H := Option.bind_eq_some_iff.mp H
        obtain ⟨t257, A190, H⟩ := H
        replace H : (if t256 = true then (if t257 = true then ((handshakerref02_Same.f kj4 t226 t231).bind fun t258 => (if t258 = true then (if t229 = t234 then (if t230 = t235 then ((handshakerref02_Same.f kj4 t236 t240).bind fun t259 => (if t259 = true then (if t239 = t243 then (if t244 = t246 then (if t245 = t247 then ((handshakerref02_Same.f kj4 t248 t252).bind fun t260 => (if t260 = true then (if t251 = t255 then ((handshakerlaw02_awake.f kj4).bind fun t261 => (some t261)) else (some false)) else (some false))) else (some false)) else (some false)) else (some false)) else (some false))) else (some false)) else (some false)) else (some false))) else (some false)) else (if t257 = true then (some false) else ((handshakerref02_Same.f kj4 t226 t231).bind fun t262 => (if t262 = true then (if t229 = t234 then (if t230 = t235 then ((handshakerref02_Same.f kj4 t236 t240).bind fun t263 => (if t263 = true then (if t239 = t243 then (if t244 = t246 then (if t245 = t247 then ((handshakerref02_Same.f kj4 t248 t252).bind fun t264 => (if t264 = true then (if t251 = t255 then ((handshakerlaw02_awake.f kj4).bind fun t265 => (some t265)) else (some false)) else (some false))) else (some false)) else (some false)) else (some false)) else (some false))) else (some false)) else (some false)) else (some false))))) = some r := H
        have A19 := Aside0.mk A190
        clear A190
        by_cases c20 : t256 = true
        · subst c20
          have H1 : (if t257 = true then ((handshakerref02_Same.f kj4 t226 t231).bind fun t258 => (if t258 = true then (if t229 = t234 then (if t230 = t235 then ((handshakerref02_Same.f kj4 t236 t240).bind fun t259 => (if t259 = true then (if t239 = t243 then (if t244 = t246 then (if t245 = t247 then ((handshakerref02_Same.f kj4 t248 t252).bind fun t260 => (if t260 = true then (if t251 = t255 then ((handshakerlaw02_awake.f kj4).bind fun t261 => (some t261)) else (some false)) else (some false))) else (some false)) else (some false)) else (some false)) else (some false))) else (some false)) else (some false)) else (some false))) else (some false)) = some r := by rw [if_pos rfl] at H; exact H
          clear H
          have H := H1
          clear H1
          by_cases c21 : t257 = true
          · subst c21
            have H1 : ((handshakerref02_Same.f kj4 t226 t231).bind fun t258 => (if t258 = true then (if t229 = t234 then (if t230 = t235 then ((handshakerref02_Same.f kj4 t236 t240).bind fun t259 => (if t259 = true then (if t239 = t243 then (if t244 = t246 then (if t245 = t247 then ((handshakerref02_Same.f kj4 t248 t252).bind fun t260 => (if t260 = true then (if t251 = t255 then ((handshakerlaw02_awake.f kj4).bind fun t261 => (some t261)) else (some false)) else (some false))) else (some false)) else (some false)) else (some false)) else (some false))) else (some false)) else (some false)) else (some false))) = some r := by rw [if_pos rfl] at H; exact H
            clear H
            have H := H1
            clear H1
            replace H := Option.bind_eq_some_iff.mp H
            obtain ⟨t258, A220, H⟩ := H
            replace H : (if t258 = true then (if t229 = t234 then (if t230 = t235 then ((handshakerref02_Same.f kj4 t236 t240).bind fun t259 => (if t259 = true then (if t239 = t243 then (if t244 = t246 then (if t245 = t247 then ((handshakerref02_Same.f kj4 t248 t252).bind fun t260 => (if t260 = true then (if t251 = t255 then ((handshakerlaw02_awake.f kj4).bind fun t261 => (some t261)) else (some false)) else (some false))) else (some false)) else (some false)) else (some false)) else (some false))) else (some false)) else (some false)) else (some false)) = some r := H
            have A22 := Aside0.mk A220
            clear A220
            by_cases c23 : t258 = true
            · subst c23
              have H1 : (if t229 = t234 then (if t230 = t235 then ((handshakerref02_Same.f kj4 t236 t240).bind fun t259 => (if t259 = true then (if t239 = t243 then (if t244 = t246 then (if t245 = t247 then ((handshakerref02_Same.f kj4 t248 t252).bind fun t260 => (if t260 = true then (if t251 = t255 then ((handshakerlaw02_awake.f kj4).bind fun t261 => (some t261)) else (some false)) else (some false))) else (some false)) else (some false)) else (some false)) else (some false))) else (some false)) else (some false)) = some r := by rw [if_pos rfl] at H; exact H
              clear H
              have H := H1
              clear H1
              by_cases c24 : t229 = t234
              · rw [if_pos c24] at H
                have c24b0 : (t229 == t234) = true := beq_iff_eq.mpr c24
                have c24b1 : (t229 != t234) = false := bne_eq_false_iff_eq.mpr c24
                clear c24
                by_cases c25 : t230 = t235
                · rw [if_pos c25] at H
                  have c25b0 : (t230 == t235) = true := beq_iff_eq.mpr c25
                  have c25b1 : (t230 != t235) = false := bne_eq_false_iff_eq.mpr c25
                  clear c25
                  replace H := Option.bind_eq_some_iff.mp H
                  obtain ⟨t259, A260, H⟩ := H
                  replace H : (if t259 = true then (if t239 = t243 then (if t244 = t246 then (if t245 = t247 then ((handshakerref02_Same.f kj4 t248 t252).bind fun t260 => (if t260 = true then (if t251 = t255 then ((handshakerlaw02_awake.f kj4).bind fun t261 => (some t261)) else (some false)) else (some false))) else (some false)) else (some false)) else (some false)) else (some false)) = some r := H
                  have A26 := Aside0.mk A260
                  clear A260
                  by_cases c27 : t259 = true
                  · subst c27
                    have H1 : (if t239 = t243 then (if t244 = t246 then (if t245 = t247 then ((handshakerref02_Same.f kj4 t248 t252).bind fun t260 => (if t260 = true then (if t251 = t255 then ((handshakerlaw02_awake.f kj4).bind fun t261 => (some t261)) else (some false)) else (some false))) else (some false)) else (some false)) else (some false)) = some r := by rw [if_pos rfl] at H; exact H
                    clear H
                    have H := H1
                    clear H1
                    by_cases c28 : t239 = t243
                    · rw [if_pos c28] at H
                      have c28b0 : (t239 == t243) = true := beq_iff_eq.mpr c28
                      have c28b1 : (t239 != t243) = false := bne_eq_false_iff_eq.mpr c28
                      clear c28
                      by_cases c29 : t244 = t246
                      · rw [if_pos c29] at H
                        have c29b0 : (t244 == t246) = true := beq_iff_eq.mpr c29
                        have c29b1 : (t244 != t246) = false := bne_eq_false_iff_eq.mpr c29
                        clear c29
                        by_cases c30 : t245 = t247
                        · rw [if_pos c30] at H
                          have c30b0 : (t245 == t247) = true := beq_iff_eq.mpr c30
                          have c30b1 : (t245 != t247) = false := bne_eq_false_iff_eq.mpr c30
                          clear c30
                          replace H := Option.bind_eq_some_iff.mp H
                          obtain ⟨t260, A310, H⟩ := H
                          replace H : (if t260 = true then (if t251 = t255 then ((handshakerlaw02_awake.f kj4).bind fun t261 => (some t261)) else (some false)) else (some false)) = some r := H
                          have A31 := Aside0.mk A310
                          clear A310
                          by_cases c32 : t260 = true
                          · subst c32
                            have H1 : (if t251 = t255 then ((handshakerlaw02_awake.f kj4).bind fun t261 => (some t261)) else (some false)) = some r := by rw [if_pos rfl] at H; exact H
                            clear H
                            have H := H1
                            clear H1
                            by_cases c33 : t251 = t255
                            · rw [if_pos c33] at H
                              have c33b0 : (t251 == t255) = true := beq_iff_eq.mpr c33
                              have c33b1 : (t251 != t255) = false := bne_eq_false_iff_eq.mpr c33
                              clear c33
                              replace H := Option.bind_eq_some_iff.mp H
                              obtain ⟨t261, A340, H⟩ := H
                              replace H : (some t261) = some r := H
                              have A34 := Aside0.mk A340
                              clear A340
                              obtain rfl := Option.some.inj H
                              go_wp2_with (first | ((with_reducible refine gate_callee (f := 26) rfl ?_); refine goesL_ (some 39) rfl rfl Try.func26 (by kernel_rfl) rfl #[.slice A0 l0.length c0, .int .i64 a1] rfl (by (try simp only [List.map_toArray, List.map_cons, List.map_nil]); first | done | rfl | (simp only [List.length_drop, List.length_take]; rfl)) ?_; (with_reducible refine (heap_Alloc.calls kj4 (fun k_ => k_ < w.heap.size) _ _ l0 a1 t226 t229 t230 _ ?side1 A10.out).mono ?_); (case side1 => exact Kd.V_mk HC0.out (Kd.F_below (Kd.C_F k59_heap HR0.out) (by repeat (first | (with_reducible first | exact HB.out | apply below_alloc | apply pw_below_drewN | apply below_drew1) | exact HB.out)))); rintro e w35 ⟨v227, rfl, ho0, hb⟩; refine ⟨_, rfl, ?_⟩; have n0_ := Aside0.mk (Kd.V_lower (Kd.V_mono (ok' := fun k_ => True) ho0 (fun k_ hk_ => trivial)) (below_size (by repeat (first | (with_reducible first | exact HB.out | apply below_alloc | apply pw_below_drewN | apply below_drew1) | exact HB.out)))); have n1_ := Aside0.mk (below_step (by repeat (first | (with_reducible first | exact HB.out | apply below_alloc | apply pw_below_drewN | apply below_drew1) | exact HB.out)) hb); clear HB; have HO228 := n0_; have HB := n1_; clear n0_ n1_; (try clear hb); (try clear hb2); (try clear hk); (try clear hi); (try clear ho0)) | ((with_reducible refine gate_callee (f := 27) rfl ?_); refine goesL_ (some 46) rfl rfl Try.func27 (by kernel_rfl) rfl #[.slice A0 l0.length c0, .int .i64 a1] rfl (by (try simp only [List.map_toArray, List.map_cons, List.map_nil]); first | done | rfl | (simp only [List.length_drop, List.length_take]; rfl)) ?_; (with_reducible refine (handshakerref02_Alloc.calls kj4 (fun k_ => k_ < w.heap.size) _ _ l0 a1 t231 t234 t235 _ ?side1 A11.out).mono ?_); (case side1 => exact Kd.V_mk HC0.out (Kd.F_below (Kd.C_F k59_heap HR0.out) (by repeat (first | (with_reducible first | exact HB.out | apply below_alloc | apply pw_below_drewN | apply below_drew1) | exact HB.out)))); rintro e w36 ⟨v232, rfl, ho0, hb⟩; refine ⟨_, rfl, ?_⟩; have n0_ := Aside0.mk (Kd.V_below (by (with_reducible repeat (first | apply Kd.V_alloc | apply Kd.V_drewN | apply Kd.V_drew)); exact HO228.out) hb); have n1_ := Aside0.mk (Kd.V_lower (Kd.V_mono (ok' := fun k_ => True) ho0 (fun k_ hk_ => trivial)) (below_size (by repeat (first | (with_reducible first | exact HB.out | apply below_alloc | apply pw_below_drewN | apply below_drew1) | exact HB.out)))); have n2_ := Aside0.mk (below_step (by repeat (first | (with_reducible first | exact HB.out | apply below_alloc | apply pw_below_drewN | apply below_drew1) | exact HB.out)) hb); clear HO228; clear HB; have HO228 := n0_; have HO233 := n1_; have HB := n2_; clear n0_ n1_ n2_; (try clear hb); (try clear hb2); (try clear hk); (try clear hi); (try clear ho0)) | ((with_reducible refine gate_callee (f := 28) rfl ?_); refine goesL_ (some 53) rfl rfl Try.func28 (by kernel_rfl) rfl #[.slice A0 l0.length c0, .int .i64 a2] rfl (by (try simp only [List.map_toArray, List.map_cons, List.map_nil]); first | done | rfl | (simp only [List.length_drop, List.length_take]; rfl)) ?_; (with_reducible refine (heap_Free.calls (fun k_ => k_ < w.heap.size) _ _ l0 a2 t236 t239 _ ?side1 A12.out).mono ?_); (case side1 => exact Kd.V_mk HC0.out (Kd.F_below (Kd.C_F k59_heap HR0.out) (by repeat (first | (with_reducible first | exact HB.out | apply below_alloc | apply pw_below_drewN | apply below_drew1) | exact HB.out)))); rintro e w37 ⟨v237, rfl, ho0, hb⟩; refine ⟨_, rfl, ?_⟩; have n0_ := Aside0.mk (Kd.V_below (by (with_reducible repeat (first | apply Kd.V_alloc | apply Kd.V_drewN | apply Kd.V_drew)); exact HO228.out) hb); have n1_ := Aside0.mk (Kd.V_below (by (with_reducible repeat (first | apply Kd.V_alloc | apply Kd.V_drewN | apply Kd.V_drew)); exact HO233.out) hb); have n2_ := Aside0.mk (Kd.V_lower (Kd.V_mono (ok' := fun k_ => True) ho0 (fun k_ hk_ => trivial)) (below_size (by repeat (first | (with_reducible first | exact HB.out | apply below_alloc | apply pw_below_drewN | apply below_drew1) | exact HB.out)))); have n3_ := Aside0.mk (below_step (by repeat (first | (with_reducible first | exact HB.out | apply below_alloc | apply pw_below_drewN | apply below_drew1) | exact HB.out)) hb); clear HO228; clear HO233; clear HB; have HO228 := n0_; have HO233 := n1_; have HO238 := n2_; have HB := n3_; clear n0_ n1_ n2_ n3_; (try clear hb); (try clear hb2); (try clear hk); (try clear hi); (try clear ho0)) | ((with_reducible refine gate_callee (f := 29) rfl ?_); refine goesL_ (some 59) rfl rfl Try.func29 (by kernel_rfl) rfl #[.slice A0 l0.length c0, .int .i64 a2] rfl (by (try simp only [List.map_toArray, List.map_cons, List.map_nil]); first | done | rfl | (simp only [List.length_drop, List.length_take]; rfl)) ?_; (with_reducible refine (handshakerref02_Free.calls kj4 (fun k_ => k_ < w.heap.size) _ _ l0 a2 t240 t243 _ ?side1 A13.out).mono ?_); (case side1 => exact Kd.V_mk HC0.out (Kd.F_below (Kd.C_F k59_heap HR0.out) (by repeat (first | (with_reducible first | exact HB.out | apply below_alloc | apply pw_below_drewN | apply below_drew1) | exact HB.out)))); rintro e w38 ⟨v241, rfl, ho0, hb⟩; refine ⟨_, rfl, ?_⟩; have n0_ := Aside0.mk (Kd.V_below (by (with_reducible repeat (first | apply Kd.V_alloc | apply Kd.V_drewN | apply Kd.V_drew)); exact HO228.out) hb); have n1_ := Aside0.mk (Kd.V_below (by (with_reducible repeat (first | apply Kd.V_alloc | apply Kd.V_drewN | apply Kd.V_drew)); exact HO233.out) hb); have n2_ := Aside0.mk (Kd.V_below (by (with_reducible repeat (first | apply Kd.V_alloc | apply Kd.V_drewN | apply Kd.V_drew)); exact HO238.out) hb); have n3_ := Aside0.mk (Kd.V_lower (Kd.V_mono (ok' := fun k_ => True) ho0 (fun k_ hk_ => trivial)) (below_size (by repeat (first | (with_reducible first | exact HB.out | apply below_alloc | apply pw_below_drewN | apply below_drew1) | exact HB.out)))); have n4_ := Aside0.mk (below_step (by repeat (first | (with_reducible first | exact HB.out | apply below_alloc | apply pw_below_drewN | apply below_drew1) | exact HB.out)) hb); clear HO228; clear HO233; clear HO238; clear HB; have HO228 := n0_; have HO233 := n1_; have HO238 := n2_; have HO242 := n3_; have HB := n4_; clear n0_ n1_ n2_ n3_ n4_; (try clear hb); (try clear hb2); (try clear hk); (try clear hi); (try clear ho0)) | ((with_reducible refine gate_callee (f := 30) rfl ?_); refine goesL_ (some 65) rfl rfl Try.func30 (by kernel_rfl) rfl #[.slice A0 l0.length c0, .int .i64 a2] rfl (by (try simp only [List.map_toArray, List.map_cons, List.map_nil]); first | done | rfl | (simp only [List.length_drop, List.length_take]; rfl)) ?_; (with_reducible refine (heap_Get.calls _ _ l0 a2 t244 t245 _ ?side1 ?side2 A14.out).mono ?_); (case side1 => repeat (first | exact (Kd.C_below HR0.out HB.out) | (with_reducible refine Kd.C_alloc ?_ _) | (with_reducible refine Kd.C_drewN ?_ _) | (with_reducible refine Kd.C_drew ?_))); (case side2 => exact HC0.out); rintro e w39 ⟨rfl, hb⟩; refine ⟨_, rfl, ?_⟩; have n0_ := Aside0.mk (Kd.V_below (by (with_reducible repeat (first | apply Kd.V_alloc | apply Kd.V_drewN | apply Kd.V_drew)); exact HO228.out) hb); have n1_ := Aside0.mk (Kd.V_below (by (with_reducible repeat (first | apply Kd.V_alloc | apply Kd.V_drewN | apply Kd.V_drew)); exact HO233.out) hb); have n2_ := Aside0.mk (Kd.V_below (by (with_reducible repeat (first | apply Kd.V_alloc | apply Kd.V_drewN | apply Kd.V_drew)); exact HO238.out) hb); have n3_ := Aside0.mk (Kd.V_below (by (with_reducible repeat (first | apply Kd.V_alloc | apply Kd.V_drewN | apply Kd.V_drew)); exact HO242.out) hb); have n4_ := Aside0.mk (below_step (by repeat (first | (with_reducible first | exact HB.out | apply below_alloc | apply pw_below_drewN | apply below_drew1) | exact HB.out)) hb); clear HO228; clear HO233; clear HO238; clear HO242; clear HB; have HO228 := n0_; have HO233 := n1_; have HO238 := n2_; have HO242 := n3_; have HB := n4_; clear n0_ n1_ n2_ n3_ n4_; (try clear hb); (try clear hb2); (try clear hk); (try clear hi)) | ((with_reducible refine gate_callee (f := 31) rfl ?_); refine goesL_ (some 71) rfl rfl Try.func31 (by kernel_rfl) rfl #[.slice A0 l0.length c0, .int .i64 a2] rfl (by (try simp only [List.map_toArray, List.map_cons, List.map_nil]); first | done | rfl | (simp only [List.length_drop, List.length_take]; rfl)) ?_; (with_reducible refine (handshakerref02_Get.calls kj4 _ _ l0 a2 t246 t247 _ ?side1 ?side2 A15.out).mono ?_); (case side1 => repeat (first | exact (Kd.C_below HR0.out HB.out) | (with_reducible refine Kd.C_alloc ?_ _) | (with_reducible refine Kd.C_drewN ?_ _) | (with_reducible refine Kd.C_drew ?_))); (case side2 => exact HC0.out); rintro e w' ⟨rfl, ⟨nd, rfl⟩⟩; refine ⟨_, rfl, ?_⟩) | ((with_reducible refine gate_callee (f := 32) rfl ?_); refine goesL_ (some 77) rfl rfl Try.func32 (by kernel_rfl) rfl #[.slice A0 l0.length c0, .slice A3 l3.length c3] rfl (by (try simp only [List.map_toArray, List.map_cons, List.map_nil]); first | done | rfl | (simp only [List.length_drop, List.length_take]; rfl)) ?_; (with_reducible refine (heap_Put.calls kj4 (fun k_ => k_ < w.heap.size) _ _ l0 _ _ l3 t248 t251 _ ?side1 ?side2 ?side3 A16.out).mono ?_); (case side1 => exact Kd.V_mk HC0.out (Kd.F_below (Kd.C_F k59_heap HR0.out) (by repeat (first | (with_reducible first | exact HB.out | apply below_alloc | apply pw_below_drewN | apply below_drew1) | exact HB.out)))); (case side2 => repeat (first | exact (Kd.C_below HR3.out (by repeat (first | (with_reducible first | exact HB.out | apply below_alloc | apply pw_below_drewN | apply below_drew1) | exact HB.out))) | (with_reducible refine Kd.C_alloc ?_ _) | (with_reducible refine Kd.C_drewN ?_ _) | (with_reducible refine Kd.C_drew ?_))); (case side3 => exact HC3.out); rintro e w40 ⟨v249, rfl, ho0, hb⟩; refine ⟨_, rfl, ?_⟩; have n0_ := Aside0.mk (Kd.V_below (by (with_reducible repeat (first | apply Kd.V_alloc | apply Kd.V_drewN | apply Kd.V_drew)); exact HO228.out) hb); have n1_ := Aside0.mk (Kd.V_below (by (with_reducible repeat (first | apply Kd.V_alloc | apply Kd.V_drewN | apply Kd.V_drew)); exact HO233.out) hb); have n2_ := Aside0.mk (Kd.V_below (by (with_reducible repeat (first | apply Kd.V_alloc | apply Kd.V_drewN | apply Kd.V_drew)); exact HO238.out) hb); have n3_ := Aside0.mk (Kd.V_below (by (with_reducible repeat (first | apply Kd.V_alloc | apply Kd.V_drewN | apply Kd.V_drew)); exact HO242.out) hb); have n4_ := Aside0.mk (Kd.V_lower (Kd.V_mono (ok' := fun k_ => True) ho0 (fun k_ hk_ => trivial)) (below_size (by repeat (first | (with_reducible first | exact HB.out | apply below_alloc | apply pw_below_drewN | apply below_drew1) | exact HB.out)))); have n5_ := Aside0.mk (below_step (by repeat (first | (with_reducible first | exact HB.out | apply below_alloc | apply pw_below_drewN | apply below_drew1) | exact HB.out)) hb); clear HO228; clear HO233; clear HO238; clear HO242; clear HB; have HO228 := n0_; have HO233 := n1_; have HO238 := n2_; have HO242 := n3_; have HO250 := n4_; have HB := n5_; clear n0_ n1_ n2_ n3_ n4_ n5_; (try clear hb); (try clear hb2); (try clear hk); (try clear hi); (try clear ho0)) | ((with_reducible refine gate_callee (f := 33) rfl ?_); refine goesL_ (some 83) rfl rfl Try.func33 (by kernel_rfl) rfl #[.slice A0 l0.length c0, .slice A3 l3.length c3] rfl (by (try simp only [List.map_toArray, List.map_cons, List.map_nil]); first | done | rfl | (simp only [List.length_drop, List.length_take]; rfl)) ?_; (with_reducible refine (handshakerref02_Put.calls kj4 (fun k_ => k_ < w.heap.size) _ _ l0 _ _ l3 t252 t255 _ ?side1 ?side2 ?side3 A17.out).mono ?_); (case side1 => exact Kd.V_mk HC0.out (Kd.F_below (Kd.C_F k59_heap HR0.out) (by repeat (first | (with_reducible first | exact HB.out | apply below_alloc | apply pw_below_drewN | apply below_drew1) | exact HB.out)))); (case side2 => repeat (first | exact (Kd.C_below HR3.out HB.out) | (with_reducible refine Kd.C_alloc ?_ _) | (with_reducible refine Kd.C_drewN ?_ _) | (with_reducible refine Kd.C_drew ?_))); (case side3 => exact HC3.out); rintro e w41 ⟨v253, rfl, ho0, hb⟩; refine ⟨_, rfl, ?_⟩; have n0_ := Aside0.mk (Kd.V_below (by (with_reducible repeat (first | apply Kd.V_alloc | apply Kd.V_drewN | apply Kd.V_drew)); exact HO228.out) hb); have n1_ := Aside0.mk (Kd.V_below (by (with_reducible repeat (first | apply Kd.V_alloc | apply Kd.V_drewN | apply Kd.V_drew)); exact HO233.out) hb); have n2_ := Aside0.mk (Kd.V_below (by (with_reducible repeat (first | apply Kd.V_alloc | apply Kd.V_drewN | apply Kd.V_drew)); exact HO238.out) hb); have n3_ := Aside0.mk (Kd.V_below (by (with_reducible repeat (first | apply Kd.V_alloc | apply Kd.V_drewN | apply Kd.V_drew)); exact HO242.out) hb); have n4_ := Aside0.mk (Kd.V_below (by (with_reducible repeat (first | apply Kd.V_alloc | apply Kd.V_drewN | apply Kd.V_drew)); exact HO250.out) hb); have n5_ := Aside0.mk (Kd.V_lower (Kd.V_mono (ok' := fun k_ => True) ho0 (fun k_ hk_ => trivial)) (below_size (by repeat (first | (with_reducible first | exact HB.out | apply below_alloc | apply pw_below_drewN | apply below_drew1) | exact HB.out)))); have n6_ := Aside0.mk (below_step (by repeat (first | (with_reducible first | exact HB.out | apply below_alloc | apply pw_below_drewN | apply below_drew1) | exact HB.out)) hb); clear HO228; clear HO233; clear HO238; clear HO242; clear HO250; clear HB; have HO228 := n0_; have HO233 := n1_; have HO238 := n2_; have HO242 := n3_; have HO250 := n4_; have HO254 := n5_; have HB := n6_; clear n0_ n1_ n2_ n3_ n4_ n5_ n6_; (try clear hb); (try clear hb2); (try clear hk); (try clear hi); (try clear ho0)) | ((with_reducible refine gate_callee (f := 34) rfl ?_); refine goesL_ (some 87) rfl rfl Try.func34 (by kernel_rfl) rfl #[.slice A0 l0.length c0] rfl (by (try simp only [List.map_toArray, List.map_cons, List.map_nil]); first | done | rfl | (simp only [List.length_drop, List.length_take]; rfl)) ?_; (with_reducible refine (heap_Right.calls _ _ l0 true _ ?side1 ?side2 A18.out).mono ?_); (case side1 => repeat (first | exact (Kd.C_below HR0.out HB.out) | (with_reducible refine Kd.C_alloc ?_ _) | (with_reducible refine Kd.C_drewN ?_ _) | (with_reducible refine Kd.C_drew ?_))); (case side2 => exact HC0.out); rintro e w42 ⟨rfl, hb⟩; refine ⟨_, rfl, ?_⟩; have n0_ := Aside0.mk (Kd.V_below (by (with_reducible repeat (first | apply Kd.V_alloc | apply Kd.V_drewN | apply Kd.V_drew)); exact HO228.out) hb); have n1_ := Aside0.mk (Kd.V_below (by (with_reducible repeat (first | apply Kd.V_alloc | apply Kd.V_drewN | apply Kd.V_drew)); exact HO233.out) hb); have n2_ := Aside0.mk (Kd.V_below (by (with_reducible repeat (first | apply Kd.V_alloc | apply Kd.V_drewN | apply Kd.V_drew)); exact HO238.out) hb); have n3_ := Aside0.mk (Kd.V_below (by (with_reducible repeat (first | apply Kd.V_alloc | apply Kd.V_drewN | apply Kd.V_drew)); exact HO242.out) hb); have n4_ := Aside0.mk (Kd.V_below (by (with_reducible repeat (first | apply Kd.V_alloc | apply Kd.V_drewN | apply Kd.V_drew)); exact HO250.out) hb); have n5_ := Aside0.mk (Kd.V_below (by (with_reducible repeat (first | apply Kd.V_alloc | apply Kd.V_drewN | apply Kd.V_drew)); exact HO254.out) hb); have n6_ := Aside0.mk (below_step (by repeat (first | (with_reducible first | exact HB.out | apply below_alloc | apply pw_below_drewN | apply below_drew1) | exact HB.out)) hb); clear HO228; clear HO233; clear HO238; clear HO242; clear HO250; clear HO254; clear HB; have HO228 := n0_; have HO233 := n1_; have HO238 := n2_; have HO242 := n3_; have HO250 := n4_; have HO254 := n5_; have HB := n6_; clear n0_ n1_ n2_ n3_ n4_ n5_ n6_; (try clear hb); (try clear hb2); (try clear hk); (try clear hi)) | ((with_reducible refine gate_callee (f := 35) rfl ?_); refine goesL_ (some 89) rfl rfl Try.func35 (by kernel_rfl) rfl #[.slice A0 l0.length c0] rfl (by (try simp only [List.map_toArray, List.map_cons, List.map_nil]); first | done | rfl | (simp only [List.length_drop, List.length_take]; rfl)) ?_; (with_reducible refine (handshakerref02_Right.calls kj4 _ _ l0 true _ ?side1 ?side2 A19.out).mono ?_); (case side1 => repeat (first | exact (Kd.C_below HR0.out HB.out) | (with_reducible refine Kd.C_alloc ?_ _) | (with_reducible refine Kd.C_drewN ?_ _) | (with_reducible refine Kd.C_drew ?_))); (case side2 => exact HC0.out); rintro e w' ⟨rfl, ⟨nd, rfl⟩⟩; refine ⟨_, rfl, ?_⟩; obtain ⟨Ao43, co43, eo43⟩ := Kd.V_slice HO228.out; subst eo43; obtain ⟨Ao44, co44, eo44⟩ := Kd.V_slice HO233.out; subst eo44) | (go_at_call 36; (with_reducible refine (handshakerref02_Same.calls kj4 _ _ t226 _ _ t231 true _ ?side1 ?side2 ?side3 ?side4 A22.out).mono ?_); (case side1 => repeat (first | exact (Kd.V_reads' HO228.out).2.2 | (with_reducible refine Kd.C_alloc ?_ _) | (with_reducible refine Kd.C_drewN ?_ _) | (with_reducible refine Kd.C_drew ?_))); (case side2 => exact (Kd.V_reads' HO228.out).2.1); (case side3 => repeat (first | exact (Kd.V_reads' HO233.out).2.2 | (with_reducible refine Kd.C_alloc ?_ _) | (with_reducible refine Kd.C_drewN ?_ _) | (with_reducible refine Kd.C_drew ?_))); (case side4 => exact (Kd.V_reads' HO233.out).2.1); rintro e w' ⟨rfl, ⟨nd, rfl⟩⟩; obtain ⟨Ao45, co45, eo45⟩ := Kd.V_slice HO238.out; subst eo45; obtain ⟨Ao46, co46, eo46⟩ := Kd.V_slice HO242.out; subst eo46) | (go_at_call 36; (with_reducible refine (handshakerref02_Same.calls kj4 _ _ t236 _ _ t240 true _ ?side1 ?side2 ?side3 ?side4 A26.out).mono ?_); (case side1 => repeat (first | exact (Kd.V_reads' HO238.out).2.2 | (with_reducible refine Kd.C_alloc ?_ _) | (with_reducible refine Kd.C_drewN ?_ _) | (with_reducible refine Kd.C_drew ?_))); (case side2 => exact (Kd.V_reads' HO238.out).2.1); (case side3 => repeat (first | exact (Kd.V_reads' HO242.out).2.2 | (with_reducible refine Kd.C_alloc ?_ _) | (with_reducible refine Kd.C_drewN ?_ _) | (with_reducible refine Kd.C_drew ?_))); (case side4 => exact (Kd.V_reads' HO242.out).2.1); rintro e w' ⟨rfl, ⟨nd, rfl⟩⟩; obtain ⟨Ao47, co47, eo47⟩ := Kd.V_slice HO250.out; subst eo47; obtain ⟨Ao48, co48, eo48⟩ := Kd.V_slice HO254.out; subst eo48) | (go_at_call 36; (with_reducible refine (handshakerref02_Same.calls kj4 _ _ t248 _ _ t252 true _ ?side1 ?side2 ?side3 ?side4 A31.out).mono ?_); (case side1 => repeat (first | exact (Kd.V_reads' HO250.out).2.2 | (with_reducible refine Kd.C_alloc ?_ _) | (with_reducible refine Kd.C_drewN ?_ _) | (with_reducible refine Kd.C_drew ?_))); (case side2 => exact (Kd.V_reads' HO250.out).2.1); (case side3 => repeat (first | exact (Kd.V_reads' HO254.out).2.2 | (with_reducible refine Kd.C_alloc ?_ _) | (with_reducible refine Kd.C_drewN ?_ _) | (with_reducible refine Kd.C_drew ?_))); (case side4 => exact (Kd.V_reads' HO254.out).2.1); rintro e w' ⟨rfl, ⟨nd, rfl⟩⟩) | (go_at_call 25; (with_reducible refine (handshakerlaw02_awake.calls kj4  t261 _ A34.out).mono ?_); rintro e w49 ⟨rfl, hb⟩; have n0_ := Aside0.mk (Kd.V_below (by (with_reducible repeat (first | apply Kd.V_alloc | apply Kd.V_drewN | apply Kd.V_drew)); exact HO228.out) hb); have n1_ := Aside0.mk (Kd.V_below (by (with_reducible repeat (first | apply Kd.V_alloc | apply Kd.V_drewN | apply Kd.V_drew)); exact HO233.out) hb); have n2_ := Aside0.mk (Kd.V_below (by (with_reducible repeat (first | apply Kd.V_alloc | apply Kd.V_drewN | apply Kd.V_drew)); exact HO238.out) hb); have n3_ := Aside0.mk (Kd.V_below (by (with_reducible repeat (first | apply Kd.V_alloc | apply Kd.V_drewN | apply Kd.V_drew)); exact HO242.out) hb); have n4_ := Aside0.mk (Kd.V_below (by (with_reducible repeat (first | apply Kd.V_alloc | apply Kd.V_drewN | apply Kd.V_drew)); exact HO250.out) hb); have n5_ := Aside0.mk (Kd.V_below (by (with_reducible repeat (first | apply Kd.V_alloc | apply Kd.V_drewN | apply Kd.V_drew)); exact HO254.out) hb); have n6_ := Aside0.mk (below_step (by repeat (first | (with_reducible first | exact HB.out | apply below_alloc | apply pw_below_drewN | apply below_drew1) | exact HB.out)) hb); clear HO228; clear HO233; clear HO238; clear HO242; clear HO250; clear HO254; clear HB; have HO228 := n0_; have HO233 := n1_; have HO238 := n2_; have HO242 := n3_; have HO250 := n4_; have HO254 := n5_; have HB := n6_; clear n0_ n1_ n2_ n3_ n4_ n5_ n6_; (try clear hb); (try clear hb2); (try clear hk); (try clear hi)))
                              go_ret
                              exact ⟨by first | rfl | (simp [errW_none, errW_some] <;> rfl) | (simp [*, errW_none, errW_some] <;> rfl), by repeat (first | (with_reducible first | exact HB.out | apply below_alloc | apply pw_below_drewN | apply below_drew1) | exact HB.out)⟩
                            · rw [if_neg c33] at H
                              have c33b0 : (t251 == t255) = false := beq_eq_false_iff_ne.mpr c33
                              have c33b1 : (t251 != t255) = true := bne_iff_ne.mpr c33
                              exact absurd (Option.some.inj H) (by rw [HT.out]; decide)
                          · replace c32 := Bool.eq_false_iff.mpr c32
                            subst c32
                            have H1 : (some false) = some r := by rw [if_neg (show ¬ (false = true) by decide)] at H; exact H
                            clear H
                            have H := H1
                            clear H1
                            exact absurd (Option.some.inj H) (by rw [HT.out]; decide)
                        · rw [if_neg c30] at H
                          have c30b0 : (t245 == t247) = false := beq_eq_false_iff_ne.mpr c30
                          have c30b1 : (t245 != t247) = true := bne_iff_ne.mpr c30
                          exact absurd (Option.some.inj H) (by rw [HT.out]; decide)
                      · rw [if_neg c29] at H
                        have c29b0 : (t244 == t246) = false := beq_eq_false_iff_ne.mpr c29
                        have c29b1 : (t244 != t246) = true := bne_iff_ne.mpr c29
                        exact absurd (Option.some.inj H) (by rw [HT.out]; decide)
                    · rw [if_neg c28] at H
                      have c28b0 : (t239 == t243) = false := beq_eq_false_iff_ne.mpr c28
                      have c28b1 : (t239 != t243) = true := bne_iff_ne.mpr c28
                      exact absurd (Option.some.inj H) (by rw [HT.out]; decide)
                  · replace c27 := Bool.eq_false_iff.mpr c27
                    subst c27
                    have H1 : (some false) = some r := by rw [if_neg (show ¬ (false = true) by decide)] at H; exact H
                    clear H
                    have H := H1
                    clear H1
                    exact absurd (Option.some.inj H) (by rw [HT.out]; decide)
                · rw [if_neg c25] at H
                  have c25b0 : (t230 == t235) = false := beq_eq_false_iff_ne.mpr c25
                  have c25b1 : (t230 != t235) = true := bne_iff_ne.mpr c25
                  exact absurd (Option.some.inj H) (by rw [HT.out]; decide)
              · rw [if_neg c24] at H
                have c24b0 : (t229 == t234) = false := beq_eq_false_iff_ne.mpr c24
                have c24b1 : (t229 != t234) = true := bne_iff_ne.mpr c24
                exact absurd (Option.some.inj H) (by rw [HT.out]; decide)
            · replace c23 := Bool.eq_false_iff.mpr c23
              subst c23
              have H1 : (some false) = some r := by rw [if_neg (show ¬ (false = true) by decide)] at H; exact H
              clear H
              have H := H1
              clear H1
              exact absurd (Option.some.inj H) (by rw [HT.out]; decide)
          · replace c21 := Bool.eq_false_iff.mpr c21
            subst c21
            have H1 : (some false) = some r := by rw [if_neg (show ¬ (false = true) by decide)] at H; exact H
            clear H
            have H := H1
            clear H1
            exact absurd (Option.some.inj H) (by rw [HT.out]; decide)
        · replace c20 := Bool.eq_false_iff.mpr c20
          subst c20
          have H1 : (if t257 = true then (some false) else ((handshakerref02_Same.f kj4 t226 t231).bind fun t262 => (if t262 = true then (if t229 = t234 then (if t230 = t235 then ((handshakerref02_Same.f kj4 t236 t240).bind fun t263 => (if t263 = true then (if t239 = t243 then (if t244 = t246 then (if t245 = t247 then ((handshakerref02_Same.f kj4 t248 t252).bind fun t264 => (if t264 = true then (if t251 = t255 then ((handshakerlaw02_awake.f kj4).bind fun t265 => (some t265)) else (some false)) else (some false))) else (some false)) else (some false)) else (some false)) else (some false))) else (some false)) else (some false)) else (some false)))) = some r := by rw [if_neg (show ¬ (false = true) by decide)] at H; exact H
          clear H
          have H := H1
          clear H1
          by_cases c50 : t257 = true
          · subst c50
            have H1 : (some false) = some r := by rw [if_pos rfl] at H; exact H
            clear H
            have H := H1
            clear H1
            exact absurd (Option.some.inj H) (by rw [HT.out]; decide)
          · replace c50 := Bool.eq_false_iff.mpr c50
            subst c50
            have H1 : ((handshakerref02_Same.f kj4 t226 t231).bind fun t262 => (if t262 = true then (if t229 = t234 then (if t230 = t235 then ((handshakerref02_Same.f kj4 t236 t240).bind fun t263 => (if t263 = true then (if t239 = t243 then (if t244 = t246 then (if t245 = t247 then ((handshakerref02_Same.f kj4 t248 t252).bind fun t264 => (if t264 = true then (if t251 = t255 then ((handshakerlaw02_awake.f kj4).bind fun t265 => (some t265)) else (some false)) else (some false))) else (some false)) else (some false)) else (some false)) else (some false))) else (some false)) else (some false)) else (some false))) = some r := by rw [if_neg (show ¬ (false = true) by decide)] at H; exact H
            clear H
            have H := H1
            clear H1
            replace H := Option.bind_eq_some_iff.mp H
            obtain ⟨t262, A510, H⟩ := H
            replace H : (if t262 = true then (if t229 = t234 then (if t230 = t235 then ((handshakerref02_Same.f kj4 t236 t240).bind fun t263 => (if t263 = true then (if t239 = t243 then (if t244 = t246 then (if t245 = t247 then ((handshakerref02_Same.f kj4 t248 t252).bind fun t264 => (if t264 = true then (if t251 = t255 then ((handshakerlaw02_awake.f kj4).bind fun t265 => (some t265)) else (some false)) else (some false))) else (some false)) else (some false)) else (some false)) else (some false))) else (some false)) else (some false)) else (some false)) = some r := H
            have A51 := Aside0.mk A510
            clear A510
            by_cases c52 : t262 = true
            · subst c52
              have H1 : (if t229 = t234 then (if t230 = t235 then ((handshakerref02_Same.f kj4 t236 t240).bind fun t263 => (if t263 = true then (if t239 = t243 then (if t244 = t246 then (if t245 = t247 then ((handshakerref02_Same.f kj4 t248 t252).bind fun t264 => (if t264 = true then (if t251 = t255 then ((handshakerlaw02_awake.f kj4).bind fun t265 => (some t265)) else (some false)) else (some false))) else (some false)) else (some false)) else (some false)) else (some false))) else (some false)) else (some false)) = some r := by rw [if_pos rfl] at H; exact H
              clear H
              have H := H1
              clear H1
              by_cases c53 : t229 = t234
              · rw [if_pos c53] at H
                have c53b0 : (t229 == t234) = true := beq_iff_eq.mpr c53
                have c53b1 : (t229 != t234) = false := bne_eq_false_iff_eq.mpr c53
                clear c53
                by_cases c54 : t230 = t235
                · rw [if_pos c54] at H
                  have c54b0 : (t230 == t235) = true := beq_iff_eq.mpr c54
                  have c54b1 : (t230 != t235) = false := bne_eq_false_iff_eq.mpr c54
                  clear c54
                  replace H := Option.bind_eq_some_iff.mp H
                  obtain ⟨t263, A550, H⟩ := H
                  replace H : (if t263 = true then (if t239 = t243 then (if t244 = t246 then (if t245 = t247 then ((handshakerref02_Same.f kj4 t248 t252).bind fun t264 => (if t264 = true then (if t251 = t255 then ((handshakerlaw02_awake.f kj4).bind fun t265 => (some t265)) else (some false)) else (some false))) else (some false)) else (some false)) else (some false)) else (some false)) = some r := H
                  have A55 := Aside0.mk A550
                  clear A550
                  by_cases c56 : t263 = true
                  · subst c56
                    have H1 : (if t239 = t243 then (if t244 = t246 then (if t245 = t247 then ((handshakerref02_Same.f kj4 t248 t252).bind fun t264 => (if t264 = true then (if t251 = t255 then ((handshakerlaw02_awake.f kj4).bind fun t265 => (some t265)) else (some false)) else (some false))) else (some false)) else (some false)) else (some false)) = some r := by rw [if_pos rfl] at H; exact H
                    clear H
                    have H := H1
                    clear H1
                    by_cases c57 : t239 = t243
                    · rw [if_pos c57] at H
                      have c57b0 : (t239 == t243) = true := beq_iff_eq.mpr c57
                      have c57b1 : (t239 != t243) = false := bne_eq_false_iff_eq.mpr c57
                      clear c57
                      by_cases c58 : t244 = t246
                      · rw [if_pos c58] at H
                        have c58b0 : (t244 == t246) = true := beq_iff_eq.mpr c58
                        have c58b1 : (t244 != t246) = false := bne_eq_false_iff_eq.mpr c58
                        clear c58
                        by_cases c59 : t245 = t247
                        · rw [if_pos c59] at H
                          have c59b0 : (t245 == t247) = true := beq_iff_eq.mpr c59
                          have c59b1 : (t245 != t247) = false := bne_eq_false_iff_eq.mpr c59
                          clear c59
                          replace H := Option.bind_eq_some_iff.mp H
                          obtain ⟨t264, A600, H⟩ := H
                          replace H : (if t264 = true then (if t251 = t255 then ((handshakerlaw02_awake.f kj4).bind fun t265 => (some t265)) else (some false)) else (some false)) = some r := H
                          have A60 := Aside0.mk A600
                          clear A600
                          by_cases c61 : t264 = true
                          · subst c61
                            have H1 : (if t251 = t255 then ((handshakerlaw02_awake.f kj4).bind fun t265 => (some t265)) else (some false)) = some r := by rw [if_pos rfl] at H; exact H
                            clear H
                            have H := H1
                            clear H1
                            by_cases c62 : t251 = t255
                            · rw [if_pos c62] at H
                              have c62b0 : (t251 == t255) = true := beq_iff_eq.mpr c62
                              have c62b1 : (t251 != t255) = false := bne_eq_false_iff_eq.mpr c62
                              clear c62
                              replace H := Option.bind_eq_some_iff.mp H
                              obtain ⟨t265, A630, H⟩ := H
                              replace H : (some t265) = some r := H
                              have A63 := Aside0.mk A630
                              clear A630
                              obtain rfl := Option.some.inj H
                              go_wp2_with (first | ((with_reducible refine gate_callee (f := 26) rfl ?_); refine goesL_ (some 39) rfl rfl Try.func26 (by kernel_rfl) rfl #[.slice A0 l0.length c0, .int .i64 a1] rfl (by (try simp only [List.map_toArray, List.map_cons, List.map_nil]); first | done | rfl | (simp only [List.length_drop, List.length_take]; rfl)) ?_; (with_reducible refine (heap_Alloc.calls kj4 (fun k_ => k_ < w.heap.size) _ _ l0 a1 t226 t229 t230 _ ?side1 A10.out).mono ?_); (case side1 => exact Kd.V_mk HC0.out (Kd.F_below (Kd.C_F k59_heap HR0.out) (by repeat (first | (with_reducible first | exact HB.out | apply below_alloc | apply pw_below_drewN | apply below_drew1) | exact HB.out)))); rintro e w64 ⟨v227, rfl, ho0, hb⟩; refine ⟨_, rfl, ?_⟩; have n0_ := Aside0.mk (Kd.V_lower (Kd.V_mono (ok' := fun k_ => True) ho0 (fun k_ hk_ => trivial)) (below_size (by repeat (first | (with_reducible first | exact HB.out | apply below_alloc | apply pw_below_drewN | apply below_drew1) | exact HB.out)))); have n1_ := Aside0.mk (below_step (by repeat (first | (with_reducible first | exact HB.out | apply below_alloc | apply pw_below_drewN | apply below_drew1) | exact HB.out)) hb); clear HB; have HO228 := n0_; have HB := n1_; clear n0_ n1_; (try clear hb); (try clear hb2); (try clear hk); (try clear hi); (try clear ho0)) | ((with_reducible refine gate_callee (f := 27) rfl ?_); refine goesL_ (some 46) rfl rfl Try.func27 (by kernel_rfl) rfl #[.slice A0 l0.length c0, .int .i64 a1] rfl (by (try simp only [List.map_toArray, List.map_cons, List.map_nil]); first | done | rfl | (simp only [List.length_drop, List.length_take]; rfl)) ?_; (with_reducible refine (handshakerref02_Alloc.calls kj4 (fun k_ => k_ < w.heap.size) _ _ l0 a1 t231 t234 t235 _ ?side1 A11.out).mono ?_); (case side1 => exact Kd.V_mk HC0.out (Kd.F_below (Kd.C_F k59_heap HR0.out) (by repeat (first | (with_reducible first | exact HB.out | apply below_alloc | apply pw_below_drewN | apply below_drew1) | exact HB.out)))); rintro e w65 ⟨v232, rfl, ho0, hb⟩; refine ⟨_, rfl, ?_⟩; have n0_ := Aside0.mk (Kd.V_below (by (with_reducible repeat (first | apply Kd.V_alloc | apply Kd.V_drewN | apply Kd.V_drew)); exact HO228.out) hb); have n1_ := Aside0.mk (Kd.V_lower (Kd.V_mono (ok' := fun k_ => True) ho0 (fun k_ hk_ => trivial)) (below_size (by repeat (first | (with_reducible first | exact HB.out | apply below_alloc | apply pw_below_drewN | apply below_drew1) | exact HB.out)))); have n2_ := Aside0.mk (below_step (by repeat (first | (with_reducible first | exact HB.out | apply below_alloc | apply pw_below_drewN | apply below_drew1) | exact HB.out)) hb); clear HO228; clear HB; have HO228 := n0_; have HO233 := n1_; have HB := n2_; clear n0_ n1_ n2_; (try clear hb); (try clear hb2); (try clear hk); (try clear hi); (try clear ho0)) | ((with_reducible refine gate_callee (f := 28) rfl ?_); refine goesL_ (some 53) rfl rfl Try.func28 (by kernel_rfl) rfl #[.slice A0 l0.length c0, .int .i64 a2] rfl (by (try simp only [List.map_toArray, List.map_cons, List.map_nil]); first | done | rfl | (simp only [List.length_drop, List.length_take]; rfl)) ?_; (with_reducible refine (heap_Free.calls (fun k_ => k_ < w.heap.size) _ _ l0 a2 t236 t239 _ ?side1 A12.out).mono ?_); (case side1 => exact Kd.V_mk HC0.out (Kd.F_below (Kd.C_F k59_heap HR0.out) (by repeat (first | (with_reducible first | exact HB.out | apply below_alloc | apply pw_below_drewN | apply below_drew1) | exact HB.out)))); rintro e w66 ⟨v237, rfl, ho0, hb⟩; refine ⟨_, rfl, ?_⟩; have n0_ := Aside0.mk (Kd.V_below (by (with_reducible repeat (first | apply Kd.V_alloc | apply Kd.V_drewN | apply Kd.V_drew)); exact HO228.out) hb); have n1_ := Aside0.mk (Kd.V_below (by (with_reducible repeat (first | apply Kd.V_alloc | apply Kd.V_drewN | apply Kd.V_drew)); exact HO233.out) hb); have n2_ := Aside0.mk (Kd.V_lower (Kd.V_mono (ok' := fun k_ => True) ho0 (fun k_ hk_ => trivial)) (below_size (by repeat (first | (with_reducible first | exact HB.out | apply below_alloc | apply pw_below_drewN | apply below_drew1) | exact HB.out)))); have n3_ := Aside0.mk (below_step (by repeat (first | (with_reducible first | exact HB.out | apply below_alloc | apply pw_below_drewN | apply below_drew1) | exact HB.out)) hb); clear HO228; clear HO233; clear HB; have HO228 := n0_; have HO233 := n1_; have HO238 := n2_; have HB := n3_; clear n0_ n1_ n2_ n3_; (try clear hb); (try clear hb2); (try clear hk); (try clear hi); (try clear ho0)) | ((with_reducible refine gate_callee (f := 29) rfl ?_); refine goesL_ (some 59) rfl rfl Try.func29 (by kernel_rfl) rfl #[.slice A0 l0.length c0, .int .i64 a2] rfl (by (try simp only [List.map_toArray, List.map_cons, List.map_nil]); first | done | rfl | (simp only [List.length_drop, List.length_take]; rfl)) ?_; (with_reducible refine (handshakerref02_Free.calls kj4 (fun k_ => k_ < w.heap.size) _ _ l0 a2 t240 t243 _ ?side1 A13.out).mono ?_); (case side1 => exact Kd.V_mk HC0.out (Kd.F_below (Kd.C_F k59_heap HR0.out) (by repeat (first | (with_reducible first | exact HB.out | apply below_alloc | apply pw_below_drewN | apply below_drew1) | exact HB.out)))); rintro e w67 ⟨v241, rfl, ho0, hb⟩; refine ⟨_, rfl, ?_⟩; have n0_ := Aside0.mk (Kd.V_below (by (with_reducible repeat (first | apply Kd.V_alloc | apply Kd.V_drewN | apply Kd.V_drew)); exact HO228.out) hb); have n1_ := Aside0.mk (Kd.V_below (by (with_reducible repeat (first | apply Kd.V_alloc | apply Kd.V_drewN | apply Kd.V_drew)); exact HO233.out) hb); have n2_ := Aside0.mk (Kd.V_below (by (with_reducible repeat (first | apply Kd.V_alloc | apply Kd.V_drewN | apply Kd.V_drew)); exact HO238.out) hb); have n3_ := Aside0.mk (Kd.V_lower (Kd.V_mono (ok' := fun k_ => True) ho0 (fun k_ hk_ => trivial)) (below_size (by repeat (first | (with_reducible first | exact HB.out | apply below_alloc | apply pw_below_drewN | apply below_drew1) | exact HB.out)))); have n4_ := Aside0.mk (below_step (by repeat (first | (with_reducible first | exact HB.out | apply below_alloc | apply pw_below_drewN | apply below_drew1) | exact HB.out)) hb); clear HO228; clear HO233; clear HO238; clear HB; have HO228 := n0_; have HO233 := n1_; have HO238 := n2_; have HO242 := n3_; have HB := n4_; clear n0_ n1_ n2_ n3_ n4_; (try clear hb); (try clear hb2); (try clear hk); (try clear hi); (try clear ho0)) | ((with_reducible refine gate_callee (f := 30) rfl ?_); refine goesL_ (some 65) rfl rfl Try.func30 (by kernel_rfl) rfl #[.slice A0 l0.length c0, .int .i64 a2] rfl (by (try simp only [List.map_toArray, List.map_cons, List.map_nil]); first | done | rfl | (simp only [List.length_drop, List.length_take]; rfl)) ?_; (with_reducible refine (heap_Get.calls _ _ l0 a2 t244 t245 _ ?side1 ?side2 A14.out).mono ?_); (case side1 => repeat (first | exact (Kd.C_below HR0.out HB.out) | (with_reducible refine Kd.C_alloc ?_ _) | (with_reducible refine Kd.C_drewN ?_ _) | (with_reducible refine Kd.C_drew ?_))); (case side2 => exact HC0.out); rintro e w68 ⟨rfl, hb⟩; refine ⟨_, rfl, ?_⟩; have n0_ := Aside0.mk (Kd.V_below (by (with_reducible repeat (first | apply Kd.V_alloc | apply Kd.V_drewN | apply Kd.V_drew)); exact HO228.out) hb); have n1_ := Aside0.mk (Kd.V_below (by (with_reducible repeat (first | apply Kd.V_alloc | apply Kd.V_drewN | apply Kd.V_drew)); exact HO233.out) hb); have n2_ := Aside0.mk (Kd.V_below (by (with_reducible repeat (first | apply Kd.V_alloc | apply Kd.V_drewN | apply Kd.V_drew)); exact HO238.out) hb); have n3_ := Aside0.mk (Kd.V_below (by (with_reducible repeat (first | apply Kd.V_alloc | apply Kd.V_drewN | apply Kd.V_drew)); exact HO242.out) hb); have n4_ := Aside0.mk (below_step (by repeat (first | (with_reducible first | exact HB.out | apply below_alloc | apply pw_below_drewN | apply below_drew1) | exact HB.out)) hb); clear HO228; clear HO233; clear HO238; clear HO242; clear HB; have HO228 := n0_; have HO233 := n1_; have HO238 := n2_; have HO242 := n3_; have HB := n4_; clear n0_ n1_ n2_ n3_ n4_; (try clear hb); (try clear hb2); (try clear hk); (try clear hi)) | ((with_reducible refine gate_callee (f := 31) rfl ?_); refine goesL_ (some 71) rfl rfl Try.func31 (by kernel_rfl) rfl #[.slice A0 l0.length c0, .int .i64 a2] rfl (by (try simp only [List.map_toArray, List.map_cons, List.map_nil]); first | done | rfl | (simp only [List.length_drop, List.length_take]; rfl)) ?_; (with_reducible refine (handshakerref02_Get.calls kj4 _ _ l0 a2 t246 t247 _ ?side1 ?side2 A15.out).mono ?_); (case side1 => repeat (first | exact (Kd.C_below HR0.out HB.out) | (with_reducible refine Kd.C_alloc ?_ _) | (with_reducible refine Kd.C_drewN ?_ _) | (with_reducible refine Kd.C_drew ?_))); (case side2 => exact HC0.out); rintro e w' ⟨rfl, ⟨nd, rfl⟩⟩; refine ⟨_, rfl, ?_⟩) | ((with_reducible refine gate_callee (f := 32) rfl ?_); refine goesL_ (some 77) rfl rfl Try.func32 (by kernel_rfl) rfl #[.slice A0 l0.length c0, .slice A3 l3.length c3] rfl (by (try simp only [List.map_toArray, List.map_cons, List.map_nil]); first | done | rfl | (simp only [List.length_drop, List.length_take]; rfl)) ?_; (with_reducible refine (heap_Put.calls kj4 (fun k_ => k_ < w.heap.size) _ _ l0 _ _ l3 t248 t251 _ ?side1 ?side2 ?side3 A16.out).mono ?_); (case side1 => exact Kd.V_mk HC0.out (Kd.F_below (Kd.C_F k59_heap HR0.out) (by repeat (first | (with_reducible first | exact HB.out | apply below_alloc | apply pw_below_drewN | apply below_drew1) | exact HB.out)))); (case side2 => repeat (first | exact (Kd.C_below HR3.out (by repeat (first | (with_reducible first | exact HB.out | apply below_alloc | apply pw_below_drewN | apply below_drew1) | exact HB.out))) | (with_reducible refine Kd.C_alloc ?_ _) | (with_reducible refine Kd.C_drewN ?_ _) | (with_reducible refine Kd.C_drew ?_))); (case side3 => exact HC3.out); rintro e w69 ⟨v249, rfl, ho0, hb⟩; refine ⟨_, rfl, ?_⟩; have n0_ := Aside0.mk (Kd.V_below (by (with_reducible repeat (first | apply Kd.V_alloc | apply Kd.V_drewN | apply Kd.V_drew)); exact HO228.out) hb); have n1_ := Aside0.mk (Kd.V_below (by (with_reducible repeat (first | apply Kd.V_alloc | apply Kd.V_drewN | apply Kd.V_drew)); exact HO233.out) hb); have n2_ := Aside0.mk (Kd.V_below (by (with_reducible repeat (first | apply Kd.V_alloc | apply Kd.V_drewN | apply Kd.V_drew)); exact HO238.out) hb); have n3_ := Aside0.mk (Kd.V_below (by (with_reducible repeat (first | apply Kd.V_alloc | apply Kd.V_drewN | apply Kd.V_drew)); exact HO242.out) hb); have n4_ := Aside0.mk (Kd.V_lower (Kd.V_mono (ok' := fun k_ => True) ho0 (fun k_ hk_ => trivial)) (below_size (by repeat (first | (with_reducible first | exact HB.out | apply below_alloc | apply pw_below_drewN | apply below_drew1) | exact HB.out)))); have n5_ := Aside0.mk (below_step (by repeat (first | (with_reducible first | exact HB.out | apply below_alloc | apply pw_below_drewN | apply below_drew1) | exact HB.out)) hb); clear HO228; clear HO233; clear HO238; clear HO242; clear HB; have HO228 := n0_; have HO233 := n1_; have HO238 := n2_; have HO242 := n3_; have HO250 := n4_; have HB := n5_; clear n0_ n1_ n2_ n3_ n4_ n5_; (try clear hb); (try clear hb2); (try clear hk); (try clear hi); (try clear ho0)) | ((with_reducible refine gate_callee (f := 33) rfl ?_); refine goesL_ (some 83) rfl rfl Try.func33 (by kernel_rfl) rfl #[.slice A0 l0.length c0, .slice A3 l3.length c3] rfl (by (try simp only [List.map_toArray, List.map_cons, List.map_nil]); first | done | rfl | (simp only [List.length_drop, List.length_take]; rfl)) ?_; (with_reducible refine (handshakerref02_Put.calls kj4 (fun k_ => k_ < w.heap.size) _ _ l0 _ _ l3 t252 t255 _ ?side1 ?side2 ?side3 A17.out).mono ?_); (case side1 => exact Kd.V_mk HC0.out (Kd.F_below (Kd.C_F k59_heap HR0.out) (by repeat (first | (with_reducible first | exact HB.out | apply below_alloc | apply pw_below_drewN | apply below_drew1) | exact HB.out)))); (case side2 => repeat (first | exact (Kd.C_below HR3.out HB.out) | (with_reducible refine Kd.C_alloc ?_ _) | (with_reducible refine Kd.C_drewN ?_ _) | (with_reducible refine Kd.C_drew ?_))); (case side3 => exact HC3.out); rintro e w70 ⟨v253, rfl, ho0, hb⟩; refine ⟨_, rfl, ?_⟩; have n0_ := Aside0.mk (Kd.V_below (by (with_reducible repeat (first | apply Kd.V_alloc | apply Kd.V_drewN | apply Kd.V_drew)); exact HO228.out) hb); have n1_ := Aside0.mk (Kd.V_below (by (with_reducible repeat (first | apply Kd.V_alloc | apply Kd.V_drewN | apply Kd.V_drew)); exact HO233.out) hb); have n2_ := Aside0.mk (Kd.V_below (by (with_reducible repeat (first | apply Kd.V_alloc | apply Kd.V_drewN | apply Kd.V_drew)); exact HO238.out) hb); have n3_ := Aside0.mk (Kd.V_below (by (with_reducible repeat (first | apply Kd.V_alloc | apply Kd.V_drewN | apply Kd.V_drew)); exact HO242.out) hb); have n4_ := Aside0.mk (Kd.V_below (by (with_reducible repeat (first | apply Kd.V_alloc | apply Kd.V_drewN | apply Kd.V_drew)); exact HO250.out) hb); have n5_ := Aside0.mk (Kd.V_lower (Kd.V_mono (ok' := fun k_ => True) ho0 (fun k_ hk_ => trivial)) (below_size (by repeat (first | (with_reducible first | exact HB.out | apply below_alloc | apply pw_below_drewN | apply below_drew1) | exact HB.out)))); have n6_ := Aside0.mk (below_step (by repeat (first | (with_reducible first | exact HB.out | apply below_alloc | apply pw_below_drewN | apply below_drew1) | exact HB.out)) hb); clear HO228; clear HO233; clear HO238; clear HO242; clear HO250; clear HB; have HO228 := n0_; have HO233 := n1_; have HO238 := n2_; have HO242 := n3_; have HO250 := n4_; have HO254 := n5_; have HB := n6_; clear n0_ n1_ n2_ n3_ n4_ n5_ n6_; (try clear hb); (try clear hb2); (try clear hk); (try clear hi); (try clear ho0)) | ((with_reducible refine gate_callee (f := 34) rfl ?_); refine goesL_ (some 87) rfl rfl Try.func34 (by kernel_rfl) rfl #[.slice A0 l0.length c0] rfl (by (try simp only [List.map_toArray, List.map_cons, List.map_nil]); first | done | rfl | (simp only [List.length_drop, List.length_take]; rfl)) ?_; (with_reducible refine (heap_Right.calls _ _ l0 false _ ?side1 ?side2 A18.out).mono ?_); (case side1 => repeat (first | exact (Kd.C_below HR0.out HB.out) | (with_reducible refine Kd.C_alloc ?_ _) | (with_reducible refine Kd.C_drewN ?_ _) | (with_reducible refine Kd.C_drew ?_))); (case side2 => exact HC0.out); rintro e w71 ⟨rfl, hb⟩; refine ⟨_, rfl, ?_⟩; have n0_ := Aside0.mk (Kd.V_below (by (with_reducible repeat (first | apply Kd.V_alloc | apply Kd.V_drewN | apply Kd.V_drew)); exact HO228.out) hb); have n1_ := Aside0.mk (Kd.V_below (by (with_reducible repeat (first | apply Kd.V_alloc | apply Kd.V_drewN | apply Kd.V_drew)); exact HO233.out) hb); have n2_ := Aside0.mk (Kd.V_below (by (with_reducible repeat (first | apply Kd.V_alloc | apply Kd.V_drewN | apply Kd.V_drew)); exact HO238.out) hb); have n3_ := Aside0.mk (Kd.V_below (by (with_reducible repeat (first | apply Kd.V_alloc | apply Kd.V_drewN | apply Kd.V_drew)); exact HO242.out) hb); have n4_ := Aside0.mk (Kd.V_below (by (with_reducible repeat (first | apply Kd.V_alloc | apply Kd.V_drewN | apply Kd.V_drew)); exact HO250.out) hb); have n5_ := Aside0.mk (Kd.V_below (by (with_reducible repeat (first | apply Kd.V_alloc | apply Kd.V_drewN | apply Kd.V_drew)); exact HO254.out) hb); have n6_ := Aside0.mk (below_step (by repeat (first | (with_reducible first | exact HB.out | apply below_alloc | apply pw_below_drewN | apply below_drew1) | exact HB.out)) hb); clear HO228; clear HO233; clear HO238; clear HO242; clear HO250; clear HO254; clear HB; have HO228 := n0_; have HO233 := n1_; have HO238 := n2_; have HO242 := n3_; have HO250 := n4_; have HO254 := n5_; have HB := n6_; clear n0_ n1_ n2_ n3_ n4_ n5_ n6_; (try clear hb); (try clear hb2); (try clear hk); (try clear hi)) | ((with_reducible refine gate_callee (f := 35) rfl ?_); refine goesL_ (some 89) rfl rfl Try.func35 (by kernel_rfl) rfl #[.slice A0 l0.length c0] rfl (by (try simp only [List.map_toArray, List.map_cons, List.map_nil]); first | done | rfl | (simp only [List.length_drop, List.length_take]; rfl)) ?_; (with_reducible refine (handshakerref02_Right.calls kj4 _ _ l0 false _ ?side1 ?side2 A19.out).mono ?_); (case side1 => repeat (first | exact (Kd.C_below HR0.out HB.out) | (with_reducible refine Kd.C_alloc ?_ _) | (with_reducible refine Kd.C_drewN ?_ _) | (with_reducible refine Kd.C_drew ?_))); (case side2 => exact HC0.out); rintro e w' ⟨rfl, ⟨nd, rfl⟩⟩; refine ⟨_, rfl, ?_⟩; obtain ⟨Ao72, co72, eo72⟩ := Kd.V_slice HO228.out; subst eo72; obtain ⟨Ao73, co73, eo73⟩ := Kd.V_slice HO233.out; subst eo73) | (go_at_call 36; (with_reducible refine (handshakerref02_Same.calls kj4 _ _ t226 _ _ t231 true _ ?side1 ?side2 ?side3 ?side4 A51.out).mono ?_); (case side1 => repeat (first | exact (Kd.V_reads' HO228.out).2.2 | (with_reducible refine Kd.C_alloc ?_ _) | (with_reducible refine Kd.C_drewN ?_ _) | (with_reducible refine Kd.C_drew ?_))); (case side2 => exact (Kd.V_reads' HO228.out).2.1); (case side3 => repeat (first | exact (Kd.V_reads' HO233.out).2.2 | (with_reducible refine Kd.C_alloc ?_ _) | (with_reducible refine Kd.C_drewN ?_ _) | (with_reducible refine Kd.C_drew ?_))); (case side4 => exact (Kd.V_reads' HO233.out).2.1); rintro e w' ⟨rfl, ⟨nd, rfl⟩⟩; obtain ⟨Ao74, co74, eo74⟩ := Kd.V_slice HO238.out; subst eo74; obtain ⟨Ao75, co75, eo75⟩ := Kd.V_slice HO242.out; subst eo75) | (go_at_call 36; (with_reducible refine (handshakerref02_Same.calls kj4 _ _ t236 _ _ t240 true _ ?side1 ?side2 ?side3 ?side4 A55.out).mono ?_); (case side1 => repeat (first | exact (Kd.V_reads' HO238.out).2.2 | (with_reducible refine Kd.C_alloc ?_ _) | (with_reducible refine Kd.C_drewN ?_ _) | (with_reducible refine Kd.C_drew ?_))); (case side2 => exact (Kd.V_reads' HO238.out).2.1); (case side3 => repeat (first | exact (Kd.V_reads' HO242.out).2.2 | (with_reducible refine Kd.C_alloc ?_ _) | (with_reducible refine Kd.C_drewN ?_ _) | (with_reducible refine Kd.C_drew ?_))); (case side4 => exact (Kd.V_reads' HO242.out).2.1); rintro e w' ⟨rfl, ⟨nd, rfl⟩⟩; obtain ⟨Ao76, co76, eo76⟩ := Kd.V_slice HO250.out; subst eo76; obtain ⟨Ao77, co77, eo77⟩ := Kd.V_slice HO254.out; subst eo77) | (go_at_call 36; (with_reducible refine (handshakerref02_Same.calls kj4 _ _ t248 _ _ t252 true _ ?side1 ?side2 ?side3 ?side4 A60.out).mono ?_); (case side1 => repeat (first | exact (Kd.V_reads' HO250.out).2.2 | (with_reducible refine Kd.C_alloc ?_ _) | (with_reducible refine Kd.C_drewN ?_ _) | (with_reducible refine Kd.C_drew ?_))); (case side2 => exact (Kd.V_reads' HO250.out).2.1); (case side3 => repeat (first | exact (Kd.V_reads' HO254.out).2.2 | (with_reducible refine Kd.C_alloc ?_ _) | (with_reducible refine Kd.C_drewN ?_ _) | (with_reducible refine Kd.C_drew ?_))); (case side4 => exact (Kd.V_reads' HO254.out).2.1); rintro e w' ⟨rfl, ⟨nd, rfl⟩⟩) | (go_at_call 25; (with_reducible refine (handshakerlaw02_awake.calls kj4  t265 _ A63.out).mono ?_); rintro e w78 ⟨rfl, hb⟩; have n0_ := Aside0.mk (Kd.V_below (by (with_reducible repeat (first | apply Kd.V_alloc | apply Kd.V_drewN | apply Kd.V_drew)); exact HO228.out) hb); have n1_ := Aside0.mk (Kd.V_below (by (with_reducible repeat (first | apply Kd.V_alloc | apply Kd.V_drewN | apply Kd.V_drew)); exact HO233.out) hb); have n2_ := Aside0.mk (Kd.V_below (by (with_reducible repeat (first | apply Kd.V_alloc | apply Kd.V_drewN | apply Kd.V_drew)); exact HO238.out) hb); have n3_ := Aside0.mk (Kd.V_below (by (with_reducible repeat (first | apply Kd.V_alloc | apply Kd.V_drewN | apply Kd.V_drew)); exact HO242.out) hb); have n4_ := Aside0.mk (Kd.V_below (by (with_reducible repeat (first | apply Kd.V_alloc | apply Kd.V_drewN | apply Kd.V_drew)); exact HO250.out) hb); have n5_ := Aside0.mk (Kd.V_below (by (with_reducible repeat (first | apply Kd.V_alloc | apply Kd.V_drewN | apply Kd.V_drew)); exact HO254.out) hb); have n6_ := Aside0.mk (below_step (by repeat (first | (with_reducible first | exact HB.out | apply below_alloc | apply pw_below_drewN | apply below_drew1) | exact HB.out)) hb); clear HO228; clear HO233; clear HO238; clear HO242; clear HO250; clear HO254; clear HB; have HO228 := n0_; have HO233 := n1_; have HO238 := n2_; have HO242 := n3_; have HO250 := n4_; have HO254 := n5_; have HB := n6_; clear n0_ n1_ n2_ n3_ n4_ n5_ n6_; (try clear hb); (try clear hb2); (try clear hk); (try clear hi)))
                              go_ret
                              exact ⟨by first | rfl | (simp [errW_none, errW_some] <;> rfl) | (simp [*, errW_none, errW_some] <;> rfl), by repeat (first | (with_reducible first | exact HB.out | apply below_alloc | apply pw_below_drewN | apply below_drew1) | exact HB.out)⟩
                            · rw [if_neg c62] at H
                              have c62b0 : (t251 == t255) = false := beq_eq_false_iff_ne.mpr c62
                              have c62b1 : (t251 != t255) = true := bne_iff_ne.mpr c62
                              exact absurd (Option.some.inj H) (by rw [HT.out]; decide)
                          · replace c61 := Bool.eq_false_iff.mpr c61
                            subst c61
                            have H1 : (some false) = some r := by rw [if_neg (show ¬ (false = true) by decide)] at H; exact H
                            clear H
                            have H := H1
                            clear H1
                            exact absurd (Option.some.inj H) (by rw [HT.out]; decide)
                        · rw [if_neg c59] at H
                          have c59b0 : (t245 == t247) = false := beq_eq_false_iff_ne.mpr c59
                          have c59b1 : (t245 != t247) = true := bne_iff_ne.mpr c59
                          exact absurd (Option.some.inj H) (by rw [HT.out]; decide)
                      · rw [if_neg c58] at H
                        have c58b0 : (t244 == t246) = false := beq_eq_false_iff_ne.mpr c58
                        have c58b1 : (t244 != t246) = true := bne_iff_ne.mpr c58
                        exact absurd (Option.some.inj H) (by rw [HT.out]; decide)
                    · rw [if_neg c57] at H
                      have c57b0 : (t239 == t243) = false := beq_eq_false_iff_ne.mpr c57
                      have c57b1 : (t239 != t243) = true := bne_iff_ne.mpr c57
                      exact absurd (Option.some.inj H) (by rw [HT.out]; decide)
                  · replace c56 := Bool.eq_false_iff.mpr c56
                    subst c56
                    have H1 : (some false) = some r := by rw [if_neg (show ¬ (false = true) by decide)] at H; exact H
                    clear H
                    have H := H1
                    clear H1
                    exact absurd (Option.some.inj H) (by rw [HT.out]; decide)
                · rw [if_neg c54] at H
                  have c54b0 : (t230 == t235) = false := beq_eq_false_iff_ne.mpr c54
                  have c54b1 : (t230 != t235) = true := bne_iff_ne.mpr c54
                  exact absurd (Option.some.inj H) (by rw [HT.out]; decide)
              · rw [if_neg c53] at H
                have c53b0 : (t229 == t234) = false := beq_eq_false_iff_ne.mpr c53
                have c53b1 : (t229 != t234) = true := bne_iff_ne.mpr c53
                exact absurd (Option.some.inj H) (by rw [HT.out]; decide)
            · replace c52 := Bool.eq_false_iff.mpr c52
              subst c52
              have H1 : (some false) = some r := by rw [if_neg (show ¬ (false = true) by decide)] at H; exact H
              clear H
              have H := H1
              clear H1
              exact absurd (Option.some.inj H) (by rw [HT.out]; decide)

/-- THE ONE PURE STATEMENT of handshakerlaw02_HeapTells. -/
def handshakerlaw02_HeapTells.Pure : Prop := ∀ (l0 : List (S59)) (a1 : Int) (a2 : Int) (l3 : List (S62)), l0.length ≤ maxLen → l0.length * 16 ≤ 140737488351232 → (∀ y ∈ l0, wfS59 y) → (Lit.int .i64 a1).wf = true → (Lit.int .i64 a2).wf = true → l3.length ≤ maxLen → l3.length * 16 ≤ 140737488351232 → (∀ y ∈ l3, wfS62 y) → ∃ k, handshakerlaw02_HeapTells.f k l0 a1 a2 l3 = some true

end Go.Proofs.Ytlfeohglfjnnhaa.Hp
