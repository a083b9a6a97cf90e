-- PRINTED by print.py (a twelfth state) out of the translation. Not trusted: Lean checks it.
import Derived.Test.YtihcnbhcemkncaaOx0
import Derived.Test.YtihcnbhcemkncaaOx1
import Derived.Test.YtihcnbhcemkncaaOx2
import Derived.Test.YtihcnbhcemkncaaOx4
import Derived.Test.YtihcnbhcemkncaaOx5
import Derived.Test.YtihcnbhcemkncaaOx6
import Derived.Test.YtihcnbhcemkncaaOx8
namespace Go.Proofs.Ytihcnbhcemkncaa.O
open Go.Proofs.Ytihcnbhcemkncaa.Ho
open Go.RowKit Go.Proofs.YtihcnbhcemkncaaW.PrintWords Go.Proofs.YtihcnbhcemkncaaW.PrintLast Go.Proofs.YtihcnbhcemkncaaW.PrintMore
attribute [local go_sem] max2_int min2_int max_two min_two max_three min_three max_four min_four   -- for this text's walks alone
set_option linter.unusedVariables false
set_option linter.unusedSimpArgs false

attribute [local go_sem high] eqA66
/-! ### handshakerlaw13_OpaqueWrites: function 9 -/
mutual
def handshakerlaw13_OpaqueWrites.j0 : Nat → List (S80) → Int → List (S77) → Bool → Option (Bool)
 | 0, _, _, _, _ => none
 | k + 1, x0, x1, x2, x24 => if x24 = true then ((handshakerlaw13_awake.f k).bind fun t276 => (some t276)) else ((opaque_Next.f k x0 x1 x2).bind fun bt277 => (if bt277.2 = 0 then ((opaque_At.f k bt277.1 x1).bind fun bt282 => ((opaque_At.f k bt277.1 (wrap64 (x1 - 1))).bind fun bt286 => (if bt282.2 = 0 then (if bt286.2 = 0 then (handshakerlaw13_OpaqueWrites.j1 k x2 bt282.1 bt286.1 ((bt282.1.length : Int) != (bt286.1.length : Int))) else (handshakerlaw13_OpaqueWrites.j1 k x2 bt282.1 bt286.1 true)) else (handshakerlaw13_OpaqueWrites.j1 k x2 bt282.1 bt286.1 true)))) else ((handshakerlaw13_awake.f k).bind fun t281 => (some t281))))
def handshakerlaw13_OpaqueWrites.j1 : Nat → List (S77) → List (S66) → List (S66) → Bool → Option (Bool)
 | 0, _, _, _, _ => none
 | k + 1, x2, x9, x11, x61 => if x61 = true then (some false) else (handshakerlaw13_OpaqueWrites.l0 k x2 x9 x11 (x9.length : Int) 0)
def handshakerlaw13_OpaqueWrites.l0 : Nat → List (S77) → List (S66) → List (S66) → Int → Int → Option (Bool)
 | 0, _, _, _, _, _ => none
 | k + 1, x2, x9, x11, x63, x64 => if x64 < x63 then (if 0 ≤ x64 then (if x64 < (x11.length : Int) then (handshakerlaw13_OpaqueWrites.l1 k x2 x9 x11 x64 x63 x64 x2 (x2.length : Int) 0 ((rd_T66 x11 x64).f0) ((rd_T66 x11 x64).f1)) else (none)) else (none)) else ((handshakerlaw13_awake.f k).bind fun t290 => (some t290))
def handshakerlaw13_OpaqueWrites.l1 : Nat → List (S77) → List (S66) → List (S66) → Int → Int → Int → List (S77) → Int → Int → Bool → Int → Option (Bool)
 | 0, _, _, _, _, _, _, _, _, _, _, _ => none
 | k + 1, x2, x9, x11, x13, x63, x64, x71, x72, x73, x293000, x293001 => if x73 < x72 then (if 0 ≤ x73 then (if x73 < (x71.length : Int) then (if ((rd_T77 x71 x73).f0) = x13 then (handshakerlaw13_OpaqueWrites.l1 k x2 x9 x11 x13 x63 x64 x71 x72 (wrap64 (x73 + 1)) x293000 ((rd_T77 x71 x73).f1)) else (handshakerlaw13_OpaqueWrites.l1 k x2 x9 x11 x13 x63 x64 x71 x72 (wrap64 (x73 + 1)) x293000 x293001)) else (none)) else (none)) else (if 0 ≤ x13 then (if x13 < (x9.length : Int) then (if (!(((rd_T66 x9 x13).f0) == x293000) || (!(((rd_T66 x9 x13).f1) == x293001))) = true then (some false) else (handshakerlaw13_OpaqueWrites.l0 k x2 x9 x11 x63 (wrap64 (x64 + 1)))) else (none)) else (none))
end
def handshakerlaw13_OpaqueWrites.f (k : Nat) (l0 : List (S80)) (a1 : Int) (l2 : List (S77)) : Option (Bool) := (handshakerlaw13_small.f k l0).bind fun t275 => (if t275 = true then (handshakerlaw13_OpaqueWrites.j0 k l0 a1 l2 (decide ((l2.length : Int) > 40))) else (handshakerlaw13_OpaqueWrites.j0 k l0 a1 l2 true))
theorem handshakerlaw13_OpaqueWrites.mono_l : ∀ k, (∀ y0 y1 y2 y3, LeO (handshakerlaw13_OpaqueWrites.j0 k y0 y1 y2 y3) (handshakerlaw13_OpaqueWrites.j0 (k + 1) y0 y1 y2 y3)) ∧ (∀ y0 y1 y2 y3, LeO (handshakerlaw13_OpaqueWrites.j1 k y0 y1 y2 y3) (handshakerlaw13_OpaqueWrites.j1 (k + 1) y0 y1 y2 y3)) ∧ (∀ y0 y1 y2 y3 y4, LeO (handshakerlaw13_OpaqueWrites.l0 k y0 y1 y2 y3 y4) (handshakerlaw13_OpaqueWrites.l0 (k + 1) y0 y1 y2 y3 y4)) ∧ (∀ y0 y1 y2 y3 y4 y5 y6 y7 y8 y9 y10, LeO (handshakerlaw13_OpaqueWrites.l1 k y0 y1 y2 y3 y4 y5 y6 y7 y8 y9 y10) (handshakerlaw13_OpaqueWrites.l1 (k + 1) y0 y1 y2 y3 y4 y5 y6 y7 y8 y9 y10))
 | 0 => ⟨fun _ _ _ _ r h => by simp [handshakerlaw13_OpaqueWrites.j0] at h, fun _ _ _ _ r h => by simp [handshakerlaw13_OpaqueWrites.j1] at h, fun _ _ _ _ _ r h => by simp [handshakerlaw13_OpaqueWrites.l0] at h, fun _ _ _ _ _ _ _ _ _ _ _ r h => by simp [handshakerlaw13_OpaqueWrites.l1] at h⟩
 | k + 1 => by
  obtain ⟨ih0, ih1, ih2, ih3⟩ := handshakerlaw13_OpaqueWrites.mono_l k
  refine ⟨?_, ?_, ?_, ?_⟩
  · intro y0 y1 y2 y3
    unfold handshakerlaw13_OpaqueWrites.j0
    repeat' first
    | (with_reducible exact ih0 _ _ _ _)
    | (with_reducible exact ih1 _ _ _ _)
    | (with_reducible exact ih2 _ _ _ _ _)
    | (with_reducible exact ih3 _ _ _ _ _ _ _ _ _ _ _)
    | (with_reducible exact handshakerlaw13_awake.mono _)
    | (with_reducible exact handshakerlaw13_small.mono _ _)
    | (with_reducible exact opaque_At.mono _ _ _)
    | (with_reducible exact opaque_Next.mono _ _ _ _)
    | (with_reducible exact LeO.refl _)
    | (with_reducible exact LeO.none _)
    | (with_reducible refine LeO.ite ?_ ?_)
    | (with_reducible refine LeO.bind ?_ (fun _ => ?_))
    | exact ih0 _ _ _ _
    | exact ih1 _ _ _ _
    | exact ih2 _ _ _ _ _
    | exact ih3 _ _ _ _ _ _ _ _ _ _ _
    | exact handshakerlaw13_awake.mono _
    | exact handshakerlaw13_small.mono _ _
    | exact opaque_At.mono _ _ _
    | exact opaque_Next.mono _ _ _ _
    | exact LeO.none _
    | refine LeO.ite ?_ ?_
    | refine LeO.bind ?_ (fun _ => ?_)
  · intro y0 y1 y2 y3
    unfold handshakerlaw13_OpaqueWrites.j1
    repeat' first
    | (with_reducible exact ih0 _ _ _ _)
    | (with_reducible exact ih1 _ _ _ _)
    | (with_reducible exact ih2 _ _ _ _ _)
    | (with_reducible exact ih3 _ _ _ _ _ _ _ _ _ _ _)
    | (with_reducible exact handshakerlaw13_awake.mono _)
    | (with_reducible exact handshakerlaw13_small.mono _ _)
    | (with_reducible exact opaque_At.mono _ _ _)
    | (with_reducible exact opaque_Next.mono _ _ _ _)
    | (with_reducible exact LeO.refl _)
    | (with_reducible exact LeO.none _)
    | (with_reducible refine LeO.ite ?_ ?_)
    | (with_reducible refine LeO.bind ?_ (fun _ => ?_))
    | exact ih0 _ _ _ _
    | exact ih1 _ _ _ _
    | exact ih2 _ _ _ _ _
    | exact ih3 _ _ _ _ _ _ _ _ _ _ _
    | exact handshakerlaw13_awake.mono _
    | exact handshakerlaw13_small.mono _ _
    | exact opaque_At.mono _ _ _
    | exact opaque_Next.mono _ _ _ _
    | exact LeO.none _
    | refine LeO.ite ?_ ?_
    | refine LeO.bind ?_ (fun _ => ?_)
  · intro y0 y1 y2 y3 y4
    unfold handshakerlaw13_OpaqueWrites.l0
    repeat' first
    | (with_reducible exact ih0 _ _ _ _)
    | (with_reducible exact ih1 _ _ _ _)
    | (with_reducible exact ih2 _ _ _ _ _)
    | (with_reducible exact ih3 _ _ _ _ _ _ _ _ _ _ _)
    | (with_reducible exact handshakerlaw13_awake.mono _)
    | (with_reducible exact handshakerlaw13_small.mono _ _)
    | (with_reducible exact opaque_At.mono _ _ _)
    | (with_reducible exact opaque_Next.mono _ _ _ _)
    | (with_reducible exact LeO.refl _)
    | (with_reducible exact LeO.none _)
    | (with_reducible refine LeO.ite ?_ ?_)
    | (with_reducible refine LeO.bind ?_ (fun _ => ?_))
    | exact ih0 _ _ _ _
    | exact ih1 _ _ _ _
    | exact ih2 _ _ _ _ _
    | exact ih3 _ _ _ _ _ _ _ _ _ _ _
    | exact handshakerlaw13_awake.mono _
    | exact handshakerlaw13_small.mono _ _
    | exact opaque_At.mono _ _ _
    | exact opaque_Next.mono _ _ _ _
    | exact LeO.none _
    | refine LeO.ite ?_ ?_
    | refine LeO.bind ?_ (fun _ => ?_)
  · intro y0 y1 y2 y3 y4 y5 y6 y7 y8 y9 y10
    unfold handshakerlaw13_OpaqueWrites.l1
    repeat' first
    | (with_reducible exact ih0 _ _ _ _)
    | (with_reducible exact ih1 _ _ _ _)
    | (with_reducible exact ih2 _ _ _ _ _)
    | (with_reducible exact ih3 _ _ _ _ _ _ _ _ _ _ _)
    | (with_reducible exact handshakerlaw13_awake.mono _)
    | (with_reducible exact handshakerlaw13_small.mono _ _)
    | (with_reducible exact opaque_At.mono _ _ _)
    | (with_reducible exact opaque_Next.mono _ _ _ _)
    | (with_reducible exact LeO.refl _)
    | (with_reducible exact LeO.none _)
    | (with_reducible refine LeO.ite ?_ ?_)
    | (with_reducible refine LeO.bind ?_ (fun _ => ?_))
    | exact ih0 _ _ _ _
    | exact ih1 _ _ _ _
    | exact ih2 _ _ _ _ _
    | exact ih3 _ _ _ _ _ _ _ _ _ _ _
    | exact handshakerlaw13_awake.mono _
    | exact handshakerlaw13_small.mono _ _
    | exact opaque_At.mono _ _ _
    | exact opaque_Next.mono _ _ _ _
    | exact LeO.none _
    | refine LeO.ite ?_ ?_
    | refine LeO.bind ?_ (fun _ => ?_)
theorem handshakerlaw13_OpaqueWrites.mono : ∀ a0 a1 a2 k, LeO (handshakerlaw13_OpaqueWrites.f k a0 a1 a2) (handshakerlaw13_OpaqueWrites.f (k + 1) a0 a1 a2) := by
 intro a0 a1 a2 k
 obtain ⟨ih0, ih1, ih2, ih3⟩ := handshakerlaw13_OpaqueWrites.mono_l k
 unfold handshakerlaw13_OpaqueWrites.f
 repeat' first
  | (with_reducible exact ih0 _ _ _ _)
  | (with_reducible exact ih1 _ _ _ _)
  | (with_reducible exact ih2 _ _ _ _ _)
  | (with_reducible exact ih3 _ _ _ _ _ _ _ _ _ _ _)
  | (with_reducible exact handshakerlaw13_awake.mono _)
  | (with_reducible exact handshakerlaw13_small.mono _ _)
  | (with_reducible exact opaque_At.mono _ _ _)
  | (with_reducible exact opaque_Next.mono _ _ _ _)
  | (with_reducible exact LeO.refl _)
  | (with_reducible exact LeO.none _)
  | (with_reducible refine LeO.ite ?_ ?_)
  | (with_reducible refine LeO.bind ?_ (fun _ => ?_))
  | exact ih0 _ _ _ _
  | exact ih1 _ _ _ _
  | exact ih2 _ _ _ _ _
  | exact ih3 _ _ _ _ _ _ _ _ _ _ _
  | exact handshakerlaw13_awake.mono _
  | exact handshakerlaw13_small.mono _ _
  | exact opaque_At.mono _ _ _
  | exact opaque_Next.mono _ _ _ _
  | exact LeO.none _
  | refine LeO.ite ?_ ?_
  | refine LeO.bind ?_ (fun _ => ?_)
set_option maxHeartbeats 8000000 in
set_option maxRecDepth 100000 in
theorem handshakerlaw13_OpaqueWrites.calls (k : Nat) (A0 : Option Addr) (c0 : Nat) (l0 : List (S80)) (a1 : Int) (A2 : Option Addr) (c2 : Nat) (l2 : List (S77)) (r : Bool) (w : World) (HT : Aside0 (r = true)) (hr0 : Kd.C k80 w A0 l0.length l0) (hc0 : l0.length ≤ c0) (hr2 : Kd.C k77 w A2 l2.length l2) (hc2 : l2.length ≤ c2) (h : handshakerlaw13_OpaqueWrites.f k l0 a1 l2 = some r) :
 Calls Try.prog 9 #[.slice A0 l0.length c0, .int .i64 a1, .slice A2 l2.length c2] w fun e w' => e = .returned (.bool r) ∧ Below w.heap.size w w' := by
 have hu66 := Try.underlying66
 have hu77 := Try.underlying77
 have HR0 := Aside0.mk hr0
 have HC0 := Aside0.mk hc0
 clear hr0 hc0
 have HR2 := Aside0.mk hr2
 have HC2 := Aside0.mk hc2
 clear hr2 hc2
 have HB := Aside0.mk (Below.refl w.heap.size w)
 have H : ((handshakerlaw13_small.f k l0).bind fun t275 => (if t275 = true then (handshakerlaw13_OpaqueWrites.j0 k l0 a1 l2 (decide ((l2.length : Int) > 40))) else (handshakerlaw13_OpaqueWrites.j0 k l0 a1 l2 true))) = some r := h
 clear h
 have HC4 := Aside0.mk H
 clear H
 go_enter Try.func9, Try.ntmps9
 go_upto_region 1 with (fail)
 repeat (go_quiet (fail); go_upto_region 1 with (fail))
 go_cut [24] (fun v24 wc => ∃ (kq : Nat) (x24_3 : Bool), v24 = .bool x24_3 ∧ Aside0 (handshakerlaw13_OpaqueWrites.j0 kq l0 a1 l2 x24_3 = some r) ∧ Aside0 (kq ≤ k) ∧ Aside0 (Below w.heap.size w wc))
 case first =>
  have H := HC4.out
  clear HC4
  replace H := Option.bind_eq_some_iff.mp H
  obtain ⟨t275, A50, H⟩ := H
  replace H : (if t275 = true then (handshakerlaw13_OpaqueWrites.j0 k l0 a1 l2 (decide ((l2.length : Int) > 40))) else (handshakerlaw13_OpaqueWrites.j0 k l0 a1 l2 true)) = some r := H
  have A5 := Aside0.mk A50
  clear A50
  by_cases c6 : t275 = true
  · subst c6
    have H1 : (handshakerlaw13_OpaqueWrites.j0 k l0 a1 l2 (decide ((l2.length : Int) > 40))) = some r := by rw [if_pos rfl] at H; exact H
    clear H
    have H := H1
    clear H1
    have H' := Aside0.mk H
    clear H
    go_wp2_with (first | ((first | ((with_reducible refine gate_callee (f := 30) rfl ?_); refine goesL_ (some 18) rfl rfl Try.func30 (by kernel_rfl) rfl #[.slice A0 l0.length c0] rfl (by (try simp only [List.map_toArray, List.map_cons, List.map_nil]); first | done | rfl) ?_; (with_reducible refine (handshakerlaw13_small.calls k _ _ l0 true _ ?side1 ?side2 A5.out).mono ?_); (case side1 => repeat (first | exact (Kd.C_below HR0.out HB.out) | with_reducible first | refine Kd.C_alloc ?_ _ | refine Kd.C_drewN ?_ _ | refine Kd.C_drew ?_)); (case side2 => exact HC0.out); rintro e w7 ⟨rfl, hb⟩; refine ⟨_, rfl, ?_⟩; have n0_ := Aside0.mk (bst_ hb); clear HB; have HB := n0_; clear n0_; (try clear hb); (try clear hb2); (try clear hk); (try clear hi)) | (go_at_call 30; (with_reducible refine (handshakerlaw13_small.calls k _ _ l0 true _ ?side1 ?side2 A5.out).mono ?_); (case side1 => repeat (first | exact (Kd.C_below HR0.out HB.out) | with_reducible first | refine Kd.C_alloc ?_ _ | refine Kd.C_drewN ?_ _ | refine Kd.C_drew ?_)); (case side2 => exact HC0.out); rintro e w7 ⟨rfl, hb⟩; have n0_ := Aside0.mk (bst_ hb); clear HB; have HB := n0_; clear n0_; (try clear hb); (try clear hb2); (try clear hk); (try clear hi)))))
    repeat (go_quiet (first | ((first | ((with_reducible refine gate_callee (f := 30) rfl ?_); refine goesL_ (some 18) rfl rfl Try.func30 (by kernel_rfl) rfl #[.slice A0 l0.length c0] rfl (by (try simp only [List.map_toArray, List.map_cons, List.map_nil]); first | done | rfl) ?_; (with_reducible refine (handshakerlaw13_small.calls k _ _ l0 true _ ?side1 ?side2 A5.out).mono ?_); (case side1 => repeat (first | exact (Kd.C_below HR0.out HB.out) | with_reducible first | refine Kd.C_alloc ?_ _ | refine Kd.C_drewN ?_ _ | refine Kd.C_drew ?_)); (case side2 => exact HC0.out); rintro e w7 ⟨rfl, hb⟩; refine ⟨_, rfl, ?_⟩; have n0_ := Aside0.mk (bst_ hb); clear HB; have HB := n0_; clear n0_; (try clear hb); (try clear hb2); (try clear hk); (try clear hi)) | (go_at_call 30; (with_reducible refine (handshakerlaw13_small.calls k _ _ l0 true _ ?side1 ?side2 A5.out).mono ?_); (case side1 => repeat (first | exact (Kd.C_below HR0.out HB.out) | with_reducible first | refine Kd.C_alloc ?_ _ | refine Kd.C_drewN ?_ _ | refine Kd.C_drew ?_)); (case side2 => exact HC0.out); rintro e w7 ⟨rfl, hb⟩; have n0_ := Aside0.mk (bst_ hb); clear HB; have HB := n0_; clear n0_; (try clear hb); (try clear hb2); (try clear hk); (try clear hi))))); try go_wp2_with (first | ((first | ((with_reducible refine gate_callee (f := 30) rfl ?_); refine goesL_ (some 18) rfl rfl Try.func30 (by kernel_rfl) rfl #[.slice A0 l0.length c0] rfl (by (try simp only [List.map_toArray, List.map_cons, List.map_nil]); first | done | rfl) ?_; (with_reducible refine (handshakerlaw13_small.calls k _ _ l0 true _ ?side1 ?side2 A5.out).mono ?_); (case side1 => repeat (first | exact (Kd.C_below HR0.out HB.out) | with_reducible first | refine Kd.C_alloc ?_ _ | refine Kd.C_drewN ?_ _ | refine Kd.C_drew ?_)); (case side2 => exact HC0.out); rintro e w7 ⟨rfl, hb⟩; refine ⟨_, rfl, ?_⟩; have n0_ := Aside0.mk (bst_ hb); clear HB; have HB := n0_; clear n0_; (try clear hb); (try clear hb2); (try clear hk); (try clear hi)) | (go_at_call 30; (with_reducible refine (handshakerlaw13_small.calls k _ _ l0 true _ ?side1 ?side2 A5.out).mono ?_); (case side1 => repeat (first | exact (Kd.C_below HR0.out HB.out) | with_reducible first | refine Kd.C_alloc ?_ _ | refine Kd.C_drewN ?_ _ | refine Kd.C_drew ?_)); (case side2 => exact HC0.out); rintro e w7 ⟨rfl, hb⟩; have n0_ := Aside0.mk (bst_ hb); clear HB; have HB := n0_; clear n0_; (try clear hb); (try clear hb2); (try clear hk); (try clear hi))))))
    go_meet
    case rel => exact ⟨_, (decide ((l2.length : Int) > 40)), (by first | rfl | (simp; done) | (simp [*]; done)), H', ⟨by first | omega | exact Nat.le_refl _⟩, ⟨by repeat (with_reducible first | exact HB.out | apply below_alloc | apply pw_below_drewN | apply below_drew1)⟩⟩
  · replace c6 := Bool.eq_false_iff.mpr c6
    subst c6
    have H1 : (handshakerlaw13_OpaqueWrites.j0 k l0 a1 l2 true) = some r := by rw [if_neg (show ¬ (false = true) by decide)] at H; exact H
    clear H
    have H := H1
    clear H1
    have H' := Aside0.mk H
    clear H
    go_wp2_with (first | ((first | ((with_reducible refine gate_callee (f := 30) rfl ?_); refine goesL_ (some 18) rfl rfl Try.func30 (by kernel_rfl) rfl #[.slice A0 l0.length c0] rfl (by (try simp only [List.map_toArray, List.map_cons, List.map_nil]); first | done | rfl) ?_; (with_reducible refine (handshakerlaw13_small.calls k _ _ l0 false _ ?side1 ?side2 A5.out).mono ?_); (case side1 => repeat (first | exact (Kd.C_below HR0.out HB.out) | with_reducible first | refine Kd.C_alloc ?_ _ | refine Kd.C_drewN ?_ _ | refine Kd.C_drew ?_)); (case side2 => exact HC0.out); rintro e w8 ⟨rfl, hb⟩; refine ⟨_, rfl, ?_⟩; have n0_ := Aside0.mk (bst_ hb); clear HB; have HB := n0_; clear n0_; (try clear hb); (try clear hb2); (try clear hk); (try clear hi)) | (go_at_call 30; (with_reducible refine (handshakerlaw13_small.calls k _ _ l0 false _ ?side1 ?side2 A5.out).mono ?_); (case side1 => repeat (first | exact (Kd.C_below HR0.out HB.out) | with_reducible first | refine Kd.C_alloc ?_ _ | refine Kd.C_drewN ?_ _ | refine Kd.C_drew ?_)); (case side2 => exact HC0.out); rintro e w8 ⟨rfl, hb⟩; have n0_ := Aside0.mk (bst_ hb); clear HB; have HB := n0_; clear n0_; (try clear hb); (try clear hb2); (try clear hk); (try clear hi)))))
    repeat (go_quiet (first | ((first | ((with_reducible refine gate_callee (f := 30) rfl ?_); refine goesL_ (some 18) rfl rfl Try.func30 (by kernel_rfl) rfl #[.slice A0 l0.length c0] rfl (by (try simp only [List.map_toArray, List.map_cons, List.map_nil]); first | done | rfl) ?_; (with_reducible refine (handshakerlaw13_small.calls k _ _ l0 false _ ?side1 ?side2 A5.out).mono ?_); (case side1 => repeat (first | exact (Kd.C_below HR0.out HB.out) | with_reducible first | refine Kd.C_alloc ?_ _ | refine Kd.C_drewN ?_ _ | refine Kd.C_drew ?_)); (case side2 => exact HC0.out); rintro e w8 ⟨rfl, hb⟩; refine ⟨_, rfl, ?_⟩; have n0_ := Aside0.mk (bst_ hb); clear HB; have HB := n0_; clear n0_; (try clear hb); (try clear hb2); (try clear hk); (try clear hi)) | (go_at_call 30; (with_reducible refine (handshakerlaw13_small.calls k _ _ l0 false _ ?side1 ?side2 A5.out).mono ?_); (case side1 => repeat (first | exact (Kd.C_below HR0.out HB.out) | with_reducible first | refine Kd.C_alloc ?_ _ | refine Kd.C_drewN ?_ _ | refine Kd.C_drew ?_)); (case side2 => exact HC0.out); rintro e w8 ⟨rfl, hb⟩; have n0_ := Aside0.mk (bst_ hb); clear HB; have HB := n0_; clear n0_; (try clear hb); (try clear hb2); (try clear hk); (try clear hi))))); try go_wp2_with (first | ((first | ((with_reducible refine gate_callee (f := 30) rfl ?_); refine goesL_ (some 18) rfl rfl Try.func30 (by kernel_rfl) rfl #[.slice A0 l0.length c0] rfl (by (try simp only [List.map_toArray, List.map_cons, List.map_nil]); first | done | rfl) ?_; (with_reducible refine (handshakerlaw13_small.calls k _ _ l0 false _ ?side1 ?side2 A5.out).mono ?_); (case side1 => repeat (first | exact (Kd.C_below HR0.out HB.out) | with_reducible first | refine Kd.C_alloc ?_ _ | refine Kd.C_drewN ?_ _ | refine Kd.C_drew ?_)); (case side2 => exact HC0.out); rintro e w8 ⟨rfl, hb⟩; refine ⟨_, rfl, ?_⟩; have n0_ := Aside0.mk (bst_ hb); clear HB; have HB := n0_; clear n0_; (try clear hb); (try clear hb2); (try clear hk); (try clear hi)) | (go_at_call 30; (with_reducible refine (handshakerlaw13_small.calls k _ _ l0 false _ ?side1 ?side2 A5.out).mono ?_); (case side1 => repeat (first | exact (Kd.C_below HR0.out HB.out) | with_reducible first | refine Kd.C_alloc ?_ _ | refine Kd.C_drewN ?_ _ | refine Kd.C_drew ?_)); (case side2 => exact HC0.out); rintro e w8 ⟨rfl, hb⟩; have n0_ := Aside0.mk (bst_ hb); clear HB; have HB := n0_; clear n0_; (try clear hb); (try clear hb2); (try clear hk); (try clear hi))))))
    go_meet
    case rel => exact ⟨_, (true), (by first | rfl | (simp; done) | (simp [*]; done)), H', ⟨by first | omega | exact Nat.le_refl _⟩, ⟨by repeat (with_reducible first | exact HB.out | apply below_alloc | apply pw_below_drewN | apply below_drew1)⟩⟩
 case rest =>
  clear HC4
  try clear c2
  try clear p2
  try clear c3
  try clear c6
  obtain ⟨kq, x24_3, rfl, HA, HJ3, HB⟩ := hcut
  cases kq with
  | zero => exact absurd HA.out (by simp [handshakerlaw13_OpaqueWrites.j0])
  | succ kj3 =>
   have H := HA.out
   clear HA
   simp only [handshakerlaw13_OpaqueWrites.j0] at H
   by_cases c9 : x24_3 = true
   · subst c9
     have H1 : ((handshakerlaw13_awake.f kj3).bind fun t276 => (some t276)) = some r := by rw [if_pos rfl] at H; exact H
     clear H
     have H := H1
     clear H1
     replace H := Option.bind_eq_some_iff.mp H
     obtain ⟨t276, A100, H⟩ := H
     replace H : (some t276) = some r := H
     have A10 := Aside0.mk A100
     clear A100
     obtain rfl := Option.some.inj H
     go_wp2_with (first | ((first | ((with_reducible refine gate_callee (f := 31) rfl ?_); refine goesL_ (some 25) rfl rfl Try.func31 (by kernel_rfl) rfl #[] rfl (by (try simp only [List.map_toArray, List.map_cons, List.map_nil]); first | done | rfl) ?_; (with_reducible refine (handshakerlaw13_awake.calls kj3  t276 _ A10.out).mono ?_); rintro e w11 ⟨rfl, hb⟩; refine ⟨_, rfl, ?_⟩; have n0_ := Aside0.mk (bst_ hb); clear HB; have HB := n0_; clear n0_; (try clear hb); (try clear hb2); (try clear hk); (try clear hi)) | (go_at_call 31; (with_reducible refine (handshakerlaw13_awake.calls kj3  t276 _ A10.out).mono ?_); rintro e w11 ⟨rfl, hb⟩; have n0_ := Aside0.mk (bst_ hb); clear HB; have HB := n0_; clear n0_; (try clear hb); (try clear hb2); (try clear hk); (try clear hi)))))
     repeat (go_quiet (first | ((first | ((with_reducible refine gate_callee (f := 31) rfl ?_); refine goesL_ (some 25) rfl rfl Try.func31 (by kernel_rfl) rfl #[] rfl (by (try simp only [List.map_toArray, List.map_cons, List.map_nil]); first | done | rfl) ?_; (with_reducible refine (handshakerlaw13_awake.calls kj3  t276 _ A10.out).mono ?_); rintro e w11 ⟨rfl, hb⟩; refine ⟨_, rfl, ?_⟩; have n0_ := Aside0.mk (bst_ hb); clear HB; have HB := n0_; clear n0_; (try clear hb); (try clear hb2); (try clear hk); (try clear hi)) | (go_at_call 31; (with_reducible refine (handshakerlaw13_awake.calls kj3  t276 _ A10.out).mono ?_); rintro e w11 ⟨rfl, hb⟩; have n0_ := Aside0.mk (bst_ hb); clear HB; have HB := n0_; clear n0_; (try clear hb); (try clear hb2); (try clear hk); (try clear hi))))); try go_wp2_with (first | ((first | ((with_reducible refine gate_callee (f := 31) rfl ?_); refine goesL_ (some 25) rfl rfl Try.func31 (by kernel_rfl) rfl #[] rfl (by (try simp only [List.map_toArray, List.map_cons, List.map_nil]); first | done | rfl) ?_; (with_reducible refine (handshakerlaw13_awake.calls kj3  t276 _ A10.out).mono ?_); rintro e w11 ⟨rfl, hb⟩; refine ⟨_, rfl, ?_⟩; have n0_ := Aside0.mk (bst_ hb); clear HB; have HB := n0_; clear n0_; (try clear hb); (try clear hb2); (try clear hk); (try clear hi)) | (go_at_call 31; (with_reducible refine (handshakerlaw13_awake.calls kj3  t276 _ A10.out).mono ?_); rintro e w11 ⟨rfl, hb⟩; have n0_ := Aside0.mk (bst_ hb); clear HB; have HB := n0_; clear n0_; (try clear hb); (try clear hb2); (try clear hk); (try clear hi))))))
     go_ret
     exact ⟨by first | rfl | (simp [errW_none, errW_some] <;> rfl) | (simp [*, errW_none, errW_some] <;> rfl), by repeat (with_reducible first | exact HB.out | apply below_alloc | apply pw_below_drewN | apply below_drew1)⟩
   · replace c9 := Bool.eq_false_iff.mpr c9
     subst c9
     have H1 : ((opaque_Next.f kj3 l0 a1 l2).bind fun bt277 => (if bt277.2 = 0 then ((opaque_At.f kj3 bt277.1 a1).bind fun bt282 => ((opaque_At.f kj3 bt277.1 (wrap64 (a1 - 1))).bind fun bt286 => (if bt282.2 = 0 then (if bt286.2 = 0 then (handshakerlaw13_OpaqueWrites.j1 kj3 l2 bt282.1 bt286.1 ((bt282.1.length : Int) != (bt286.1.length : Int))) else (handshakerlaw13_OpaqueWrites.j1 kj3 l2 bt282.1 bt286.1 true)) else (handshakerlaw13_OpaqueWrites.j1 kj3 l2 bt282.1 bt286.1 true)))) else ((handshakerlaw13_awake.f kj3).bind fun t281 => (some t281)))) = some r := by rw [if_neg (show ¬ (false = true) by decide)] at H; exact H
     clear H
     have H := H1
     clear H1
     replace H := Option.bind_eq_some_iff.mp H
     obtain ⟨⟨t277, t280⟩, A120, H⟩ := H
     replace H : (if t280 = 0 then ((opaque_At.f kj3 t277 a1).bind fun bt282 => ((opaque_At.f kj3 t277 (wrap64 (a1 - 1))).bind fun bt286 => (if bt282.2 = 0 then (if bt286.2 = 0 then (handshakerlaw13_OpaqueWrites.j1 kj3 l2 bt282.1 bt286.1 ((bt282.1.length : Int) != (bt286.1.length : Int))) else (handshakerlaw13_OpaqueWrites.j1 kj3 l2 bt282.1 bt286.1 true)) else (handshakerlaw13_OpaqueWrites.j1 kj3 l2 bt282.1 bt286.1 true)))) else ((handshakerlaw13_awake.f kj3).bind fun t281 => (some t281))) = some r := H
     have A12 := Aside0.mk A120
     clear A120
     by_cases c13 : t280 = 0
     · rw [if_pos c13] at H
       have c13b0 : (t280 == 0) = true := beq_iff_eq.mpr c13
       have c13b1 : (t280 != 0) = false := bne_eq_false_iff_eq.mpr c13
       clear c13
       replace H := Option.bind_eq_some_iff.mp H
       obtain ⟨⟨t282, t285⟩, A140, H⟩ := H
       replace H : ((opaque_At.f kj3 t277 (wrap64 (a1 - 1))).bind fun bt286 => (if t285 = 0 then (if bt286.2 = 0 then (handshakerlaw13_OpaqueWrites.j1 kj3 l2 t282 bt286.1 ((t282.length : Int) != (bt286.1.length : Int))) else (handshakerlaw13_OpaqueWrites.j1 kj3 l2 t282 bt286.1 true)) else (handshakerlaw13_OpaqueWrites.j1 kj3 l2 t282 bt286.1 true))) = some r := H
       have A14 := Aside0.mk A140
       clear A140
       replace H := Option.bind_eq_some_iff.mp H
       obtain ⟨⟨t286, t289⟩, A150, H⟩ := H
       replace H : (if t285 = 0 then (if t289 = 0 then (handshakerlaw13_OpaqueWrites.j1 kj3 l2 t282 t286 ((t282.length : Int) != (t286.length : Int))) else (handshakerlaw13_OpaqueWrites.j1 kj3 l2 t282 t286 true)) else (handshakerlaw13_OpaqueWrites.j1 kj3 l2 t282 t286 true)) = some r := H
       have A15 := Aside0.mk A150
       clear A150
       have HC16 := Aside0.mk H
       clear H
       go_upto_region 8 with (first | ((first | ((with_reducible refine gate_callee (f := 32) rfl ?_); refine goesL_ (some 30) rfl rfl Try.func32 (by kernel_rfl) rfl #[.slice A0 l0.length c0, .int .i64 a1, .slice A2 l2.length c2] rfl (by (try simp only [List.map_toArray, List.map_cons, List.map_nil]); first | done | rfl) ?_; (with_reducible refine (opaque_Next.calls kj3 (fun k_ => k_ < w.heap.size) _ _ l0 a1 _ _ l2 t277 t280 _ ?side1 ?side2 ?side3 A12.out).mono ?_); (case side1 => exact Kd.V_mk HC0.out (Kd.F_below (Kd.C_F k80_heap HR0.out) (by repeat (with_reducible first | exact HB.out | apply below_alloc | apply pw_below_drewN | apply below_drew1)))); (case side2 => repeat (first | exact (Kd.C_below HR2.out HB.out) | with_reducible first | refine Kd.C_alloc ?_ _ | refine Kd.C_drewN ?_ _ | refine Kd.C_drew ?_)); (case side3 => exact HC2.out); rintro e w17 ⟨v278, rfl, ho0, hb⟩; refine ⟨_, rfl, ?_⟩; have n0_ := Aside0.mk (Kd.V_lower (Kd.V_mono (ok' := fun k_ => True) ho0 (fun k_ hk_ => trivial)) bsz_); have n1_ := Aside0.mk (bst_ hb); clear HB; have HO279 := n0_; have HB := n1_; clear n0_ n1_; (try clear hb); (try clear hb2); (try clear hk); (try clear hi); (try clear ho0)) | (go_at_call 32; (with_reducible refine (opaque_Next.calls kj3 (fun k_ => k_ < w.heap.size) _ _ l0 a1 _ _ l2 t277 t280 _ ?side1 ?side2 ?side3 A12.out).mono ?_); (case side1 => exact Kd.V_mk HC0.out (Kd.F_below (Kd.C_F k80_heap HR0.out) (by repeat (with_reducible first | exact HB.out | apply below_alloc | apply pw_below_drewN | apply below_drew1)))); (case side2 => repeat (first | exact (Kd.C_below HR2.out HB.out) | with_reducible first | refine Kd.C_alloc ?_ _ | refine Kd.C_drewN ?_ _ | refine Kd.C_drew ?_)); (case side3 => exact HC2.out); rintro e w17 ⟨v278, rfl, ho0, hb⟩; have n0_ := Aside0.mk (Kd.V_lower (Kd.V_mono (ok' := fun k_ => True) ho0 (fun k_ hk_ => trivial)) bsz_); have n1_ := Aside0.mk (bst_ hb); clear HB; have HO279 := n0_; have HB := n1_; clear n0_ n1_; (try clear hb); (try clear hb2); (try clear hk); (try clear hi); (try clear ho0))); obtain ⟨Ao18, co18, eo18⟩ := Kd.V_slice HO279.out; subst eo18) | ((first | ((with_reducible refine gate_callee (f := 33) rfl ?_); refine goesL_ (some 39) rfl rfl Try.func33 (by kernel_rfl) rfl #[.slice Ao18 t277.length co18, .int .i64 a1] rfl (by (try simp only [List.map_toArray, List.map_cons, List.map_nil]); first | done | rfl) ?_; (with_reducible refine (opaque_At.calls kj3 (fun k_ => True) _ _ t277 a1 t282 t285 _ ?side1 A14.out).mono ?_); (case side1 => exact HO279.out); rintro e w19 ⟨v283, rfl, ho0, hb⟩; refine ⟨_, rfl, ?_⟩; have n0_ := Aside0.mk (Kd.V_below (by (with_reducible repeat (first | apply Kd.V_alloc | apply Kd.V_drewN | apply Kd.V_drew)); exact HO279.out) hb); have n1_ := Aside0.mk (Kd.V_lower (Kd.V_mono (ok' := fun k_ => True) ho0 (fun k_ hk_ => trivial)) bsz_); have n2_ := Aside0.mk (bst_ hb); clear HO279; clear HB; have HO279 := n0_; have HO284 := n1_; have HB := n2_; clear n0_ n1_ n2_; (try clear hb); (try clear hb2); (try clear hk); (try clear hi); (try clear ho0)) | (go_at_call 33; (with_reducible refine (opaque_At.calls kj3 (fun k_ => True) _ _ t277 a1 t282 t285 _ ?side1 A14.out).mono ?_); (case side1 => exact HO279.out); rintro e w19 ⟨v283, rfl, ho0, hb⟩; have n0_ := Aside0.mk (Kd.V_below (by (with_reducible repeat (first | apply Kd.V_alloc | apply Kd.V_drewN | apply Kd.V_drew)); exact HO279.out) hb); have n1_ := Aside0.mk (Kd.V_lower (Kd.V_mono (ok' := fun k_ => True) ho0 (fun k_ hk_ => trivial)) bsz_); have n2_ := Aside0.mk (bst_ hb); clear HO279; clear HB; have HO279 := n0_; have HO284 := n1_; have HB := n2_; clear n0_ n1_ n2_; (try clear hb); (try clear hb2); (try clear hk); (try clear hi); (try clear ho0)))) | ((first | ((with_reducible refine gate_callee (f := 33) rfl ?_); refine goesL_ (some 46) rfl rfl Try.func33 (by kernel_rfl) rfl #[.slice Ao18 t277.length co18, .int .i64 (wrap64 (a1 - 1))] rfl (by (try simp only [List.map_toArray, List.map_cons, List.map_nil]); first | done | rfl) ?_; (with_reducible refine (opaque_At.calls kj3 (fun k_ => True) _ _ t277 (wrap64 (a1 - 1)) t286 t289 _ ?side1 A15.out).mono ?_); (case side1 => exact HO279.out); rintro e w20 ⟨v287, rfl, ho0, hb⟩; refine ⟨_, rfl, ?_⟩; have n0_ := Aside0.mk (Kd.V_below (by (with_reducible repeat (first | apply Kd.V_alloc | apply Kd.V_drewN | apply Kd.V_drew)); exact HO279.out) hb); have n1_ := Aside0.mk (Kd.V_below (by (with_reducible repeat (first | apply Kd.V_alloc | apply Kd.V_drewN | apply Kd.V_drew)); exact HO284.out) hb); have n2_ := Aside0.mk (Kd.V_lower (Kd.V_mono (ok' := fun k_ => True) ho0 (fun k_ hk_ => trivial)) bsz_); have n3_ := Aside0.mk (bst_ hb); clear HO279; clear HO284; clear HB; have HO279 := n0_; have HO284 := n1_; have HO288 := n2_; have HB := n3_; clear n0_ n1_ n2_ n3_; (try clear hb); (try clear hb2); (try clear hk); (try clear hi); (try clear ho0)) | (go_at_call 33; (with_reducible refine (opaque_At.calls kj3 (fun k_ => True) _ _ t277 (wrap64 (a1 - 1)) t286 t289 _ ?side1 A15.out).mono ?_); (case side1 => exact HO279.out); rintro e w20 ⟨v287, rfl, ho0, hb⟩; have n0_ := Aside0.mk (Kd.V_below (by (with_reducible repeat (first | apply Kd.V_alloc | apply Kd.V_drewN | apply Kd.V_drew)); exact HO279.out) hb); have n1_ := Aside0.mk (Kd.V_below (by (with_reducible repeat (first | apply Kd.V_alloc | apply Kd.V_drewN | apply Kd.V_drew)); exact HO284.out) hb); have n2_ := Aside0.mk (Kd.V_lower (Kd.V_mono (ok' := fun k_ => True) ho0 (fun k_ hk_ => trivial)) bsz_); have n3_ := Aside0.mk (bst_ hb); clear HO279; clear HO284; clear HB; have HO279 := n0_; have HO284 := n1_; have HO288 := n2_; have HB := n3_; clear n0_ n1_ n2_ n3_; (try clear hb); (try clear hb2); (try clear hk); (try clear hi); (try clear ho0)))))
       repeat (go_quiet (first | ((first | ((with_reducible refine gate_callee (f := 32) rfl ?_); refine goesL_ (some 30) rfl rfl Try.func32 (by kernel_rfl) rfl #[.slice A0 l0.length c0, .int .i64 a1, .slice A2 l2.length c2] rfl (by (try simp only [List.map_toArray, List.map_cons, List.map_nil]); first | done | rfl) ?_; (with_reducible refine (opaque_Next.calls kj3 (fun k_ => k_ < w.heap.size) _ _ l0 a1 _ _ l2 t277 t280 _ ?side1 ?side2 ?side3 A12.out).mono ?_); (case side1 => exact Kd.V_mk HC0.out (Kd.F_below (Kd.C_F k80_heap HR0.out) (by repeat (with_reducible first | exact HB.out | apply below_alloc | apply pw_below_drewN | apply below_drew1)))); (case side2 => repeat (first | exact (Kd.C_below HR2.out HB.out) | with_reducible first | refine Kd.C_alloc ?_ _ | refine Kd.C_drewN ?_ _ | refine Kd.C_drew ?_)); (case side3 => exact HC2.out); rintro e w17 ⟨v278, rfl, ho0, hb⟩; refine ⟨_, rfl, ?_⟩; have n0_ := Aside0.mk (Kd.V_lower (Kd.V_mono (ok' := fun k_ => True) ho0 (fun k_ hk_ => trivial)) bsz_); have n1_ := Aside0.mk (bst_ hb); clear HB; have HO279 := n0_; have HB := n1_; clear n0_ n1_; (try clear hb); (try clear hb2); (try clear hk); (try clear hi); (try clear ho0)) | (go_at_call 32; (with_reducible refine (opaque_Next.calls kj3 (fun k_ => k_ < w.heap.size) _ _ l0 a1 _ _ l2 t277 t280 _ ?side1 ?side2 ?side3 A12.out).mono ?_); (case side1 => exact Kd.V_mk HC0.out (Kd.F_below (Kd.C_F k80_heap HR0.out) (by repeat (with_reducible first | exact HB.out | apply below_alloc | apply pw_below_drewN | apply below_drew1)))); (case side2 => repeat (first | exact (Kd.C_below HR2.out HB.out) | with_reducible first | refine Kd.C_alloc ?_ _ | refine Kd.C_drewN ?_ _ | refine Kd.C_drew ?_)); (case side3 => exact HC2.out); rintro e w17 ⟨v278, rfl, ho0, hb⟩; have n0_ := Aside0.mk (Kd.V_lower (Kd.V_mono (ok' := fun k_ => True) ho0 (fun k_ hk_ => trivial)) bsz_); have n1_ := Aside0.mk (bst_ hb); clear HB; have HO279 := n0_; have HB := n1_; clear n0_ n1_; (try clear hb); (try clear hb2); (try clear hk); (try clear hi); (try clear ho0))); obtain ⟨Ao18, co18, eo18⟩ := Kd.V_slice HO279.out; subst eo18) | ((first | ((with_reducible refine gate_callee (f := 33) rfl ?_); refine goesL_ (some 39) rfl rfl Try.func33 (by kernel_rfl) rfl #[.slice Ao18 t277.length co18, .int .i64 a1] rfl (by (try simp only [List.map_toArray, List.map_cons, List.map_nil]); first | done | rfl) ?_; (with_reducible refine (opaque_At.calls kj3 (fun k_ => True) _ _ t277 a1 t282 t285 _ ?side1 A14.out).mono ?_); (case side1 => exact HO279.out); rintro e w19 ⟨v283, rfl, ho0, hb⟩; refine ⟨_, rfl, ?_⟩; have n0_ := Aside0.mk (Kd.V_below (by (with_reducible repeat (first | apply Kd.V_alloc | apply Kd.V_drewN | apply Kd.V_drew)); exact HO279.out) hb); have n1_ := Aside0.mk (Kd.V_lower (Kd.V_mono (ok' := fun k_ => True) ho0 (fun k_ hk_ => trivial)) bsz_); have n2_ := Aside0.mk (bst_ hb); clear HO279; clear HB; have HO279 := n0_; have HO284 := n1_; have HB := n2_; clear n0_ n1_ n2_; (try clear hb); (try clear hb2); (try clear hk); (try clear hi); (try clear ho0)) | (go_at_call 33; (with_reducible refine (opaque_At.calls kj3 (fun k_ => True) _ _ t277 a1 t282 t285 _ ?side1 A14.out).mono ?_); (case side1 => exact HO279.out); rintro e w19 ⟨v283, rfl, ho0, hb⟩; have n0_ := Aside0.mk (Kd.V_below (by (with_reducible repeat (first | apply Kd.V_alloc | apply Kd.V_drewN | apply Kd.V_drew)); exact HO279.out) hb); have n1_ := Aside0.mk (Kd.V_lower (Kd.V_mono (ok' := fun k_ => True) ho0 (fun k_ hk_ => trivial)) bsz_); have n2_ := Aside0.mk (bst_ hb); clear HO279; clear HB; have HO279 := n0_; have HO284 := n1_; have HB := n2_; clear n0_ n1_ n2_; (try clear hb); (try clear hb2); (try clear hk); (try clear hi); (try clear ho0)))) | ((first | ((with_reducible refine gate_callee (f := 33) rfl ?_); refine goesL_ (some 46) rfl rfl Try.func33 (by kernel_rfl) rfl #[.slice Ao18 t277.length co18, .int .i64 (wrap64 (a1 - 1))] rfl (by (try simp only [List.map_toArray, List.map_cons, List.map_nil]); first | done | rfl) ?_; (with_reducible refine (opaque_At.calls kj3 (fun k_ => True) _ _ t277 (wrap64 (a1 - 1)) t286 t289 _ ?side1 A15.out).mono ?_); (case side1 => exact HO279.out); rintro e w20 ⟨v287, rfl, ho0, hb⟩; refine ⟨_, rfl, ?_⟩; have n0_ := Aside0.mk (Kd.V_below (by (with_reducible repeat (first | apply Kd.V_alloc | apply Kd.V_drewN | apply Kd.V_drew)); exact HO279.out) hb); have n1_ := Aside0.mk (Kd.V_below (by (with_reducible repeat (first | apply Kd.V_alloc | apply Kd.V_drewN | apply Kd.V_drew)); exact HO284.out) hb); have n2_ := Aside0.mk (Kd.V_lower (Kd.V_mono (ok' := fun k_ => True) ho0 (fun k_ hk_ => trivial)) bsz_); have n3_ := Aside0.mk (bst_ hb); clear HO279; clear HO284; clear HB; have HO279 := n0_; have HO284 := n1_; have HO288 := n2_; have HB := n3_; clear n0_ n1_ n2_ n3_; (try clear hb); (try clear hb2); (try clear hk); (try clear hi); (try clear ho0)) | (go_at_call 33; (with_reducible refine (opaque_At.calls kj3 (fun k_ => True) _ _ t277 (wrap64 (a1 - 1)) t286 t289 _ ?side1 A15.out).mono ?_); (case side1 => exact HO279.out); rintro e w20 ⟨v287, rfl, ho0, hb⟩; have n0_ := Aside0.mk (Kd.V_below (by (with_reducible repeat (first | apply Kd.V_alloc | apply Kd.V_drewN | apply Kd.V_drew)); exact HO279.out) hb); have n1_ := Aside0.mk (Kd.V_below (by (with_reducible repeat (first | apply Kd.V_alloc | apply Kd.V_drewN | apply Kd.V_drew)); exact HO284.out) hb); have n2_ := Aside0.mk (Kd.V_lower (Kd.V_mono (ok' := fun k_ => True) ho0 (fun k_ hk_ => trivial)) bsz_); have n3_ := Aside0.mk (bst_ hb); clear HO279; clear HO284; clear HB; have HO279 := n0_; have HO284 := n1_; have HO288 := n2_; have HB := n3_; clear n0_ n1_ n2_ n3_; (try clear hb); (try clear hb2); (try clear hk); (try clear hi); (try clear ho0))))); go_upto_region 8 with (first | ((first | ((with_reducible refine gate_callee (f := 32) rfl ?_); refine goesL_ (some 30) rfl rfl Try.func32 (by kernel_rfl) rfl #[.slice A0 l0.length c0, .int .i64 a1, .slice A2 l2.length c2] rfl (by (try simp only [List.map_toArray, List.map_cons, List.map_nil]); first | done | rfl) ?_; (with_reducible refine (opaque_Next.calls kj3 (fun k_ => k_ < w.heap.size) _ _ l0 a1 _ _ l2 t277 t280 _ ?side1 ?side2 ?side3 A12.out).mono ?_); (case side1 => exact Kd.V_mk HC0.out (Kd.F_below (Kd.C_F k80_heap HR0.out) (by repeat (with_reducible first | exact HB.out | apply below_alloc | apply pw_below_drewN | apply below_drew1)))); (case side2 => repeat (first | exact (Kd.C_below HR2.out HB.out) | with_reducible first | refine Kd.C_alloc ?_ _ | refine Kd.C_drewN ?_ _ | refine Kd.C_drew ?_)); (case side3 => exact HC2.out); rintro e w17 ⟨v278, rfl, ho0, hb⟩; refine ⟨_, rfl, ?_⟩; have n0_ := Aside0.mk (Kd.V_lower (Kd.V_mono (ok' := fun k_ => True) ho0 (fun k_ hk_ => trivial)) bsz_); have n1_ := Aside0.mk (bst_ hb); clear HB; have HO279 := n0_; have HB := n1_; clear n0_ n1_; (try clear hb); (try clear hb2); (try clear hk); (try clear hi); (try clear ho0)) | (go_at_call 32; (with_reducible refine (opaque_Next.calls kj3 (fun k_ => k_ < w.heap.size) _ _ l0 a1 _ _ l2 t277 t280 _ ?side1 ?side2 ?side3 A12.out).mono ?_); (case side1 => exact Kd.V_mk HC0.out (Kd.F_below (Kd.C_F k80_heap HR0.out) (by repeat (with_reducible first | exact HB.out | apply below_alloc | apply pw_below_drewN | apply below_drew1)))); (case side2 => repeat (first | exact (Kd.C_below HR2.out HB.out) | with_reducible first | refine Kd.C_alloc ?_ _ | refine Kd.C_drewN ?_ _ | refine Kd.C_drew ?_)); (case side3 => exact HC2.out); rintro e w17 ⟨v278, rfl, ho0, hb⟩; have n0_ := Aside0.mk (Kd.V_lower (Kd.V_mono (ok' := fun k_ => True) ho0 (fun k_ hk_ => trivial)) bsz_); have n1_ := Aside0.mk (bst_ hb); clear HB; have HO279 := n0_; have HB := n1_; clear n0_ n1_; (try clear hb); (try clear hb2); (try clear hk); (try clear hi); (try clear ho0))); obtain ⟨Ao18, co18, eo18⟩ := Kd.V_slice HO279.out; subst eo18) | ((first | ((with_reducible refine gate_callee (f := 33) rfl ?_); refine goesL_ (some 39) rfl rfl Try.func33 (by kernel_rfl) rfl #[.slice Ao18 t277.length co18, .int .i64 a1] rfl (by (try simp only [List.map_toArray, List.map_cons, List.map_nil]); first | done | rfl) ?_; (with_reducible refine (opaque_At.calls kj3 (fun k_ => True) _ _ t277 a1 t282 t285 _ ?side1 A14.out).mono ?_); (case side1 => exact HO279.out); rintro e w19 ⟨v283, rfl, ho0, hb⟩; refine ⟨_, rfl, ?_⟩; have n0_ := Aside0.mk (Kd.V_below (by (with_reducible repeat (first | apply Kd.V_alloc | apply Kd.V_drewN | apply Kd.V_drew)); exact HO279.out) hb); have n1_ := Aside0.mk (Kd.V_lower (Kd.V_mono (ok' := fun k_ => True) ho0 (fun k_ hk_ => trivial)) bsz_); have n2_ := Aside0.mk (bst_ hb); clear HO279; clear HB; have HO279 := n0_; have HO284 := n1_; have HB := n2_; clear n0_ n1_ n2_; (try clear hb); (try clear hb2); (try clear hk); (try clear hi); (try clear ho0)) | (go_at_call 33; (with_reducible refine (opaque_At.calls kj3 (fun k_ => True) _ _ t277 a1 t282 t285 _ ?side1 A14.out).mono ?_); (case side1 => exact HO279.out); rintro e w19 ⟨v283, rfl, ho0, hb⟩; have n0_ := Aside0.mk (Kd.V_below (by (with_reducible repeat (first | apply Kd.V_alloc | apply Kd.V_drewN | apply Kd.V_drew)); exact HO279.out) hb); have n1_ := Aside0.mk (Kd.V_lower (Kd.V_mono (ok' := fun k_ => True) ho0 (fun k_ hk_ => trivial)) bsz_); have n2_ := Aside0.mk (bst_ hb); clear HO279; clear HB; have HO279 := n0_; have HO284 := n1_; have HB := n2_; clear n0_ n1_ n2_; (try clear hb); (try clear hb2); (try clear hk); (try clear hi); (try clear ho0)))) | ((first | ((with_reducible refine gate_callee (f := 33) rfl ?_); refine goesL_ (some 46) rfl rfl Try.func33 (by kernel_rfl) rfl #[.slice Ao18 t277.length co18, .int .i64 (wrap64 (a1 - 1))] rfl (by (try simp only [List.map_toArray, List.map_cons, List.map_nil]); first | done | rfl) ?_; (with_reducible refine (opaque_At.calls kj3 (fun k_ => True) _ _ t277 (wrap64 (a1 - 1)) t286 t289 _ ?side1 A15.out).mono ?_); (case side1 => exact HO279.out); rintro e w20 ⟨v287, rfl, ho0, hb⟩; refine ⟨_, rfl, ?_⟩; have n0_ := Aside0.mk (Kd.V_below (by (with_reducible repeat (first | apply Kd.V_alloc | apply Kd.V_drewN | apply Kd.V_drew)); exact HO279.out) hb); have n1_ := Aside0.mk (Kd.V_below (by (with_reducible repeat (first | apply Kd.V_alloc | apply Kd.V_drewN | apply Kd.V_drew)); exact HO284.out) hb); have n2_ := Aside0.mk (Kd.V_lower (Kd.V_mono (ok' := fun k_ => True) ho0 (fun k_ hk_ => trivial)) bsz_); have n3_ := Aside0.mk (bst_ hb); clear HO279; clear HO284; clear HB; have HO279 := n0_; have HO284 := n1_; have HO288 := n2_; have HB := n3_; clear n0_ n1_ n2_ n3_; (try clear hb); (try clear hb2); (try clear hk); (try clear hi); (try clear ho0)) | (go_at_call 33; (with_reducible refine (opaque_At.calls kj3 (fun k_ => True) _ _ t277 (wrap64 (a1 - 1)) t286 t289 _ ?side1 A15.out).mono ?_); (case side1 => exact HO279.out); rintro e w20 ⟨v287, rfl, ho0, hb⟩; have n0_ := Aside0.mk (Kd.V_below (by (with_reducible repeat (first | apply Kd.V_alloc | apply Kd.V_drewN | apply Kd.V_drew)); exact HO279.out) hb); have n1_ := Aside0.mk (Kd.V_below (by (with_reducible repeat (first | apply Kd.V_alloc | apply Kd.V_drewN | apply Kd.V_drew)); exact HO284.out) hb); have n2_ := Aside0.mk (Kd.V_lower (Kd.V_mono (ok' := fun k_ => True) ho0 (fun k_ hk_ => trivial)) bsz_); have n3_ := Aside0.mk (bst_ hb); clear HO279; clear HO284; clear HB; have HO279 := n0_; have HO284 := n1_; have HO288 := n2_; have HB := n3_; clear n0_ n1_ n2_ n3_; (try clear hb); (try clear hb2); (try clear hk); (try clear hi); (try clear ho0))))))
       (try simp only [Act.put, List.setIfInBounds_toArray, List.set_cons_zero, List.set_cons_succ])
       go_cut [61] (fun v61 wc => ∃ (kq : Nat) (x61_15 : Bool), v61 = .bool x61_15 ∧ Aside0 (handshakerlaw13_OpaqueWrites.j1 kq l2 t282 t286 x61_15 = some r) ∧ Aside0 (kq ≤ kj3) ∧ Aside0 (Kd.V k66 66 wc w.heap.size (fun _ => True) v283 t282) ∧ Aside0 (Kd.V k66 66 wc w.heap.size (fun _ => True) v287 t286) ∧ Aside0 (Below w.heap.size w wc))
       case first =>
        have H := HC16.out
        clear HC16
        by_cases c21 : t285 = 0
        · rw [if_pos c21] at H
          have c21b0 : (t285 == 0) = true := beq_iff_eq.mpr c21
          have c21b1 : (t285 != 0) = false := bne_eq_false_iff_eq.mpr c21
          clear c21
          (first | rw [c21b0] | (simp only [i64_w, i32_w]; rw [c21b0]) | skip)
          by_cases c22 : t289 = 0
          · rw [if_pos c22] at H
            have c22b0 : (t289 == 0) = true := beq_iff_eq.mpr c22
            have c22b1 : (t289 != 0) = false := bne_eq_false_iff_eq.mpr c22
            clear c22
            have H' := Aside0.mk H
            clear H
            obtain ⟨Ao23, co23, eo23⟩ := Kd.V_slice HO284.out
            subst eo23
            obtain ⟨Ao24, co24, eo24⟩ := Kd.V_slice HO288.out
            subst eo24
            go_wp2
            repeat (go_quiet (fail); try go_wp2)
            go_meet
            case rel => exact ⟨_, (((t282.length : Int) != (t286.length : Int))), (by first | rfl | (simp; done) | (simp [*]; done)), H', ⟨by have := HJ3.out; first | omega | exact Nat.le_refl _⟩, ⟨by (with_reducible repeat (first | apply Kd.V_alloc | apply Kd.V_drewN | apply Kd.V_drew)); exact HO284.out⟩, ⟨by (with_reducible repeat (first | apply Kd.V_alloc | apply Kd.V_drewN | apply Kd.V_drew)); exact HO288.out⟩, ⟨by repeat (with_reducible first | exact HB.out | apply below_alloc | apply pw_below_drewN | apply below_drew1)⟩⟩
          · rw [if_neg c22] at H
            have c22b0 : (t289 == 0) = false := beq_eq_false_iff_ne.mpr c22
            have c22b1 : (t289 != 0) = true := bne_iff_ne.mpr c22
            have H' := Aside0.mk H
            clear H
            go_wp2
            repeat (go_quiet (fail); try go_wp2)
            go_meet
            case rel => exact ⟨_, (true), (by first | rfl | (simp; done) | (simp [*]; done)), H', ⟨by have := HJ3.out; first | omega | exact Nat.le_refl _⟩, ⟨by (with_reducible repeat (first | apply Kd.V_alloc | apply Kd.V_drewN | apply Kd.V_drew)); exact HO284.out⟩, ⟨by (with_reducible repeat (first | apply Kd.V_alloc | apply Kd.V_drewN | apply Kd.V_drew)); exact HO288.out⟩, ⟨by repeat (with_reducible first | exact HB.out | apply below_alloc | apply pw_below_drewN | apply below_drew1)⟩⟩
        · rw [if_neg c21] at H
          have c21b0 : (t285 == 0) = false := beq_eq_false_iff_ne.mpr c21
          have c21b1 : (t285 != 0) = true := bne_iff_ne.mpr c21
          (first | rw [c21b0] | (simp only [i64_w, i32_w]; rw [c21b0]) | skip)
          have H' := Aside0.mk H
          clear H
          go_wp2
          repeat (go_quiet (fail); try go_wp2)
          go_meet
          case rel => exact ⟨_, (true), (by first | rfl | (simp; done) | (simp [*]; done)), H', ⟨by have := HJ3.out; first | omega | exact Nat.le_refl _⟩, ⟨by (with_reducible repeat (first | apply Kd.V_alloc | apply Kd.V_drewN | apply Kd.V_drew)); exact HO284.out⟩, ⟨by (with_reducible repeat (first | apply Kd.V_alloc | apply Kd.V_drewN | apply Kd.V_drew)); exact HO288.out⟩, ⟨by repeat (with_reducible first | exact HB.out | apply below_alloc | apply pw_below_drewN | apply below_drew1)⟩⟩
       case rest =>
        clear HC16
        try clear c1
        try clear c2
        try clear p2
        try clear c3
        try clear c6
        try clear p6
        try clear c9
        try clear c13
        try clear c13b0
        try clear c13b1
        try clear c21
        try clear c21b0
        try clear c21b1
        try clear c22
        try clear c22b0
        try clear c22b1
        try clear p2
        obtain ⟨kq, x61_15, rfl, HA, HJ15, HO_9, HO_11, HB⟩ := hcut
        cases kq with
        | zero => exact absurd HA.out (by simp [handshakerlaw13_OpaqueWrites.j1])
        | succ kj15 =>
         have H := HA.out
         clear HA
         simp only [handshakerlaw13_OpaqueWrites.j1] at H
         by_cases c25 : x61_15 = true
         · subst c25
           have H1 : (some false) = some r := by rw [if_pos rfl] at H; exact H
           clear H
           have H := H1
           clear H1
           exact absurd (Option.some.inj H) (by rw [HT.out]; decide)
         · replace c25 := Bool.eq_false_iff.mpr c25
           subst c25
           have H1 : (handshakerlaw13_OpaqueWrites.l0 kj15 l2 t282 t286 (t282.length : Int) 0) = some r := by rw [if_neg (show ¬ (false = true) by decide)] at H; exact H
           clear H
           have H := H1
           clear H1
           have H' := Aside0.mk H
           clear H
           obtain ⟨Ao26, co26, eo26⟩ := Kd.V_slice HO_9.out
           subst eo26
           go_wp2
           repeat (go_quiet (fail); try go_wp2)
           go_loopg [64] kj15 (fun kq v64 w' => ∃ (x64_3 : Int), v64 = .int .i64 x64_3 ∧ Aside0 (handshakerlaw13_OpaqueWrites.l0 kq l2 t282 t286 (t282.length : Int) x64_3 = some r) ∧ Aside0 (kq ≤ kj15) ∧ Aside0 (Kd.V k66 66 w' w.heap.size (fun _ => True) (.slice Ao26 t282.length co26) t282) ∧ Aside0 (Kd.V k66 66 w' w.heap.size (fun _ => True) v287 t286) ∧ Aside0 (Below w.heap.size w w'))
           case atStart => exact ⟨(0), (by first | rfl | (simp; done) | (simp [*]; done)), H', ⟨Nat.le_refl _⟩, ⟨by (with_reducible repeat (first | apply Kd.V_alloc | apply Kd.V_drewN | apply Kd.V_drew)); exact HO_9.out⟩, ⟨by (with_reducible repeat (first | apply Kd.V_alloc | apply Kd.V_drewN | apply Kd.V_drew)); exact HO_11.out⟩, ⟨by repeat (with_reducible first | exact HB.out | apply below_alloc | apply pw_below_drewN | apply below_drew1)⟩⟩
           case round =>
            clear H'
            try clear c1
            try clear c2
            try clear p2
            try clear c3
            try clear c6
            try clear p6
            try clear c9
            try clear c13
            try clear c13b0
            try clear c13b1
            try clear c21
            try clear c21b0
            try clear c21b1
            try clear c22
            try clear c22b0
            try clear c22b1
            try clear c25
            try clear p2
            try clear p6
            obtain ⟨x64_3, rfl, HA, HK3, HO_9, HO_11, HB⟩ := hrel
            cases gk with
            | zero => exact absurd HA.out (by simp [handshakerlaw13_OpaqueWrites.l0])
            | succ k3 =>
             have H := HA.out
             clear HA
             simp only [handshakerlaw13_OpaqueWrites.l0] at H
             by_cases c27 : x64_3 < (t282.length : Int)
             · rw [if_pos c27] at H
               have c27b0 : decide (x64_3 < (t282.length : Int)) = true := decide_eq_true c27
               clear c27
               by_cases c28 : 0 ≤ x64_3
               · rw [if_pos c28] at H
                 have c28b0 : decide (0 ≤ x64_3) = true := decide_eq_true c28
                 clear c28
                 by_cases c29 : x64_3 < (t286.length : Int)
                 · rw [if_pos c29] at H
                   have c29b0 : decide (x64_3 < (t286.length : Int)) = true := decide_eq_true c29
                   clear c29
                   have H' := Aside0.mk H
                   clear H
                   obtain ⟨Ao30, co30, eo30⟩ := Kd.V_slice HO_11.out
                   subst eo30
                   have p291 : 0 ≤ (x64_3 : Int) := of_decide_eq_true (by first | (with_reducible assumption) | assumption)
                   have q291 : x64_3 < (t286.length : Int) := of_decide_eq_true (by first | (with_reducible assumption) | assumption)
                   obtain ⟨ad291, e291, hx291_0, hx291_1⟩ := at_T66 (Kd.V_reads' HO_11.out).2.2 x64_3 p291 q291
                   cases e291
                   replace p291 := eq_true p291
                   replace q291 := eq_true q291
                   go_wp2_with (first | ((with_reducible refine gate_dst (N := 14) rfl ?_); (try (refine gate_guard (by rfl) ?_; dsimp only)); refine box_event ?hg (N := 14) ?hd (cs := #[.bool false, .int .i64 0]) (t := 66) ?hr ?_; (case hd => rfl); (case hg => rfl); (case hr => first | (go_simp; done) | (go_simp; rfl)); intro gb292 hg w31 hbox hb; have n0_ := Aside0.mk (Kd.V_below (Kd.V_elderB (by (with_reducible repeat (first | apply Kd.V_alloc | apply Kd.V_drewN | apply Kd.V_drew)); exact HO_9.out) gb292 (Nat.le_of_eq hg.symm)) hb); have n1_ := Aside0.mk (Kd.V_below (Kd.V_elderB (by (with_reducible repeat (first | apply Kd.V_alloc | apply Kd.V_drewN | apply Kd.V_drew)); exact HO_11.out) gb292 (Nat.le_of_eq hg.symm)) hb); have n2_ := Aside0.mk (bst_ hb); have n3_ := Aside0.mk (hbox); have n4_ := Aside0.mk ((by rw [hg]; exact bsz_ : w.heap.size ≤ gb292)); have n5_ := n4_; clear HO_9; clear HO_11; clear HB; have HO_9 := n0_; have HO_11 := n1_; have HB := n2_; have BK292 := n3_; have GW292 := n4_; have GE292 := n5_; clear n0_ n1_ n2_ n3_ n4_ n5_; clear hb hbox hg; have hcz32_0 : w31.cell? ⟨gb292, 0, none⟩ = some (.bool false) := (blk_cell BK292.out 0).trans rfl; have hcz32_1 : w31.cell? ⟨gb292, 1, none⟩ = some (.int .i64 0) := (blk_cell BK292.out 1).trans rfl; have hfz32_0 := blk_frozen BK292.out 0; have hfz32_1 := blk_frozen BK292.out 1))
                   repeat (go_quiet (first | ((with_reducible refine gate_dst (N := 14) rfl ?_); (try (refine gate_guard (by rfl) ?_; dsimp only)); refine box_event ?hg (N := 14) ?hd (cs := #[.bool false, .int .i64 0]) (t := 66) ?hr ?_; (case hd => rfl); (case hg => rfl); (case hr => first | (go_simp; done) | (go_simp; rfl)); intro gb292 hg w31 hbox hb; have n0_ := Aside0.mk (Kd.V_below (Kd.V_elderB (by (with_reducible repeat (first | apply Kd.V_alloc | apply Kd.V_drewN | apply Kd.V_drew)); exact HO_9.out) gb292 (Nat.le_of_eq hg.symm)) hb); have n1_ := Aside0.mk (Kd.V_below (Kd.V_elderB (by (with_reducible repeat (first | apply Kd.V_alloc | apply Kd.V_drewN | apply Kd.V_drew)); exact HO_11.out) gb292 (Nat.le_of_eq hg.symm)) hb); have n2_ := Aside0.mk (bst_ hb); have n3_ := Aside0.mk (hbox); have n4_ := Aside0.mk ((by rw [hg]; exact bsz_ : w.heap.size ≤ gb292)); have n5_ := n4_; clear HO_9; clear HO_11; clear HB; have HO_9 := n0_; have HO_11 := n1_; have HB := n2_; have BK292 := n3_; have GW292 := n4_; have GE292 := n5_; clear n0_ n1_ n2_ n3_ n4_ n5_; clear hb hbox hg; have hcz32_0 : w31.cell? ⟨gb292, 0, none⟩ = some (.bool false) := (blk_cell BK292.out 0).trans rfl; have hcz32_1 : w31.cell? ⟨gb292, 1, none⟩ = some (.int .i64 0) := (blk_cell BK292.out 1).trans rfl; have hfz32_0 := blk_frozen BK292.out 0; have hfz32_1 := blk_frozen BK292.out 1)); try go_wp2_with (first | ((with_reducible refine gate_dst (N := 14) rfl ?_); (try (refine gate_guard (by rfl) ?_; dsimp only)); refine box_event ?hg (N := 14) ?hd (cs := #[.bool false, .int .i64 0]) (t := 66) ?hr ?_; (case hd => rfl); (case hg => rfl); (case hr => first | (go_simp; done) | (go_simp; rfl)); intro gb292 hg w31 hbox hb; have n0_ := Aside0.mk (Kd.V_below (Kd.V_elderB (by (with_reducible repeat (first | apply Kd.V_alloc | apply Kd.V_drewN | apply Kd.V_drew)); exact HO_9.out) gb292 (Nat.le_of_eq hg.symm)) hb); have n1_ := Aside0.mk (Kd.V_below (Kd.V_elderB (by (with_reducible repeat (first | apply Kd.V_alloc | apply Kd.V_drewN | apply Kd.V_drew)); exact HO_11.out) gb292 (Nat.le_of_eq hg.symm)) hb); have n2_ := Aside0.mk (bst_ hb); have n3_ := Aside0.mk (hbox); have n4_ := Aside0.mk ((by rw [hg]; exact bsz_ : w.heap.size ≤ gb292)); have n5_ := n4_; clear HO_9; clear HO_11; clear HB; have HO_9 := n0_; have HO_11 := n1_; have HB := n2_; have BK292 := n3_; have GW292 := n4_; have GE292 := n5_; clear n0_ n1_ n2_ n3_ n4_ n5_; clear hb hbox hg; have hcz32_0 : w31.cell? ⟨gb292, 0, none⟩ = some (.bool false) := (blk_cell BK292.out 0).trans rfl; have hcz32_1 : w31.cell? ⟨gb292, 1, none⟩ = some (.int .i64 0) := (blk_cell BK292.out 1).trans rfl; have hfz32_0 := blk_frozen BK292.out 0; have hfz32_1 := blk_frozen BK292.out 1)))
                   go_loopg [73] k3 (fun kq v73 w' => ∃ (x73_4 : Int) (x293001_4 : Int), v73 = .int .i64 x73_4 ∧ Aside0 (handshakerlaw13_OpaqueWrites.l1 kq l2 t282 t286 x64_3 (t282.length : Int) x64_3 l2 (l2.length : Int) x73_4 ((rd_T66 t286 x64_3).f0) x293001_4 = some r) ∧ Aside0 (kq ≤ k3) ∧ Aside0 (Kd.V k66 66 w' w.heap.size (fun k_ => k_ ≠ gb292) (.slice Ao26 t282.length co26) t282) ∧ Aside0 (Kd.V k66 66 w' w.heap.size (fun k_ => k_ ≠ gb292) (.slice (some ad291) t286.length co30) t286) ∧ Aside0 (w'.heap[gb292]? = some (.cells #[.bool ((rd_T66 t286 x64_3).f0), .int .i64 x293001_4] 66 (0, 0))) ∧ Aside0 (Below w.heap.size w w'))
                   case atStart => exact ⟨(0), ((rd_T66 t286 x64_3).f1), (by first | rfl | (simp; done) | (simp [*]; done)), H', ⟨Nat.le_refl _⟩, ⟨by (with_reducible repeat (first | apply Kd.V_alloc | apply Kd.V_drewN | apply Kd.V_drew)); exact Kd.V_mono (Kd.V_far (p := ⟨gb292, 1, none⟩) (Kd.V_far (p := ⟨gb292, 0, none⟩) (Kd.V_mono HO_9.out (fun k_ hk => (⟨hk, hk.2⟩ : _ ∧ k_ ≠ gb292))) (fun _ hk => hk.2) (.bool ((rd_T66 t286 x64_3).f0))) (fun _ hk => hk.2) (.int .i64 ((rd_T66 t286 x64_3).f1))) (fun _ hk => hk.1.2)⟩, ⟨by (with_reducible repeat (first | apply Kd.V_alloc | apply Kd.V_drewN | apply Kd.V_drew)); exact Kd.V_mono (Kd.V_far (p := ⟨gb292, 1, none⟩) (Kd.V_far (p := ⟨gb292, 0, none⟩) (Kd.V_mono HO_11.out (fun k_ hk => (⟨hk, hk.2⟩ : _ ∧ k_ ≠ gb292))) (fun _ hk => hk.2) (.bool ((rd_T66 t286 x64_3).f0))) (fun _ hk => hk.2) (.int .i64 ((rd_T66 t286 x64_3).f1))) (fun _ hk => hk.1.2)⟩, ⟨by (with_reducible repeat (first | refine blk_drewN ?_ _ | refine blk_drew ?_ | refine blk_alloc ?_ _)); refine blk_put (cs := #[.bool ((rd_T66 t286 x64_3).f0), .int .i64 0]) ?_ 1 _ rfl; (with_reducible repeat (first | refine blk_drewN ?_ _ | refine blk_drew ?_ | refine blk_alloc ?_ _)); refine blk_put (cs := #[.bool false, .int .i64 0]) ?_ 0 _ rfl; (with_reducible repeat (first | refine blk_drewN ?_ _ | refine blk_drew ?_ | refine blk_alloc ?_ _)); exact BK292.out⟩, ⟨by repeat (with_reducible first | exact HB.out | apply below_alloc | apply pw_below_drewN | apply below_drew1 | refine below_set ?_ GE292.out)⟩⟩
                   case round =>
                    clear H'
                    try clear c1
                    try clear c2
                    try clear p2
                    try clear q2
                    try clear hx2
                    try clear c3
                    try clear c6
                    try clear p6
                    try clear c9
                    try clear c13
                    try clear c13b0
                    try clear c13b1
                    try clear c21
                    try clear c21b0
                    try clear c21b1
                    try clear c22
                    try clear c22b0
                    try clear c22b1
                    try clear c25
                    try clear c27
                    try clear c27b0
                    try clear c28
                    try clear c28b0
                    try clear c29
                    try clear c29b0
                    try clear p29
                    try clear q29
                    try clear hx29
                    try clear c30
                    try clear c31
                    try clear c32
                    try clear hcz32_0
                    try clear hcz32_1
                    try clear hfz32_0
                    try clear hfz32_1
                    try clear hx291_0
                    try clear hx291_1
                    try clear p2
                    try clear p291
                    try clear p6
                    try clear q291
                    obtain ⟨x73_4, x293001_4, rfl, HA, HK4, HO_9, HO_11, BK292, HB⟩ := hrel
                    cases gk with
                    | zero => exact absurd HA.out (by simp [handshakerlaw13_OpaqueWrites.l1])
                    | succ k4 =>
                     have H := HA.out
                     clear HA
                     simp only [handshakerlaw13_OpaqueWrites.l1] at H
                     by_cases c33 : x73_4 < (l2.length : Int)
                     · rw [if_pos c33] at H
                       have c33b0 : decide (x73_4 < (l2.length : Int)) = true := decide_eq_true c33
                       clear c33
                       by_cases c34 : 0 ≤ x73_4
                       · rw [if_pos c34] at H
                         have c34b0 : decide (0 ≤ x73_4) = true := decide_eq_true c34
                         clear c34
                         by_cases c35 : x73_4 < (l2.length : Int)
                         · rw [if_pos c35] at H
                           have c35b0 : decide (x73_4 < (l2.length : Int)) = true := decide_eq_true c35
                           clear c35
                           by_cases c36 : ((rd_T77 l2 x73_4).f0) = x64_3
                           · rw [if_pos c36] at H
                             have c36b0 : (((rd_T77 l2 x73_4).f0) == x64_3) = true := beq_iff_eq.mpr c36
                             have c36b1 : (((rd_T77 l2 x73_4).f0) != x64_3) = false := bne_eq_false_iff_eq.mpr c36
                             clear c36
                             have H' := Aside0.mk H
                             clear H
                             have p293 : 0 ≤ (x73_4 : Int) := of_decide_eq_true (by first | (with_reducible assumption) | assumption)
                             have q293 : x73_4 < (l2.length : Int) := of_decide_eq_true (by first | (with_reducible assumption) | assumption)
                             obtain ⟨ad293, e293, hx293_0, hx293_1⟩ := at_T77 HR2.out x73_4 p293 q293
                             cases e293
                             replace hx293_0 := (HB.out.cell (World.block_lt_of_cell? w _ hx293_0)).trans hx293_0
                             replace hx293_1 := (HB.out.cell (World.block_lt_of_cell? w _ hx293_1)).trans hx293_1
                             replace p293 := eq_true p293
                             replace q293 := eq_true q293
                             go_wp2_with (first | ((with_reducible refine gate_dst (N := 16) rfl ?_); (try (refine gate_guard (by rfl) ?_; dsimp only)); refine box_event ?hg (N := 16) ?hd (cs := #[.int .i64 0, .int .i64 0]) (t := 77) ?hr ?_; (case hd => rfl); (case hg => rfl); (case hr => first | (go_simp; done) | (go_simp; rfl)); intro gb294 hg w37 hbox hb; have n0_ := Aside0.mk (Kd.V_below (Kd.V_elderB (by (with_reducible repeat (first | apply Kd.V_alloc | apply Kd.V_drewN | apply Kd.V_drew)); exact HO_9.out) gb294 (Nat.le_of_eq hg.symm)) hb); have n1_ := Aside0.mk (Kd.V_below (Kd.V_elderB (by (with_reducible repeat (first | apply Kd.V_alloc | apply Kd.V_drewN | apply Kd.V_drew)); exact HO_11.out) gb294 (Nat.le_of_eq hg.symm)) hb); have n2_ := Aside0.mk (blk_below (g := gb292) (o := .cells #[.bool ((rd_T66 t286 x64_3).f0), .int .i64 x293001_4] 66 (0, 0)) (by (with_reducible repeat (first | refine blk_drewN ?_ _ | refine blk_drew ?_ | refine blk_alloc ?_ _)); exact BK292.out) hb); have n3_ := Aside0.mk (below_step (by repeat (with_reducible first | exact HB.out | apply below_alloc | apply pw_below_drewN | apply below_drew1 | refine below_set ?_ GE292.out)) hb); have n4_ := Aside0.mk (hbox); have n5_ := Aside0.mk ((by rw [hg]; exact (below_size (by repeat (with_reducible first | exact HB.out | apply below_alloc | apply pw_below_drewN | apply below_drew1 | refine below_set ?_ GE292.out))) : w.heap.size ≤ gb294)); have n6_ := n5_; have n7_ := Aside0.mk ((by rw [hg]; exact Nat.ne_of_lt (blk_lt (g := gb292) (o := .cells #[.bool ((rd_T66 t286 x64_3).f0), .int .i64 x293001_4] 66 (0, 0)) (by (with_reducible repeat (first | refine blk_drewN ?_ _ | refine blk_drew ?_ | refine blk_alloc ?_ _)); exact BK292.out)) : gb292 ≠ gb294)); have n8_ := Aside0.mk ((by rw [hg]; exact Nat.ne_of_gt (blk_lt (g := gb292) (o := .cells #[.bool ((rd_T66 t286 x64_3).f0), .int .i64 x293001_4] 66 (0, 0)) (by (with_reducible repeat (first | refine blk_drewN ?_ _ | refine blk_drew ?_ | refine blk_alloc ?_ _)); exact BK292.out)) : gb294 ≠ gb292)); clear HO_9; clear HO_11; clear BK292; clear HB; have HO_9 := n0_; have HO_11 := n1_; have BK292 := n2_; have HB := n3_; have BK294 := n4_; have GW294 := n5_; have GE294 := n6_; have NB292_294 := n7_; have NB294_292 := n8_; clear n0_ n1_ n2_ n3_ n4_ n5_ n6_ n7_ n8_; clear hb hbox hg; have hnb38 := NB294_292.out; have hnc38 := NB292_294.out; have hcz39_0 : w37.cell? ⟨gb294, 0, none⟩ = some (.int .i64 0) := (blk_cell BK294.out 0).trans rfl; have hcz39_1 : w37.cell? ⟨gb294, 1, none⟩ = some (.int .i64 0) := (blk_cell BK294.out 1).trans rfl; have hfz39_0 := blk_frozen BK294.out 0; have hfz39_1 := blk_frozen BK294.out 1; have hcz40_0 : w37.cell? ⟨gb292, 0, none⟩ = some (.bool ((rd_T66 t286 x64_3).f0)) := (blk_cell BK292.out 0).trans rfl; have hcz40_1 : w37.cell? ⟨gb292, 1, none⟩ = some (.int .i64 x293001_4) := (blk_cell BK292.out 1).trans rfl; have hfz40_0 := blk_frozen BK292.out 0; have hfz40_1 := blk_frozen BK292.out 1))
                             repeat (go_quiet (first | ((with_reducible refine gate_dst (N := 16) rfl ?_); (try (refine gate_guard (by rfl) ?_; dsimp only)); refine box_event ?hg (N := 16) ?hd (cs := #[.int .i64 0, .int .i64 0]) (t := 77) ?hr ?_; (case hd => rfl); (case hg => rfl); (case hr => first | (go_simp; done) | (go_simp; rfl)); intro gb294 hg w37 hbox hb; have n0_ := Aside0.mk (Kd.V_below (Kd.V_elderB (by (with_reducible repeat (first | apply Kd.V_alloc | apply Kd.V_drewN | apply Kd.V_drew)); exact HO_9.out) gb294 (Nat.le_of_eq hg.symm)) hb); have n1_ := Aside0.mk (Kd.V_below (Kd.V_elderB (by (with_reducible repeat (first | apply Kd.V_alloc | apply Kd.V_drewN | apply Kd.V_drew)); exact HO_11.out) gb294 (Nat.le_of_eq hg.symm)) hb); have n2_ := Aside0.mk (blk_below (g := gb292) (o := .cells #[.bool ((rd_T66 t286 x64_3).f0), .int .i64 x293001_4] 66 (0, 0)) (by (with_reducible repeat (first | refine blk_drewN ?_ _ | refine blk_drew ?_ | refine blk_alloc ?_ _)); exact BK292.out) hb); have n3_ := Aside0.mk (below_step (by repeat (with_reducible first | exact HB.out | apply below_alloc | apply pw_below_drewN | apply below_drew1 | refine below_set ?_ GE292.out)) hb); have n4_ := Aside0.mk (hbox); have n5_ := Aside0.mk ((by rw [hg]; exact (below_size (by repeat (with_reducible first | exact HB.out | apply below_alloc | apply pw_below_drewN | apply below_drew1 | refine below_set ?_ GE292.out))) : w.heap.size ≤ gb294)); have n6_ := n5_; have n7_ := Aside0.mk ((by rw [hg]; exact Nat.ne_of_lt (blk_lt (g := gb292) (o := .cells #[.bool ((rd_T66 t286 x64_3).f0), .int .i64 x293001_4] 66 (0, 0)) (by (with_reducible repeat (first | refine blk_drewN ?_ _ | refine blk_drew ?_ | refine blk_alloc ?_ _)); exact BK292.out)) : gb292 ≠ gb294)); have n8_ := Aside0.mk ((by rw [hg]; exact Nat.ne_of_gt (blk_lt (g := gb292) (o := .cells #[.bool ((rd_T66 t286 x64_3).f0), .int .i64 x293001_4] 66 (0, 0)) (by (with_reducible repeat (first | refine blk_drewN ?_ _ | refine blk_drew ?_ | refine blk_alloc ?_ _)); exact BK292.out)) : gb294 ≠ gb292)); clear HO_9; clear HO_11; clear BK292; clear HB; have HO_9 := n0_; have HO_11 := n1_; have BK292 := n2_; have HB := n3_; have BK294 := n4_; have GW294 := n5_; have GE294 := n6_; have NB292_294 := n7_; have NB294_292 := n8_; clear n0_ n1_ n2_ n3_ n4_ n5_ n6_ n7_ n8_; clear hb hbox hg; have hnb38 := NB294_292.out; have hnc38 := NB292_294.out; have hcz39_0 : w37.cell? ⟨gb294, 0, none⟩ = some (.int .i64 0) := (blk_cell BK294.out 0).trans rfl; have hcz39_1 : w37.cell? ⟨gb294, 1, none⟩ = some (.int .i64 0) := (blk_cell BK294.out 1).trans rfl; have hfz39_0 := blk_frozen BK294.out 0; have hfz39_1 := blk_frozen BK294.out 1; have hcz40_0 : w37.cell? ⟨gb292, 0, none⟩ = some (.bool ((rd_T66 t286 x64_3).f0)) := (blk_cell BK292.out 0).trans rfl; have hcz40_1 : w37.cell? ⟨gb292, 1, none⟩ = some (.int .i64 x293001_4) := (blk_cell BK292.out 1).trans rfl; have hfz40_0 := blk_frozen BK292.out 0; have hfz40_1 := blk_frozen BK292.out 1)); try go_wp2_with (first | ((with_reducible refine gate_dst (N := 16) rfl ?_); (try (refine gate_guard (by rfl) ?_; dsimp only)); refine box_event ?hg (N := 16) ?hd (cs := #[.int .i64 0, .int .i64 0]) (t := 77) ?hr ?_; (case hd => rfl); (case hg => rfl); (case hr => first | (go_simp; done) | (go_simp; rfl)); intro gb294 hg w37 hbox hb; have n0_ := Aside0.mk (Kd.V_below (Kd.V_elderB (by (with_reducible repeat (first | apply Kd.V_alloc | apply Kd.V_drewN | apply Kd.V_drew)); exact HO_9.out) gb294 (Nat.le_of_eq hg.symm)) hb); have n1_ := Aside0.mk (Kd.V_below (Kd.V_elderB (by (with_reducible repeat (first | apply Kd.V_alloc | apply Kd.V_drewN | apply Kd.V_drew)); exact HO_11.out) gb294 (Nat.le_of_eq hg.symm)) hb); have n2_ := Aside0.mk (blk_below (g := gb292) (o := .cells #[.bool ((rd_T66 t286 x64_3).f0), .int .i64 x293001_4] 66 (0, 0)) (by (with_reducible repeat (first | refine blk_drewN ?_ _ | refine blk_drew ?_ | refine blk_alloc ?_ _)); exact BK292.out) hb); have n3_ := Aside0.mk (below_step (by repeat (with_reducible first | exact HB.out | apply below_alloc | apply pw_below_drewN | apply below_drew1 | refine below_set ?_ GE292.out)) hb); have n4_ := Aside0.mk (hbox); have n5_ := Aside0.mk ((by rw [hg]; exact (below_size (by repeat (with_reducible first | exact HB.out | apply below_alloc | apply pw_below_drewN | apply below_drew1 | refine below_set ?_ GE292.out))) : w.heap.size ≤ gb294)); have n6_ := n5_; have n7_ := Aside0.mk ((by rw [hg]; exact Nat.ne_of_lt (blk_lt (g := gb292) (o := .cells #[.bool ((rd_T66 t286 x64_3).f0), .int .i64 x293001_4] 66 (0, 0)) (by (with_reducible repeat (first | refine blk_drewN ?_ _ | refine blk_drew ?_ | refine blk_alloc ?_ _)); exact BK292.out)) : gb292 ≠ gb294)); have n8_ := Aside0.mk ((by rw [hg]; exact Nat.ne_of_gt (blk_lt (g := gb292) (o := .cells #[.bool ((rd_T66 t286 x64_3).f0), .int .i64 x293001_4] 66 (0, 0)) (by (with_reducible repeat (first | refine blk_drewN ?_ _ | refine blk_drew ?_ | refine blk_alloc ?_ _)); exact BK292.out)) : gb294 ≠ gb292)); clear HO_9; clear HO_11; clear BK292; clear HB; have HO_9 := n0_; have HO_11 := n1_; have BK292 := n2_; have HB := n3_; have BK294 := n4_; have GW294 := n5_; have GE294 := n6_; have NB292_294 := n7_; have NB294_292 := n8_; clear n0_ n1_ n2_ n3_ n4_ n5_ n6_ n7_ n8_; clear hb hbox hg; have hnb38 := NB294_292.out; have hnc38 := NB292_294.out; have hcz39_0 : w37.cell? ⟨gb294, 0, none⟩ = some (.int .i64 0) := (blk_cell BK294.out 0).trans rfl; have hcz39_1 : w37.cell? ⟨gb294, 1, none⟩ = some (.int .i64 0) := (blk_cell BK294.out 1).trans rfl; have hfz39_0 := blk_frozen BK294.out 0; have hfz39_1 := blk_frozen BK294.out 1; have hcz40_0 : w37.cell? ⟨gb292, 0, none⟩ = some (.bool ((rd_T66 t286 x64_3).f0)) := (blk_cell BK292.out 0).trans rfl; have hcz40_1 : w37.cell? ⟨gb292, 1, none⟩ = some (.int .i64 x293001_4) := (blk_cell BK292.out 1).trans rfl; have hfz40_0 := blk_frozen BK292.out 0; have hfz40_1 := blk_frozen BK292.out 1)))
                             go_roundg k4
                             case measure => have := HJ3.out; have := HJ15.out; have := HK3.out; have := HK4.out; omega
                             case rel => exact ⟨(wrap64 (x73_4 + 1)), ((rd_T77 l2 x73_4).f1), (by first | rfl | (simp; done) | (simp [*]; done)), H', ⟨by have := HJ3.out; have := HJ15.out; have := HK3.out; have := HK4.out; omega⟩, ⟨by (with_reducible repeat (first | apply Kd.V_alloc | apply Kd.V_drewN | apply Kd.V_drew)); exact Kd.V_mono (Kd.V_far (p := ⟨gb292, 1, none⟩) (Kd.V_far (p := ⟨gb294, 1, none⟩) (Kd.V_far (p := ⟨gb294, 0, none⟩) (Kd.V_mono (Kd.V_mono HO_9.out (fun k_ hk => (⟨hk, hk.2⟩ : _ ∧ k_ ≠ gb294))) (fun k_ hk => (⟨hk, hk.1.1⟩ : _ ∧ k_ ≠ gb292))) (fun _ hk => hk.1.2) (.int .i64 ((rd_T77 l2 x73_4).f0))) (fun _ hk => hk.1.2) (.int .i64 ((rd_T77 l2 x73_4).f1))) (fun _ hk => hk.2) (.int .i64 ((rd_T77 l2 x73_4).f1))) (fun _ hk => hk.1.1.1)⟩, ⟨by (with_reducible repeat (first | apply Kd.V_alloc | apply Kd.V_drewN | apply Kd.V_drew)); exact Kd.V_mono (Kd.V_far (p := ⟨gb292, 1, none⟩) (Kd.V_far (p := ⟨gb294, 1, none⟩) (Kd.V_far (p := ⟨gb294, 0, none⟩) (Kd.V_mono (Kd.V_mono HO_11.out (fun k_ hk => (⟨hk, hk.2⟩ : _ ∧ k_ ≠ gb294))) (fun k_ hk => (⟨hk, hk.1.1⟩ : _ ∧ k_ ≠ gb292))) (fun _ hk => hk.1.2) (.int .i64 ((rd_T77 l2 x73_4).f0))) (fun _ hk => hk.1.2) (.int .i64 ((rd_T77 l2 x73_4).f1))) (fun _ hk => hk.2) (.int .i64 ((rd_T77 l2 x73_4).f1))) (fun _ hk => hk.1.1.1)⟩, ⟨by (with_reducible repeat (first | refine blk_drewN ?_ _ | refine blk_drew ?_ | refine blk_alloc ?_ _)); refine blk_put (cs := #[.bool ((rd_T66 t286 x64_3).f0), .int .i64 x293001_4]) ?_ 1 _ rfl; (with_reducible repeat (first | refine blk_drewN ?_ _ | refine blk_drew ?_ | refine blk_alloc ?_ _)); refine blk_far ?_ NB292_294.out _; (with_reducible repeat (first | refine blk_drewN ?_ _ | refine blk_drew ?_ | refine blk_alloc ?_ _)); refine blk_far ?_ NB292_294.out _; (with_reducible repeat (first | refine blk_drewN ?_ _ | refine blk_drew ?_ | refine blk_alloc ?_ _)); exact BK292.out⟩, ⟨by repeat (first | (with_reducible first | exact HB.out | apply below_alloc | apply pw_below_drewN | apply below_drew1 | refine below_set ?_ GE292.out | refine below_set ?_ GE294.out) | exact HB.out)⟩⟩
                           · rw [if_neg c36] at H
                             have c36b0 : (((rd_T77 l2 x73_4).f0) == x64_3) = false := beq_eq_false_iff_ne.mpr c36
                             have c36b1 : (((rd_T77 l2 x73_4).f0) != x64_3) = true := bne_iff_ne.mpr c36
                             have H' := Aside0.mk H
                             clear H
                             have p293 : 0 ≤ (x73_4 : Int) := of_decide_eq_true (by first | (with_reducible assumption) | assumption)
                             have q293 : x73_4 < (l2.length : Int) := of_decide_eq_true (by first | (with_reducible assumption) | assumption)
                             obtain ⟨ad293, e293, hx293_0, hx293_1⟩ := at_T77 HR2.out x73_4 p293 q293
                             cases e293
                             replace hx293_0 := (HB.out.cell (World.block_lt_of_cell? w _ hx293_0)).trans hx293_0
                             replace hx293_1 := (HB.out.cell (World.block_lt_of_cell? w _ hx293_1)).trans hx293_1
                             replace p293 := eq_true p293
                             replace q293 := eq_true q293
                             go_wp2_with (first | ((with_reducible refine gate_dst (N := 16) rfl ?_); (try (refine gate_guard (by rfl) ?_; dsimp only)); refine box_event ?hg (N := 16) ?hd (cs := #[.int .i64 0, .int .i64 0]) (t := 77) ?hr ?_; (case hd => rfl); (case hg => rfl); (case hr => first | (go_simp; done) | (go_simp; rfl)); intro gb294 hg w41 hbox hb; have n0_ := Aside0.mk (Kd.V_below (Kd.V_elderB (by (with_reducible repeat (first | apply Kd.V_alloc | apply Kd.V_drewN | apply Kd.V_drew)); exact HO_9.out) gb294 (Nat.le_of_eq hg.symm)) hb); have n1_ := Aside0.mk (Kd.V_below (Kd.V_elderB (by (with_reducible repeat (first | apply Kd.V_alloc | apply Kd.V_drewN | apply Kd.V_drew)); exact HO_11.out) gb294 (Nat.le_of_eq hg.symm)) hb); have n2_ := Aside0.mk (blk_below (g := gb292) (o := .cells #[.bool ((rd_T66 t286 x64_3).f0), .int .i64 x293001_4] 66 (0, 0)) (by (with_reducible repeat (first | refine blk_drewN ?_ _ | refine blk_drew ?_ | refine blk_alloc ?_ _)); exact BK292.out) hb); have n3_ := Aside0.mk (below_step (by repeat (with_reducible first | exact HB.out | apply below_alloc | apply pw_below_drewN | apply below_drew1 | refine below_set ?_ GE292.out)) hb); have n4_ := Aside0.mk (hbox); have n5_ := Aside0.mk ((by rw [hg]; exact (below_size (by repeat (with_reducible first | exact HB.out | apply below_alloc | apply pw_below_drewN | apply below_drew1 | refine below_set ?_ GE292.out))) : w.heap.size ≤ gb294)); have n6_ := n5_; have n7_ := Aside0.mk ((by rw [hg]; exact Nat.ne_of_lt (blk_lt (g := gb292) (o := .cells #[.bool ((rd_T66 t286 x64_3).f0), .int .i64 x293001_4] 66 (0, 0)) (by (with_reducible repeat (first | refine blk_drewN ?_ _ | refine blk_drew ?_ | refine blk_alloc ?_ _)); exact BK292.out)) : gb292 ≠ gb294)); have n8_ := Aside0.mk ((by rw [hg]; exact Nat.ne_of_gt (blk_lt (g := gb292) (o := .cells #[.bool ((rd_T66 t286 x64_3).f0), .int .i64 x293001_4] 66 (0, 0)) (by (with_reducible repeat (first | refine blk_drewN ?_ _ | refine blk_drew ?_ | refine blk_alloc ?_ _)); exact BK292.out)) : gb294 ≠ gb292)); clear HO_9; clear HO_11; clear BK292; clear HB; have HO_9 := n0_; have HO_11 := n1_; have BK292 := n2_; have HB := n3_; have BK294 := n4_; have GW294 := n5_; have GE294 := n6_; have NB292_294 := n7_; have NB294_292 := n8_; clear n0_ n1_ n2_ n3_ n4_ n5_ n6_ n7_ n8_; clear hb hbox hg; have hnb42 := NB294_292.out; have hnc42 := NB292_294.out; have hcz43_0 : w41.cell? ⟨gb294, 0, none⟩ = some (.int .i64 0) := (blk_cell BK294.out 0).trans rfl; have hcz43_1 : w41.cell? ⟨gb294, 1, none⟩ = some (.int .i64 0) := (blk_cell BK294.out 1).trans rfl; have hfz43_0 := blk_frozen BK294.out 0; have hfz43_1 := blk_frozen BK294.out 1))
                             repeat (go_quiet (first | ((with_reducible refine gate_dst (N := 16) rfl ?_); (try (refine gate_guard (by rfl) ?_; dsimp only)); refine box_event ?hg (N := 16) ?hd (cs := #[.int .i64 0, .int .i64 0]) (t := 77) ?hr ?_; (case hd => rfl); (case hg => rfl); (case hr => first | (go_simp; done) | (go_simp; rfl)); intro gb294 hg w41 hbox hb; have n0_ := Aside0.mk (Kd.V_below (Kd.V_elderB (by (with_reducible repeat (first | apply Kd.V_alloc | apply Kd.V_drewN | apply Kd.V_drew)); exact HO_9.out) gb294 (Nat.le_of_eq hg.symm)) hb); have n1_ := Aside0.mk (Kd.V_below (Kd.V_elderB (by (with_reducible repeat (first | apply Kd.V_alloc | apply Kd.V_drewN | apply Kd.V_drew)); exact HO_11.out) gb294 (Nat.le_of_eq hg.symm)) hb); have n2_ := Aside0.mk (blk_below (g := gb292) (o := .cells #[.bool ((rd_T66 t286 x64_3).f0), .int .i64 x293001_4] 66 (0, 0)) (by (with_reducible repeat (first | refine blk_drewN ?_ _ | refine blk_drew ?_ | refine blk_alloc ?_ _)); exact BK292.out) hb); have n3_ := Aside0.mk (below_step (by repeat (with_reducible first | exact HB.out | apply below_alloc | apply pw_below_drewN | apply below_drew1 | refine below_set ?_ GE292.out)) hb); have n4_ := Aside0.mk (hbox); have n5_ := Aside0.mk ((by rw [hg]; exact (below_size (by repeat (with_reducible first | exact HB.out | apply below_alloc | apply pw_below_drewN | apply below_drew1 | refine below_set ?_ GE292.out))) : w.heap.size ≤ gb294)); have n6_ := n5_; have n7_ := Aside0.mk ((by rw [hg]; exact Nat.ne_of_lt (blk_lt (g := gb292) (o := .cells #[.bool ((rd_T66 t286 x64_3).f0), .int .i64 x293001_4] 66 (0, 0)) (by (with_reducible repeat (first | refine blk_drewN ?_ _ | refine blk_drew ?_ | refine blk_alloc ?_ _)); exact BK292.out)) : gb292 ≠ gb294)); have n8_ := Aside0.mk ((by rw [hg]; exact Nat.ne_of_gt (blk_lt (g := gb292) (o := .cells #[.bool ((rd_T66 t286 x64_3).f0), .int .i64 x293001_4] 66 (0, 0)) (by (with_reducible repeat (first | refine blk_drewN ?_ _ | refine blk_drew ?_ | refine blk_alloc ?_ _)); exact BK292.out)) : gb294 ≠ gb292)); clear HO_9; clear HO_11; clear BK292; clear HB; have HO_9 := n0_; have HO_11 := n1_; have BK292 := n2_; have HB := n3_; have BK294 := n4_; have GW294 := n5_; have GE294 := n6_; have NB292_294 := n7_; have NB294_292 := n8_; clear n0_ n1_ n2_ n3_ n4_ n5_ n6_ n7_ n8_; clear hb hbox hg; have hnb42 := NB294_292.out; have hnc42 := NB292_294.out; have hcz43_0 : w41.cell? ⟨gb294, 0, none⟩ = some (.int .i64 0) := (blk_cell BK294.out 0).trans rfl; have hcz43_1 : w41.cell? ⟨gb294, 1, none⟩ = some (.int .i64 0) := (blk_cell BK294.out 1).trans rfl; have hfz43_0 := blk_frozen BK294.out 0; have hfz43_1 := blk_frozen BK294.out 1)); try go_wp2_with (first | ((with_reducible refine gate_dst (N := 16) rfl ?_); (try (refine gate_guard (by rfl) ?_; dsimp only)); refine box_event ?hg (N := 16) ?hd (cs := #[.int .i64 0, .int .i64 0]) (t := 77) ?hr ?_; (case hd => rfl); (case hg => rfl); (case hr => first | (go_simp; done) | (go_simp; rfl)); intro gb294 hg w41 hbox hb; have n0_ := Aside0.mk (Kd.V_below (Kd.V_elderB (by (with_reducible repeat (first | apply Kd.V_alloc | apply Kd.V_drewN | apply Kd.V_drew)); exact HO_9.out) gb294 (Nat.le_of_eq hg.symm)) hb); have n1_ := Aside0.mk (Kd.V_below (Kd.V_elderB (by (with_reducible repeat (first | apply Kd.V_alloc | apply Kd.V_drewN | apply Kd.V_drew)); exact HO_11.out) gb294 (Nat.le_of_eq hg.symm)) hb); have n2_ := Aside0.mk (blk_below (g := gb292) (o := .cells #[.bool ((rd_T66 t286 x64_3).f0), .int .i64 x293001_4] 66 (0, 0)) (by (with_reducible repeat (first | refine blk_drewN ?_ _ | refine blk_drew ?_ | refine blk_alloc ?_ _)); exact BK292.out) hb); have n3_ := Aside0.mk (below_step (by repeat (with_reducible first | exact HB.out | apply below_alloc | apply pw_below_drewN | apply below_drew1 | refine below_set ?_ GE292.out)) hb); have n4_ := Aside0.mk (hbox); have n5_ := Aside0.mk ((by rw [hg]; exact (below_size (by repeat (with_reducible first | exact HB.out | apply below_alloc | apply pw_below_drewN | apply below_drew1 | refine below_set ?_ GE292.out))) : w.heap.size ≤ gb294)); have n6_ := n5_; have n7_ := Aside0.mk ((by rw [hg]; exact Nat.ne_of_lt (blk_lt (g := gb292) (o := .cells #[.bool ((rd_T66 t286 x64_3).f0), .int .i64 x293001_4] 66 (0, 0)) (by (with_reducible repeat (first | refine blk_drewN ?_ _ | refine blk_drew ?_ | refine blk_alloc ?_ _)); exact BK292.out)) : gb292 ≠ gb294)); have n8_ := Aside0.mk ((by rw [hg]; exact Nat.ne_of_gt (blk_lt (g := gb292) (o := .cells #[.bool ((rd_T66 t286 x64_3).f0), .int .i64 x293001_4] 66 (0, 0)) (by (with_reducible repeat (first | refine blk_drewN ?_ _ | refine blk_drew ?_ | refine blk_alloc ?_ _)); exact BK292.out)) : gb294 ≠ gb292)); clear HO_9; clear HO_11; clear BK292; clear HB; have HO_9 := n0_; have HO_11 := n1_; have BK292 := n2_; have HB := n3_; have BK294 := n4_; have GW294 := n5_; have GE294 := n6_; have NB292_294 := n7_; have NB294_292 := n8_; clear n0_ n1_ n2_ n3_ n4_ n5_ n6_ n7_ n8_; clear hb hbox hg; have hnb42 := NB294_292.out; have hnc42 := NB292_294.out; have hcz43_0 : w41.cell? ⟨gb294, 0, none⟩ = some (.int .i64 0) := (blk_cell BK294.out 0).trans rfl; have hcz43_1 : w41.cell? ⟨gb294, 1, none⟩ = some (.int .i64 0) := (blk_cell BK294.out 1).trans rfl; have hfz43_0 := blk_frozen BK294.out 0; have hfz43_1 := blk_frozen BK294.out 1)))
                             go_roundg k4
                             case measure => have := HJ3.out; have := HJ15.out; have := HK3.out; have := HK4.out; omega
                             case rel => exact ⟨(wrap64 (x73_4 + 1)), (x293001_4), (by first | rfl | (simp; done) | (simp [*]; done)), H', ⟨by have := HJ3.out; have := HJ15.out; have := HK3.out; have := HK4.out; omega⟩, ⟨by (with_reducible repeat (first | apply Kd.V_alloc | apply Kd.V_drewN | apply Kd.V_drew)); exact Kd.V_mono (Kd.V_far (p := ⟨gb294, 1, none⟩) (Kd.V_far (p := ⟨gb294, 0, none⟩) (Kd.V_mono HO_9.out (fun k_ hk => (⟨hk, hk.2⟩ : _ ∧ k_ ≠ gb294))) (fun _ hk => hk.2) (.int .i64 ((rd_T77 l2 x73_4).f0))) (fun _ hk => hk.2) (.int .i64 ((rd_T77 l2 x73_4).f1))) (fun _ hk => hk.1.1)⟩, ⟨by (with_reducible repeat (first | apply Kd.V_alloc | apply Kd.V_drewN | apply Kd.V_drew)); exact Kd.V_mono (Kd.V_far (p := ⟨gb294, 1, none⟩) (Kd.V_far (p := ⟨gb294, 0, none⟩) (Kd.V_mono HO_11.out (fun k_ hk => (⟨hk, hk.2⟩ : _ ∧ k_ ≠ gb294))) (fun _ hk => hk.2) (.int .i64 ((rd_T77 l2 x73_4).f0))) (fun _ hk => hk.2) (.int .i64 ((rd_T77 l2 x73_4).f1))) (fun _ hk => hk.1.1)⟩, ⟨by (with_reducible repeat (first | refine blk_drewN ?_ _ | refine blk_drew ?_ | refine blk_alloc ?_ _)); refine blk_far ?_ NB292_294.out _; (with_reducible repeat (first | refine blk_drewN ?_ _ | refine blk_drew ?_ | refine blk_alloc ?_ _)); refine blk_far ?_ NB292_294.out _; (with_reducible repeat (first | refine blk_drewN ?_ _ | refine blk_drew ?_ | refine blk_alloc ?_ _)); exact BK292.out⟩, ⟨by repeat (first | (with_reducible first | exact HB.out | apply below_alloc | apply pw_below_drewN | apply below_drew1 | refine below_set ?_ GE292.out | refine below_set ?_ GE294.out) | exact HB.out)⟩⟩
                         · rw [if_neg c35] at H
                           exact absurd H (by simp)
                       · rw [if_neg c34] at H
                         exact absurd H (by simp)
                     · rw [if_neg c33] at H
                       have c33b0 : decide (x73_4 < (l2.length : Int)) = false := decide_eq_false c33
                       clear c33
                       by_cases c44 : 0 ≤ x64_3
                       · rw [if_pos c44] at H
                         have c44b0 : decide (0 ≤ x64_3) = true := decide_eq_true c44
                         clear c44
                         by_cases c45 : x64_3 < (t282.length : Int)
                         · rw [if_pos c45] at H
                           have c45b0 : decide (x64_3 < (t282.length : Int)) = true := decide_eq_true c45
                           clear c45
                           by_cases c46 : (!(((rd_T66 t282 x64_3).f0) == ((rd_T66 t286 x64_3).f0)) || (!(((rd_T66 t282 x64_3).f1) == x293001_4))) = true
                           · rw [if_pos c46] at H
                             have c46b0 : (!(((rd_T66 t282 x64_3).f0) == ((rd_T66 t286 x64_3).f0)) || (!(((rd_T66 t282 x64_3).f1) == x293001_4))) = true := c46
                             clear c46
                             exact absurd (Option.some.inj H) (by rw [HT.out]; decide)
                           · rw [if_neg c46] at H
                             have c46b0 : (!(((rd_T66 t282 x64_3).f0) == ((rd_T66 t286 x64_3).f0)) || (!(((rd_T66 t282 x64_3).f1) == x293001_4))) = false := by simpa using c46
                             clear c46
                             have H' := Aside0.mk H
                             clear H
                             have p295 : 0 ≤ (x64_3 : Int) := of_decide_eq_true (by first | (with_reducible assumption) | assumption)
                             have q295 : x64_3 < (t282.length : Int) := of_decide_eq_true (by first | (with_reducible assumption) | assumption)
                             obtain ⟨ad295, e295, hx295_0, hx295_1⟩ := at_T66 (Kd.V_reads' HO_9.out).2.2 x64_3 p295 q295
                             cases e295
                             replace p295 := eq_true p295
                             replace q295 := eq_true q295
                             have hcz47_0 : wr.cell? ⟨gb292, 0, none⟩ = some (.bool ((rd_T66 t286 x64_3).f0)) := (blk_cell BK292.out 0).trans rfl
                             have hcz47_1 : wr.cell? ⟨gb292, 1, none⟩ = some (.int .i64 x293001_4) := (blk_cell BK292.out 1).trans rfl
                             have hfz47_0 := blk_frozen BK292.out 0
                             have hfz47_1 := blk_frozen BK292.out 1
                             go_wp2
                             repeat (go_quiet (fail); try go_wp2)
                             go_roundg k4
                             case measure => have := HJ3.out; have := HJ15.out; have := HK3.out; have := HK4.out; omega
                             case rel => exact ⟨(wrap64 (x64_3 + 1)), (by first | rfl | (simp; done) | (simp [*]; done)), H', ⟨by have := HJ3.out; have := HJ15.out; have := HK3.out; have := HK4.out; omega⟩, ⟨by (with_reducible repeat (first | apply Kd.V_alloc | apply Kd.V_drewN | apply Kd.V_drew)); exact Kd.V_mono HO_9.out (fun _ hk => trivial)⟩, ⟨by (with_reducible repeat (first | apply Kd.V_alloc | apply Kd.V_drewN | apply Kd.V_drew)); exact Kd.V_mono HO_11.out (fun _ hk => trivial)⟩, ⟨by repeat (with_reducible first | exact HB.out | apply below_alloc | apply pw_below_drewN | apply below_drew1 | refine below_set ?_ GE292.out)⟩⟩
                         · rw [if_neg c45] at H
                           exact absurd H (by simp)
                       · rw [if_neg c44] at H
                         exact absurd H (by simp)
                 · rw [if_neg c29] at H
                   exact absurd H (by simp)
               · rw [if_neg c28] at H
                 exact absurd H (by simp)
             · rw [if_neg c27] at H
               have c27b0 : decide (x64_3 < (t282.length : Int)) = false := decide_eq_false c27
               clear c27
               replace H := Option.bind_eq_some_iff.mp H
               obtain ⟨t290, A480, H⟩ := H
               replace H : (some t290) = some r := H
               have A48 := Aside0.mk A480
               clear A480
               obtain rfl := Option.some.inj H
               go_wp2_with (first | ((first | ((with_reducible refine gate_callee (f := 31) rfl ?_); refine goesL_ (some 92) rfl rfl Try.func31 (by kernel_rfl) rfl #[] rfl (by (try simp only [List.map_toArray, List.map_cons, List.map_nil]); first | done | rfl) ?_; (with_reducible refine (handshakerlaw13_awake.calls k3  t290 _ A48.out).mono ?_); rintro e w49 ⟨rfl, hb⟩; refine ⟨_, rfl, ?_⟩; have n0_ := Aside0.mk (Kd.V_below (by (with_reducible repeat (first | apply Kd.V_alloc | apply Kd.V_drewN | apply Kd.V_drew)); exact HO_9.out) hb); have n1_ := Aside0.mk (Kd.V_below (by (with_reducible repeat (first | apply Kd.V_alloc | apply Kd.V_drewN | apply Kd.V_drew)); exact HO_11.out) hb); have n2_ := Aside0.mk (bst_ hb); clear HO_9; clear HO_11; clear HB; have HO_9 := n0_; have HO_11 := n1_; have HB := n2_; clear n0_ n1_ n2_; (try clear hb); (try clear hb2); (try clear hk); (try clear hi)) | (go_at_call 31; (with_reducible refine (handshakerlaw13_awake.calls k3  t290 _ A48.out).mono ?_); rintro e w49 ⟨rfl, hb⟩; have n0_ := Aside0.mk (Kd.V_below (by (with_reducible repeat (first | apply Kd.V_alloc | apply Kd.V_drewN | apply Kd.V_drew)); exact HO_9.out) hb); have n1_ := Aside0.mk (Kd.V_below (by (with_reducible repeat (first | apply Kd.V_alloc | apply Kd.V_drewN | apply Kd.V_drew)); exact HO_11.out) hb); have n2_ := Aside0.mk (bst_ hb); clear HO_9; clear HO_11; clear HB; have HO_9 := n0_; have HO_11 := n1_; have HB := n2_; clear n0_ n1_ n2_; (try clear hb); (try clear hb2); (try clear hk); (try clear hi)))))
               repeat (go_quiet (first | ((first | ((with_reducible refine gate_callee (f := 31) rfl ?_); refine goesL_ (some 92) rfl rfl Try.func31 (by kernel_rfl) rfl #[] rfl (by (try simp only [List.map_toArray, List.map_cons, List.map_nil]); first | done | rfl) ?_; (with_reducible refine (handshakerlaw13_awake.calls k3  t290 _ A48.out).mono ?_); rintro e w49 ⟨rfl, hb⟩; refine ⟨_, rfl, ?_⟩; have n0_ := Aside0.mk (Kd.V_below (by (with_reducible repeat (first | apply Kd.V_alloc | apply Kd.V_drewN | apply Kd.V_drew)); exact HO_9.out) hb); have n1_ := Aside0.mk (Kd.V_below (by (with_reducible repeat (first | apply Kd.V_alloc | apply Kd.V_drewN | apply Kd.V_drew)); exact HO_11.out) hb); have n2_ := Aside0.mk (bst_ hb); clear HO_9; clear HO_11; clear HB; have HO_9 := n0_; have HO_11 := n1_; have HB := n2_; clear n0_ n1_ n2_; (try clear hb); (try clear hb2); (try clear hk); (try clear hi)) | (go_at_call 31; (with_reducible refine (handshakerlaw13_awake.calls k3  t290 _ A48.out).mono ?_); rintro e w49 ⟨rfl, hb⟩; have n0_ := Aside0.mk (Kd.V_below (by (with_reducible repeat (first | apply Kd.V_alloc | apply Kd.V_drewN | apply Kd.V_drew)); exact HO_9.out) hb); have n1_ := Aside0.mk (Kd.V_below (by (with_reducible repeat (first | apply Kd.V_alloc | apply Kd.V_drewN | apply Kd.V_drew)); exact HO_11.out) hb); have n2_ := Aside0.mk (bst_ hb); clear HO_9; clear HO_11; clear HB; have HO_9 := n0_; have HO_11 := n1_; have HB := n2_; clear n0_ n1_ n2_; (try clear hb); (try clear hb2); (try clear hk); (try clear hi))))); try go_wp2_with (first | ((first | ((with_reducible refine gate_callee (f := 31) rfl ?_); refine goesL_ (some 92) rfl rfl Try.func31 (by kernel_rfl) rfl #[] rfl (by (try simp only [List.map_toArray, List.map_cons, List.map_nil]); first | done | rfl) ?_; (with_reducible refine (handshakerlaw13_awake.calls k3  t290 _ A48.out).mono ?_); rintro e w49 ⟨rfl, hb⟩; refine ⟨_, rfl, ?_⟩; have n0_ := Aside0.mk (Kd.V_below (by (with_reducible repeat (first | apply Kd.V_alloc | apply Kd.V_drewN | apply Kd.V_drew)); exact HO_9.out) hb); have n1_ := Aside0.mk (Kd.V_below (by (with_reducible repeat (first | apply Kd.V_alloc | apply Kd.V_drewN | apply Kd.V_drew)); exact HO_11.out) hb); have n2_ := Aside0.mk (bst_ hb); clear HO_9; clear HO_11; clear HB; have HO_9 := n0_; have HO_11 := n1_; have HB := n2_; clear n0_ n1_ n2_; (try clear hb); (try clear hb2); (try clear hk); (try clear hi)) | (go_at_call 31; (with_reducible refine (handshakerlaw13_awake.calls k3  t290 _ A48.out).mono ?_); rintro e w49 ⟨rfl, hb⟩; have n0_ := Aside0.mk (Kd.V_below (by (with_reducible repeat (first | apply Kd.V_alloc | apply Kd.V_drewN | apply Kd.V_drew)); exact HO_9.out) hb); have n1_ := Aside0.mk (Kd.V_below (by (with_reducible repeat (first | apply Kd.V_alloc | apply Kd.V_drewN | apply Kd.V_drew)); exact HO_11.out) hb); have n2_ := Aside0.mk (bst_ hb); clear HO_9; clear HO_11; clear HB; have HO_9 := n0_; have HO_11 := n1_; have HB := n2_; clear n0_ n1_ n2_; (try clear hb); (try clear hb2); (try clear hk); (try clear hi))))))
               go_ret
               exact ⟨by first | rfl | (simp [errW_none, errW_some] <;> rfl) | (simp [*, errW_none, errW_some] <;> rfl), by repeat (with_reducible first | exact HB.out | apply below_alloc | apply pw_below_drewN | apply below_drew1)⟩
     · rw [if_neg c13] at H
       have c13b0 : (t280 == 0) = false := beq_eq_false_iff_ne.mpr c13
       have c13b1 : (t280 != 0) = true := bne_iff_ne.mpr c13
       replace H := Option.bind_eq_some_iff.mp H
       obtain ⟨t281, A500, H⟩ := H
       replace H : (some t281) = some r := H
       have A50 := Aside0.mk A500
       clear A500
       obtain rfl := Option.some.inj H
       go_wp2_with (first | ((first | ((with_reducible refine gate_callee (f := 32) rfl ?_); refine goesL_ (some 30) rfl rfl Try.func32 (by kernel_rfl) rfl #[.slice A0 l0.length c0, .int .i64 a1, .slice A2 l2.length c2] rfl (by (try simp only [List.map_toArray, List.map_cons, List.map_nil]); first | done | rfl) ?_; (with_reducible refine (opaque_Next.calls kj3 (fun k_ => k_ < w.heap.size) _ _ l0 a1 _ _ l2 t277 t280 _ ?side1 ?side2 ?side3 A12.out).mono ?_); (case side1 => exact Kd.V_mk HC0.out (Kd.F_below (Kd.C_F k80_heap HR0.out) (by repeat (with_reducible first | exact HB.out | apply below_alloc | apply pw_below_drewN | apply below_drew1)))); (case side2 => repeat (first | exact (Kd.C_below HR2.out HB.out) | with_reducible first | refine Kd.C_alloc ?_ _ | refine Kd.C_drewN ?_ _ | refine Kd.C_drew ?_)); (case side3 => exact HC2.out); rintro e w51 ⟨v278, rfl, ho0, hb⟩; refine ⟨_, rfl, ?_⟩; have n0_ := Aside0.mk (Kd.V_lower (Kd.V_mono (ok' := fun k_ => True) ho0 (fun k_ hk_ => trivial)) bsz_); have n1_ := Aside0.mk (bst_ hb); clear HB; have HO279 := n0_; have HB := n1_; clear n0_ n1_; (try clear hb); (try clear hb2); (try clear hk); (try clear hi); (try clear ho0)) | (go_at_call 32; (with_reducible refine (opaque_Next.calls kj3 (fun k_ => k_ < w.heap.size) _ _ l0 a1 _ _ l2 t277 t280 _ ?side1 ?side2 ?side3 A12.out).mono ?_); (case side1 => exact Kd.V_mk HC0.out (Kd.F_below (Kd.C_F k80_heap HR0.out) (by repeat (with_reducible first | exact HB.out | apply below_alloc | apply pw_below_drewN | apply below_drew1)))); (case side2 => repeat (first | exact (Kd.C_below HR2.out HB.out) | with_reducible first | refine Kd.C_alloc ?_ _ | refine Kd.C_drewN ?_ _ | refine Kd.C_drew ?_)); (case side3 => exact HC2.out); rintro e w51 ⟨v278, rfl, ho0, hb⟩; have n0_ := Aside0.mk (Kd.V_lower (Kd.V_mono (ok' := fun k_ => True) ho0 (fun k_ hk_ => trivial)) bsz_); have n1_ := Aside0.mk (bst_ hb); clear HB; have HO279 := n0_; have HB := n1_; clear n0_ n1_; (try clear hb); (try clear hb2); (try clear hk); (try clear hi); (try clear ho0)))) | ((first | ((with_reducible refine gate_callee (f := 31) rfl ?_); refine goesL_ (some 35) rfl rfl Try.func31 (by kernel_rfl) rfl #[] rfl (by (try simp only [List.map_toArray, List.map_cons, List.map_nil]); first | done | rfl) ?_; (with_reducible refine (handshakerlaw13_awake.calls kj3  t281 _ A50.out).mono ?_); rintro e w52 ⟨rfl, hb⟩; refine ⟨_, rfl, ?_⟩; have n0_ := Aside0.mk (Kd.V_below (by (with_reducible repeat (first | apply Kd.V_alloc | apply Kd.V_drewN | apply Kd.V_drew)); exact HO279.out) hb); have n1_ := Aside0.mk (bst_ hb); clear HO279; clear HB; have HO279 := n0_; have HB := n1_; clear n0_ n1_; (try clear hb); (try clear hb2); (try clear hk); (try clear hi)) | (go_at_call 31; (with_reducible refine (handshakerlaw13_awake.calls kj3  t281 _ A50.out).mono ?_); rintro e w52 ⟨rfl, hb⟩; have n0_ := Aside0.mk (Kd.V_below (by (with_reducible repeat (first | apply Kd.V_alloc | apply Kd.V_drewN | apply Kd.V_drew)); exact HO279.out) hb); have n1_ := Aside0.mk (bst_ hb); clear HO279; clear HB; have HO279 := n0_; have HB := n1_; clear n0_ n1_; (try clear hb); (try clear hb2); (try clear hk); (try clear hi)))))
       repeat (go_quiet (first | ((first | ((with_reducible refine gate_callee (f := 32) rfl ?_); refine goesL_ (some 30) rfl rfl Try.func32 (by kernel_rfl) rfl #[.slice A0 l0.length c0, .int .i64 a1, .slice A2 l2.length c2] rfl (by (try simp only [List.map_toArray, List.map_cons, List.map_nil]); first | done | rfl) ?_; (with_reducible refine (opaque_Next.calls kj3 (fun k_ => k_ < w.heap.size) _ _ l0 a1 _ _ l2 t277 t280 _ ?side1 ?side2 ?side3 A12.out).mono ?_); (case side1 => exact Kd.V_mk HC0.out (Kd.F_below (Kd.C_F k80_heap HR0.out) (by repeat (with_reducible first | exact HB.out | apply below_alloc | apply pw_below_drewN | apply below_drew1)))); (case side2 => repeat (first | exact (Kd.C_below HR2.out HB.out) | with_reducible first | refine Kd.C_alloc ?_ _ | refine Kd.C_drewN ?_ _ | refine Kd.C_drew ?_)); (case side3 => exact HC2.out); rintro e w51 ⟨v278, rfl, ho0, hb⟩; refine ⟨_, rfl, ?_⟩; have n0_ := Aside0.mk (Kd.V_lower (Kd.V_mono (ok' := fun k_ => True) ho0 (fun k_ hk_ => trivial)) bsz_); have n1_ := Aside0.mk (bst_ hb); clear HB; have HO279 := n0_; have HB := n1_; clear n0_ n1_; (try clear hb); (try clear hb2); (try clear hk); (try clear hi); (try clear ho0)) | (go_at_call 32; (with_reducible refine (opaque_Next.calls kj3 (fun k_ => k_ < w.heap.size) _ _ l0 a1 _ _ l2 t277 t280 _ ?side1 ?side2 ?side3 A12.out).mono ?_); (case side1 => exact Kd.V_mk HC0.out (Kd.F_below (Kd.C_F k80_heap HR0.out) (by repeat (with_reducible first | exact HB.out | apply below_alloc | apply pw_below_drewN | apply below_drew1)))); (case side2 => repeat (first | exact (Kd.C_below HR2.out HB.out) | with_reducible first | refine Kd.C_alloc ?_ _ | refine Kd.C_drewN ?_ _ | refine Kd.C_drew ?_)); (case side3 => exact HC2.out); rintro e w51 ⟨v278, rfl, ho0, hb⟩; have n0_ := Aside0.mk (Kd.V_lower (Kd.V_mono (ok' := fun k_ => True) ho0 (fun k_ hk_ => trivial)) bsz_); have n1_ := Aside0.mk (bst_ hb); clear HB; have HO279 := n0_; have HB := n1_; clear n0_ n1_; (try clear hb); (try clear hb2); (try clear hk); (try clear hi); (try clear ho0)))) | ((first | ((with_reducible refine gate_callee (f := 31) rfl ?_); refine goesL_ (some 35) rfl rfl Try.func31 (by kernel_rfl) rfl #[] rfl (by (try simp only [List.map_toArray, List.map_cons, List.map_nil]); first | done | rfl) ?_; (with_reducible refine (handshakerlaw13_awake.calls kj3  t281 _ A50.out).mono ?_); rintro e w52 ⟨rfl, hb⟩; refine ⟨_, rfl, ?_⟩; have n0_ := Aside0.mk (Kd.V_below (by (with_reducible repeat (first | apply Kd.V_alloc | apply Kd.V_drewN | apply Kd.V_drew)); exact HO279.out) hb); have n1_ := Aside0.mk (bst_ hb); clear HO279; clear HB; have HO279 := n0_; have HB := n1_; clear n0_ n1_; (try clear hb); (try clear hb2); (try clear hk); (try clear hi)) | (go_at_call 31; (with_reducible refine (handshakerlaw13_awake.calls kj3  t281 _ A50.out).mono ?_); rintro e w52 ⟨rfl, hb⟩; have n0_ := Aside0.mk (Kd.V_below (by (with_reducible repeat (first | apply Kd.V_alloc | apply Kd.V_drewN | apply Kd.V_drew)); exact HO279.out) hb); have n1_ := Aside0.mk (bst_ hb); clear HO279; clear HB; have HO279 := n0_; have HB := n1_; clear n0_ n1_; (try clear hb); (try clear hb2); (try clear hk); (try clear hi))))); try go_wp2_with (first | ((first | ((with_reducible refine gate_callee (f := 32) rfl ?_); refine goesL_ (some 30) rfl rfl Try.func32 (by kernel_rfl) rfl #[.slice A0 l0.length c0, .int .i64 a1, .slice A2 l2.length c2] rfl (by (try simp only [List.map_toArray, List.map_cons, List.map_nil]); first | done | rfl) ?_; (with_reducible refine (opaque_Next.calls kj3 (fun k_ => k_ < w.heap.size) _ _ l0 a1 _ _ l2 t277 t280 _ ?side1 ?side2 ?side3 A12.out).mono ?_); (case side1 => exact Kd.V_mk HC0.out (Kd.F_below (Kd.C_F k80_heap HR0.out) (by repeat (with_reducible first | exact HB.out | apply below_alloc | apply pw_below_drewN | apply below_drew1)))); (case side2 => repeat (first | exact (Kd.C_below HR2.out HB.out) | with_reducible first | refine Kd.C_alloc ?_ _ | refine Kd.C_drewN ?_ _ | refine Kd.C_drew ?_)); (case side3 => exact HC2.out); rintro e w51 ⟨v278, rfl, ho0, hb⟩; refine ⟨_, rfl, ?_⟩; have n0_ := Aside0.mk (Kd.V_lower (Kd.V_mono (ok' := fun k_ => True) ho0 (fun k_ hk_ => trivial)) bsz_); have n1_ := Aside0.mk (bst_ hb); clear HB; have HO279 := n0_; have HB := n1_; clear n0_ n1_; (try clear hb); (try clear hb2); (try clear hk); (try clear hi); (try clear ho0)) | (go_at_call 32; (with_reducible refine (opaque_Next.calls kj3 (fun k_ => k_ < w.heap.size) _ _ l0 a1 _ _ l2 t277 t280 _ ?side1 ?side2 ?side3 A12.out).mono ?_); (case side1 => exact Kd.V_mk HC0.out (Kd.F_below (Kd.C_F k80_heap HR0.out) (by repeat (with_reducible first | exact HB.out | apply below_alloc | apply pw_below_drewN | apply below_drew1)))); (case side2 => repeat (first | exact (Kd.C_below HR2.out HB.out) | with_reducible first | refine Kd.C_alloc ?_ _ | refine Kd.C_drewN ?_ _ | refine Kd.C_drew ?_)); (case side3 => exact HC2.out); rintro e w51 ⟨v278, rfl, ho0, hb⟩; have n0_ := Aside0.mk (Kd.V_lower (Kd.V_mono (ok' := fun k_ => True) ho0 (fun k_ hk_ => trivial)) bsz_); have n1_ := Aside0.mk (bst_ hb); clear HB; have HO279 := n0_; have HB := n1_; clear n0_ n1_; (try clear hb); (try clear hb2); (try clear hk); (try clear hi); (try clear ho0)))) | ((first | ((with_reducible refine gate_callee (f := 31) rfl ?_); refine goesL_ (some 35) rfl rfl Try.func31 (by kernel_rfl) rfl #[] rfl (by (try simp only [List.map_toArray, List.map_cons, List.map_nil]); first | done | rfl) ?_; (with_reducible refine (handshakerlaw13_awake.calls kj3  t281 _ A50.out).mono ?_); rintro e w52 ⟨rfl, hb⟩; refine ⟨_, rfl, ?_⟩; have n0_ := Aside0.mk (Kd.V_below (by (with_reducible repeat (first | apply Kd.V_alloc | apply Kd.V_drewN | apply Kd.V_drew)); exact HO279.out) hb); have n1_ := Aside0.mk (bst_ hb); clear HO279; clear HB; have HO279 := n0_; have HB := n1_; clear n0_ n1_; (try clear hb); (try clear hb2); (try clear hk); (try clear hi)) | (go_at_call 31; (with_reducible refine (handshakerlaw13_awake.calls kj3  t281 _ A50.out).mono ?_); rintro e w52 ⟨rfl, hb⟩; have n0_ := Aside0.mk (Kd.V_below (by (with_reducible repeat (first | apply Kd.V_alloc | apply Kd.V_drewN | apply Kd.V_drew)); exact HO279.out) hb); have n1_ := Aside0.mk (bst_ hb); clear HO279; clear HB; have HO279 := n0_; have HB := n1_; clear n0_ n1_; (try clear hb); (try clear hb2); (try clear hk); (try clear hi))))))
       go_ret
       exact ⟨by first | rfl | (simp [errW_none, errW_some] <;> rfl) | (simp [*, errW_none, errW_some] <;> rfl), by repeat (with_reducible first | exact HB.out | apply below_alloc | apply pw_below_drewN | apply below_drew1)⟩

/-- THE ONE PURE STATEMENT of handshakerlaw13_OpaqueWrites. -/
def handshakerlaw13_OpaqueWrites.Pure : Prop := ∀ (l0 : List (S80)) (a1 : Int) (l2 : List (S77)), l0.length ≤ maxLen → l0.length * 32 ≤ 140737488351232 → (∀ y ∈ l0, wfS80 y) → (Lit.int .i64 a1).wf = true → l2.length ≤ maxLen → l2.length * 16 ≤ 140737488351232 → (∀ y ∈ l2, wfS77 y) → ∃ k, handshakerlaw13_OpaqueWrites.f k l0 a1 l2 = some true

end Go.Proofs.Ytihcnbhcemkncaa.O
