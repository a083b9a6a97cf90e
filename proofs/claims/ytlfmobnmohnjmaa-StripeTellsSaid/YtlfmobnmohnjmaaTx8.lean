-- PRINTED by print.py (a twelfth state) out of the translation. Not trusted: Lean checks it.
import Derived.Test.YtlfmobnmohnjmaaTx0
import Derived.Test.YtlfmobnmohnjmaaTx2
import Derived.Test.YtlfmobnmohnjmaaTx3
import Derived.Test.YtlfmobnmohnjmaaTx4
import Derived.Test.YtlfmobnmohnjmaaTx5
import Derived.Test.YtlfmobnmohnjmaaTx6
import Derived.Test.YtlfmobnmohnjmaaTx7
namespace Go.Proofs.Ytlfmobnmohnjmaa.T
open Go.Proofs.Ytlfmobnmohnjmaa.Ho
open Go.RowKit Go.Proofs.YtlfmobnmohnjmaaW.PrintWords Go.Proofs.YtlfmobnmohnjmaaW.PrintLast Go.Proofs.YtlfmobnmohnjmaaW.PrintMore
attribute [local go_sem] max2_int min2_int max_two min_two max_three min_three max_four min_four   -- for this text's walks alone
set_option linter.unusedVariables false
set_option linter.unusedSimpArgs false

/-! ### handshakerlaw03_StripeTells: function 9 -/
mutual
def handshakerlaw03_StripeTells.j0 : Nat → List (S67) → Int → Int → List Int → Bool → Option (Bool)
 | 0, _, _, _, _, _ => none
 | k + 1, x0, x1, x2, x3, x26 => if x26 = true then ((handshakerlaw03_awake.f k).bind fun t285 => (some t285)) else ((stripe_Lock.f k x0 x1 x3).bind fun bt286 => ((handshakerref03_Lock.f k x0 x1 x3).bind fun bt290 => ((stripe_Stamp.f k x0 x1 x2).bind fun bt294 => ((handshakerref03_Stamp.f k x0 x1 x2).bind fun bt298 => ((stripe_New.f x2).bind fun bt302 => (if x2 ≥ 1 then (if bt302.2 = 0 then (if x2 ≤ 16 then (if (bt302.1.length : Int) = x2 then (handshakerlaw03_StripeTells.j1 k x0 x1 x3 bt286.1 bt286.2 bt290.1 bt290.2 bt294.1 bt294.2 bt298.1 bt298.2 false) else (handshakerlaw03_StripeTells.j1 k x0 x1 x3 bt286.1 bt286.2 bt290.1 bt290.2 bt294.1 bt294.2 bt298.1 bt298.2 true)) else (handshakerlaw03_StripeTells.j1 k x0 x1 x3 bt286.1 bt286.2 bt290.1 bt290.2 bt294.1 bt294.2 bt298.1 bt298.2 true)) else (if x2 ≤ 16 then (handshakerlaw03_StripeTells.j1 k x0 x1 x3 bt286.1 bt286.2 bt290.1 bt290.2 bt294.1 bt294.2 bt298.1 bt298.2 true) else (if (bt302.1.length : Int) = 0 then (handshakerlaw03_StripeTells.j1 k x0 x1 x3 bt286.1 bt286.2 bt290.1 bt290.2 bt294.1 bt294.2 bt298.1 bt298.2 (bt302.2 != 1)) else (handshakerlaw03_StripeTells.j1 k x0 x1 x3 bt286.1 bt286.2 bt290.1 bt290.2 bt294.1 bt294.2 bt298.1 bt298.2 true)))) else (if bt302.2 = 0 then (handshakerlaw03_StripeTells.j1 k x0 x1 x3 bt286.1 bt286.2 bt290.1 bt290.2 bt294.1 bt294.2 bt298.1 bt298.2 true) else (if (bt302.1.length : Int) = 0 then (handshakerlaw03_StripeTells.j1 k x0 x1 x3 bt286.1 bt286.2 bt290.1 bt290.2 bt294.1 bt294.2 bt298.1 bt298.2 (bt302.2 != 1)) else (handshakerlaw03_StripeTells.j1 k x0 x1 x3 bt286.1 bt286.2 bt290.1 bt290.2 bt294.1 bt294.2 bt298.1 bt298.2 true)))))))))
def handshakerlaw03_StripeTells.j1 : Nat → List (S67) → Int → List Int → List (S67) → Int → List (S67) → Int → List (S67) → Int → List (S67) → Int → Bool → Option (Bool)
 | 0, _, _, _, _, _, _, _, _, _, _, _, _ => none
 | k + 1, x0, x1, x3, x9, x10, x11, x12, x13, x14, x15, x16, x92 => if x92 = true then (some false) else ((stripe_Right.f x0).bind fun t306 => ((handshakerref03_Right.f k x0).bind fun t307 => (if t306 = true then (if t307 = true then ((stripe_Of.f k x0 x3).bind fun t308 => ((handshakerref03_Of.f k x0 x3).bind fun t311 => ((handshakerref03_Numbers.f k t308 t311).bind fun t314 => (if t314 = true then ((stripe_Held.f k x0 x1).bind fun t315 => ((handshakerref03_Held.f k x0 x1).bind fun t318 => ((handshakerref03_Numbers.f k t315 t318).bind fun t321 => (if t321 = true then ((handshakerref03_Same.f k x9 x11).bind fun t322 => (if t322 = true then (if x10 = x12 then ((handshakerref03_Same.f k x13 x15).bind fun t323 => (if t323 = true then (if x14 = x16 then ((stripe_Let.f k x0 x1).bind fun t324 => ((handshakerref03_Let.f k x0 x1).bind fun t327 => ((handshakerref03_Same.f k t324 t327).bind fun t330 => (if t330 = true then ((handshakerlaw03_awake.f k).bind fun t331 => (some t331)) else (some false))))) else (some false)) else (some false))) else (some false)) else (some false))) else (some false))))) else (some false))))) else (some false)) else (if t307 = true then (some false) else ((stripe_Of.f k x0 x3).bind fun t332 => ((handshakerref03_Of.f k x0 x3).bind fun t335 => ((handshakerref03_Numbers.f k t332 t335).bind fun t338 => (if t338 = true then ((stripe_Held.f k x0 x1).bind fun t339 => ((handshakerref03_Held.f k x0 x1).bind fun t342 => ((handshakerref03_Numbers.f k t339 t342).bind fun t345 => (if t345 = true then ((handshakerref03_Same.f k x9 x11).bind fun t346 => (if t346 = true then (if x10 = x12 then ((handshakerref03_Same.f k x13 x15).bind fun t347 => (if t347 = true then (if x14 = x16 then ((stripe_Let.f k x0 x1).bind fun t348 => ((handshakerref03_Let.f k x0 x1).bind fun t351 => ((handshakerref03_Same.f k t348 t351).bind fun t354 => (if t354 = true then ((handshakerlaw03_awake.f k).bind fun t355 => (some t355)) else (some false))))) else (some false)) else (some false))) else (some false)) else (some false))) else (some false))))) else (some false)))))))))
end
def handshakerlaw03_StripeTells.f (k : Nat) (l0 : List (S67)) (a1 : Int) (a2 : Int) (l3 : List Int) : Option (Bool) := if (l0.length : Int) > 30 then (handshakerlaw03_StripeTells.j0 k l0 a1 a2 l3 true) else (handshakerlaw03_StripeTells.j0 k l0 a1 a2 l3 (decide ((l3.length : Int) > 60)))
theorem handshakerlaw03_StripeTells.mono_l : ∀ k, (∀ y0 y1 y2 y3 y4, LeO (handshakerlaw03_StripeTells.j0 k y0 y1 y2 y3 y4) (handshakerlaw03_StripeTells.j0 (k + 1) y0 y1 y2 y3 y4)) ∧ (∀ y0 y1 y2 y3 y4 y5 y6 y7 y8 y9 y10 y11, LeO (handshakerlaw03_StripeTells.j1 k y0 y1 y2 y3 y4 y5 y6 y7 y8 y9 y10 y11) (handshakerlaw03_StripeTells.j1 (k + 1) y0 y1 y2 y3 y4 y5 y6 y7 y8 y9 y10 y11))
 | 0 => ⟨fun _ _ _ _ _ r h => by simp [handshakerlaw03_StripeTells.j0] at h, fun _ _ _ _ _ _ _ _ _ _ _ _ r h => by simp [handshakerlaw03_StripeTells.j1] at h⟩
 | k + 1 => by
  obtain ⟨ih0, ih1⟩ := handshakerlaw03_StripeTells.mono_l k
  refine ⟨?_, ?_⟩
  · intro y0 y1 y2 y3 y4
    unfold handshakerlaw03_StripeTells.j0
    repeat' first
    | (with_reducible exact ih0 _ _ _ _ _)
    | (with_reducible exact ih1 _ _ _ _ _ _ _ _ _ _ _ _)
    | (with_reducible exact handshakerlaw03_awake.mono _)
    | (with_reducible exact handshakerref03_Held.mono _ _ _)
    | (with_reducible exact handshakerref03_Let.mono _ _ _)
    | (with_reducible exact handshakerref03_Lock.mono _ _ _ _)
    | (with_reducible exact handshakerref03_Numbers.mono _ _ _)
    | (with_reducible exact handshakerref03_Of.mono _ _ _)
    | (with_reducible exact handshakerref03_Right.mono _ _)
    | (with_reducible exact handshakerref03_Same.mono _ _ _)
    | (with_reducible exact handshakerref03_Stamp.mono _ _ _ _)
    | (with_reducible exact stripe_Held.mono _ _ _)
    | (with_reducible exact stripe_Let.mono _ _ _)
    | (with_reducible exact stripe_Lock.mono _ _ _ _)
    | (with_reducible exact stripe_Of.mono _ _ _)
    | (with_reducible exact stripe_Stamp.mono _ _ _ _)
    | (with_reducible exact LeO.refl _)
    | (with_reducible exact LeO.none _)
    | (with_reducible refine LeO.ite ?_ ?_)
    | (with_reducible refine LeO.bind ?_ (fun _ => ?_))
    | exact ih0 _ _ _ _ _
    | exact ih1 _ _ _ _ _ _ _ _ _ _ _ _
    | exact handshakerlaw03_awake.mono _
    | exact handshakerref03_Held.mono _ _ _
    | exact handshakerref03_Let.mono _ _ _
    | exact handshakerref03_Lock.mono _ _ _ _
    | exact handshakerref03_Numbers.mono _ _ _
    | exact handshakerref03_Of.mono _ _ _
    | exact handshakerref03_Right.mono _ _
    | exact handshakerref03_Same.mono _ _ _
    | exact handshakerref03_Stamp.mono _ _ _ _
    | exact stripe_Held.mono _ _ _
    | exact stripe_Let.mono _ _ _
    | exact stripe_Lock.mono _ _ _ _
    | exact stripe_Of.mono _ _ _
    | exact stripe_Stamp.mono _ _ _ _
    | exact LeO.none _
    | refine LeO.ite ?_ ?_
    | refine LeO.bind ?_ (fun _ => ?_)
  · intro y0 y1 y2 y3 y4 y5 y6 y7 y8 y9 y10 y11
    unfold handshakerlaw03_StripeTells.j1
    repeat' first
    | (with_reducible exact ih0 _ _ _ _ _)
    | (with_reducible exact ih1 _ _ _ _ _ _ _ _ _ _ _ _)
    | (with_reducible exact handshakerlaw03_awake.mono _)
    | (with_reducible exact handshakerref03_Held.mono _ _ _)
    | (with_reducible exact handshakerref03_Let.mono _ _ _)
    | (with_reducible exact handshakerref03_Lock.mono _ _ _ _)
    | (with_reducible exact handshakerref03_Numbers.mono _ _ _)
    | (with_reducible exact handshakerref03_Of.mono _ _ _)
    | (with_reducible exact handshakerref03_Right.mono _ _)
    | (with_reducible exact handshakerref03_Same.mono _ _ _)
    | (with_reducible exact handshakerref03_Stamp.mono _ _ _ _)
    | (with_reducible exact stripe_Held.mono _ _ _)
    | (with_reducible exact stripe_Let.mono _ _ _)
    | (with_reducible exact stripe_Lock.mono _ _ _ _)
    | (with_reducible exact stripe_Of.mono _ _ _)
    | (with_reducible exact stripe_Stamp.mono _ _ _ _)
    | (with_reducible exact LeO.refl _)
    | (with_reducible exact LeO.none _)
    | (with_reducible refine LeO.ite ?_ ?_)
    | (with_reducible refine LeO.bind ?_ (fun _ => ?_))
    | exact ih0 _ _ _ _ _
    | exact ih1 _ _ _ _ _ _ _ _ _ _ _ _
    | exact handshakerlaw03_awake.mono _
    | exact handshakerref03_Held.mono _ _ _
    | exact handshakerref03_Let.mono _ _ _
    | exact handshakerref03_Lock.mono _ _ _ _
    | exact handshakerref03_Numbers.mono _ _ _
    | exact handshakerref03_Of.mono _ _ _
    | exact handshakerref03_Right.mono _ _
    | exact handshakerref03_Same.mono _ _ _
    | exact handshakerref03_Stamp.mono _ _ _ _
    | exact stripe_Held.mono _ _ _
    | exact stripe_Let.mono _ _ _
    | exact stripe_Lock.mono _ _ _ _
    | exact stripe_Of.mono _ _ _
    | exact stripe_Stamp.mono _ _ _ _
    | exact LeO.none _
    | refine LeO.ite ?_ ?_
    | refine LeO.bind ?_ (fun _ => ?_)
theorem handshakerlaw03_StripeTells.mono : ∀ a0 a1 a2 a3 k, LeO (handshakerlaw03_StripeTells.f k a0 a1 a2 a3) (handshakerlaw03_StripeTells.f (k + 1) a0 a1 a2 a3) := by
 intro a0 a1 a2 a3 k
 obtain ⟨ih0, ih1⟩ := handshakerlaw03_StripeTells.mono_l k
 unfold handshakerlaw03_StripeTells.f
 repeat' first
  | (with_reducible exact ih0 _ _ _ _ _)
  | (with_reducible exact ih1 _ _ _ _ _ _ _ _ _ _ _ _)
  | (with_reducible exact handshakerlaw03_awake.mono _)
  | (with_reducible exact handshakerref03_Held.mono _ _ _)
  | (with_reducible exact handshakerref03_Let.mono _ _ _)
  | (with_reducible exact handshakerref03_Lock.mono _ _ _ _)
  | (with_reducible exact handshakerref03_Numbers.mono _ _ _)
  | (with_reducible exact handshakerref03_Of.mono _ _ _)
  | (with_reducible exact handshakerref03_Right.mono _ _)
  | (with_reducible exact handshakerref03_Same.mono _ _ _)
  | (with_reducible exact handshakerref03_Stamp.mono _ _ _ _)
  | (with_reducible exact stripe_Held.mono _ _ _)
  | (with_reducible exact stripe_Let.mono _ _ _)
  | (with_reducible exact stripe_Lock.mono _ _ _ _)
  | (with_reducible exact stripe_Of.mono _ _ _)
  | (with_reducible exact stripe_Stamp.mono _ _ _ _)
  | (with_reducible exact LeO.refl _)
  | (with_reducible exact LeO.none _)
  | (with_reducible refine LeO.ite ?_ ?_)
  | (with_reducible refine LeO.bind ?_ (fun _ => ?_))
  | exact ih0 _ _ _ _ _
  | exact ih1 _ _ _ _ _ _ _ _ _ _ _ _
  | exact handshakerlaw03_awake.mono _
  | exact handshakerref03_Held.mono _ _ _
  | exact handshakerref03_Let.mono _ _ _
  | exact handshakerref03_Lock.mono _ _ _ _
  | exact handshakerref03_Numbers.mono _ _ _
  | exact handshakerref03_Of.mono _ _ _
  | exact handshakerref03_Right.mono _ _
  | exact handshakerref03_Same.mono _ _ _
  | exact handshakerref03_Stamp.mono _ _ _ _
  | exact stripe_Held.mono _ _ _
  | exact stripe_Let.mono _ _ _
  | exact stripe_Lock.mono _ _ _ _
  | exact stripe_Of.mono _ _ _
  | exact stripe_Stamp.mono _ _ _ _
  | exact LeO.none _
  | refine LeO.ite ?_ ?_
  | refine LeO.bind ?_ (fun _ => ?_)
set_option maxHeartbeats 8000000 in
set_option maxRecDepth 100000 in
theorem handshakerlaw03_StripeTells.calls (k : Nat) (A0 : Option Addr) (c0 : Nat) (l0 : List (S67)) (a1 : Int) (a2 : Int) (A3 : Option Addr) (c3 : Nat) (l3 : List Int) (r : Bool) (w : World) (HT : Aside0 (r = true)) (hr0 : Kd.C k67 w A0 l0.length l0) (hc0 : l0.length ≤ c0) (hr3 : Kd.C (Kd.int .i64) w A3 l3.length l3) (hc3 : l3.length ≤ c3) (h : handshakerlaw03_StripeTells.f k l0 a1 a2 l3 = some r) :
 Calls Try.prog 9 #[.slice A0 l0.length c0, .int .i64 a1, .int .i64 a2, .slice A3 l3.length c3] w fun e w' => e = .returned (.bool r) ∧ Below w.heap.size w w' := by
 have HR0 := Aside0.mk hr0
 have HC0 := Aside0.mk hc0
 clear hr0 hc0
 have HR3 := Aside0.mk hr3
 have HC3 := Aside0.mk hc3
 clear hr3 hc3
 have HB := Aside0.mk (Below.refl w.heap.size w)
 have H : (if (l0.length : Int) > 30 then (handshakerlaw03_StripeTells.j0 k l0 a1 a2 l3 true) else (handshakerlaw03_StripeTells.j0 k l0 a1 a2 l3 (decide ((l3.length : Int) > 60)))) = some r := h
 clear h
 have HC5 := Aside0.mk H
 clear H
 go_enter Try.func9, Try.ntmps9
 go_upto_region 1 with (fail)
 go_cut [26] (fun v26 wc => ∃ (kq : Nat) (x26_4 : Bool), v26 = .bool x26_4 ∧ Aside0 (handshakerlaw03_StripeTells.j0 kq l0 a1 a2 l3 x26_4 = some r) ∧ Aside0 (kq ≤ k) ∧ Aside0 (Below w.heap.size w wc))
 case first =>
  have H := HC5.out
  clear HC5
  by_cases c6 : (l0.length : Int) > 30
  · rw [if_pos c6] at H
    have c6b0 : decide (30 < (l0.length : Int)) = true := decide_eq_true c6
    have c6b1 : decide (30 < l0.length) = true := decide_eq_true (by omega)
    clear c6
    (first | rw [c6b0] | (simp only [i64_w, i32_w]; rw [c6b0]) | skip)
    have H' := Aside0.mk H
    clear H
    go_wp2
    go_meet
    case rel => exact ⟨_, (true), (by first | rfl | (simp; done) | (simp [*]; done)), H', ⟨by first | omega | exact Nat.le_refl _⟩, ⟨by repeat (with_reducible first | exact HB.out | apply below_alloc | apply pw_below_drewN | apply below_drew1)⟩⟩
  · rw [if_neg c6] at H
    have c6b0 : decide (30 < (l0.length : Int)) = false := decide_eq_false c6
    have c6b1 : decide (30 < l0.length) = false := decide_eq_false (by omega)
    clear c6
    (first | rw [c6b0] | (simp only [i64_w, i32_w]; rw [c6b0]) | skip)
    have H' := Aside0.mk H
    clear H
    go_wp2
    go_meet
    case rel => exact ⟨_, (decide ((l3.length : Int) > 60)), (by first | rfl | (simp; done) | (simp [*]; done)), H', ⟨by first | omega | exact Nat.le_refl _⟩, ⟨by repeat (with_reducible first | exact HB.out | apply below_alloc | apply pw_below_drewN | apply below_drew1)⟩⟩
 case rest =>
  clear HC5
  try clear p2
  try clear c3
  try clear c6
  try clear c6b0
  try clear c6b1
  obtain ⟨kq, x26_4, rfl, HA, HJ4, HB⟩ := hcut
  cases kq with
  | zero => exact absurd HA.out (by simp [handshakerlaw03_StripeTells.j0])
  | succ kj4 =>
   have H := HA.out
   clear HA
   simp only [handshakerlaw03_StripeTells.j0] at H
   by_cases c7 : x26_4 = true
   · subst c7
     have H1 : ((handshakerlaw03_awake.f kj4).bind fun t285 => (some t285)) = some r := by rw [if_pos rfl] at H; exact H
     clear H
     have H := H1
     clear H1
     replace H := Option.bind_eq_some_iff.mp H
     obtain ⟨t285, A80, H⟩ := H
     replace H : (some t285) = some r := H
     have A8 := Aside0.mk A80
     clear A80
     obtain rfl := Option.some.inj H
     go_wp2_with (first | ((with_reducible refine gate_callee (f := 33) rfl ?_); refine goesL_ (some 27) rfl rfl Try.func33 (by kernel_rfl) rfl #[] rfl (by (try simp only [List.map_toArray, List.map_cons, List.map_nil]); first | done | rfl) ?_; (with_reducible refine (handshakerlaw03_awake.calls kj4  t285 _ A8.out).mono ?_); rintro e w9 ⟨rfl, hb⟩; refine ⟨_, rfl, ?_⟩; have n0_ := Aside0.mk (bst_ hb); clear HB; have HB := n0_; clear n0_; (try clear hb); (try clear hb2); (try clear hk); (try clear hi)))
     go_ret
     exact ⟨by first | rfl | (simp [errW_none, errW_some] <;> rfl) | (simp [*, errW_none, errW_some] <;> rfl), by repeat (with_reducible first | exact HB.out | apply below_alloc | apply pw_below_drewN | apply below_drew1)⟩
   · replace c7 := Bool.eq_false_iff.mpr c7
     subst c7
     have H1 : ((stripe_Lock.f kj4 l0 a1 l3).bind fun bt286 => ((handshakerref03_Lock.f kj4 l0 a1 l3).bind fun bt290 => ((stripe_Stamp.f kj4 l0 a1 a2).bind fun bt294 => ((handshakerref03_Stamp.f kj4 l0 a1 a2).bind fun bt298 => ((stripe_New.f a2).bind fun bt302 => (if a2 ≥ 1 then (if bt302.2 = 0 then (if a2 ≤ 16 then (if (bt302.1.length : Int) = a2 then (handshakerlaw03_StripeTells.j1 kj4 l0 a1 l3 bt286.1 bt286.2 bt290.1 bt290.2 bt294.1 bt294.2 bt298.1 bt298.2 false) else (handshakerlaw03_StripeTells.j1 kj4 l0 a1 l3 bt286.1 bt286.2 bt290.1 bt290.2 bt294.1 bt294.2 bt298.1 bt298.2 true)) else (handshakerlaw03_StripeTells.j1 kj4 l0 a1 l3 bt286.1 bt286.2 bt290.1 bt290.2 bt294.1 bt294.2 bt298.1 bt298.2 true)) else (if a2 ≤ 16 then (handshakerlaw03_StripeTells.j1 kj4 l0 a1 l3 bt286.1 bt286.2 bt290.1 bt290.2 bt294.1 bt294.2 bt298.1 bt298.2 true) else (if (bt302.1.length : Int) = 0 then (handshakerlaw03_StripeTells.j1 kj4 l0 a1 l3 bt286.1 bt286.2 bt290.1 bt290.2 bt294.1 bt294.2 bt298.1 bt298.2 (bt302.2 != 1)) else (handshakerlaw03_StripeTells.j1 kj4 l0 a1 l3 bt286.1 bt286.2 bt290.1 bt290.2 bt294.1 bt294.2 bt298.1 bt298.2 true)))) else (if bt302.2 = 0 then (handshakerlaw03_StripeTells.j1 kj4 l0 a1 l3 bt286.1 bt286.2 bt290.1 bt290.2 bt294.1 bt294.2 bt298.1 bt298.2 true) else (if (bt302.1.length : Int) = 0 then (handshakerlaw03_StripeTells.j1 kj4 l0 a1 l3 bt286.1 bt286.2 bt290.1 bt290.2 bt294.1 bt294.2 bt298.1 bt298.2 (bt302.2 != 1)) else (handshakerlaw03_StripeTells.j1 kj4 l0 a1 l3 bt286.1 bt286.2 bt290.1 bt290.2 bt294.1 bt294.2 bt298.1 bt298.2 true))))))))) = some r := by rw [if_neg (show ¬ (false = true) by decide)] at H; exact H
     clear H
     have H := H1
     clear H1
     replace H := Option.bind_eq_some_iff.mp H
     obtain ⟨⟨t286, t289⟩, A100, H⟩ := H
     replace H : ((handshakerref03_Lock.f kj4 l0 a1 l3).bind fun bt290 => ((stripe_Stamp.f kj4 l0 a1 a2).bind fun bt294 => ((handshakerref03_Stamp.f kj4 l0 a1 a2).bind fun bt298 => ((stripe_New.f a2).bind fun bt302 => (if a2 ≥ 1 then (if bt302.2 = 0 then (if a2 ≤ 16 then (if (bt302.1.length : Int) = a2 then (handshakerlaw03_StripeTells.j1 kj4 l0 a1 l3 t286 t289 bt290.1 bt290.2 bt294.1 bt294.2 bt298.1 bt298.2 false) else (handshakerlaw03_StripeTells.j1 kj4 l0 a1 l3 t286 t289 bt290.1 bt290.2 bt294.1 bt294.2 bt298.1 bt298.2 true)) else (handshakerlaw03_StripeTells.j1 kj4 l0 a1 l3 t286 t289 bt290.1 bt290.2 bt294.1 bt294.2 bt298.1 bt298.2 true)) else (if a2 ≤ 16 then (handshakerlaw03_StripeTells.j1 kj4 l0 a1 l3 t286 t289 bt290.1 bt290.2 bt294.1 bt294.2 bt298.1 bt298.2 true) else (if (bt302.1.length : Int) = 0 then (handshakerlaw03_StripeTells.j1 kj4 l0 a1 l3 t286 t289 bt290.1 bt290.2 bt294.1 bt294.2 bt298.1 bt298.2 (bt302.2 != 1)) else (handshakerlaw03_StripeTells.j1 kj4 l0 a1 l3 t286 t289 bt290.1 bt290.2 bt294.1 bt294.2 bt298.1 bt298.2 true)))) else (if bt302.2 = 0 then (handshakerlaw03_StripeTells.j1 kj4 l0 a1 l3 t286 t289 bt290.1 bt290.2 bt294.1 bt294.2 bt298.1 bt298.2 true) else (if (bt302.1.length : Int) = 0 then (handshakerlaw03_StripeTells.j1 kj4 l0 a1 l3 t286 t289 bt290.1 bt290.2 bt294.1 bt294.2 bt298.1 bt298.2 (bt302.2 != 1)) else (handshakerlaw03_StripeTells.j1 kj4 l0 a1 l3 t286 t289 bt290.1 bt290.2 bt294.1 bt294.2 bt298.1 bt298.2 true)))))))) = some r := H
     have A10 := Aside0.mk A100
     clear A100
     replace H := Option.bind_eq_some_iff.mp H
     obtain ⟨⟨t290, t293⟩, A110, H⟩ := H
     replace H : ((stripe_Stamp.f kj4 l0 a1 a2).bind fun bt294 => ((handshakerref03_Stamp.f kj4 l0 a1 a2).bind fun bt298 => ((stripe_New.f a2).bind fun bt302 => (if a2 ≥ 1 then (if bt302.2 = 0 then (if a2 ≤ 16 then (if (bt302.1.length : Int) = a2 then (handshakerlaw03_StripeTells.j1 kj4 l0 a1 l3 t286 t289 t290 t293 bt294.1 bt294.2 bt298.1 bt298.2 false) else (handshakerlaw03_StripeTells.j1 kj4 l0 a1 l3 t286 t289 t290 t293 bt294.1 bt294.2 bt298.1 bt298.2 true)) else (handshakerlaw03_StripeTells.j1 kj4 l0 a1 l3 t286 t289 t290 t293 bt294.1 bt294.2 bt298.1 bt298.2 true)) else (if a2 ≤ 16 then (handshakerlaw03_StripeTells.j1 kj4 l0 a1 l3 t286 t289 t290 t293 bt294.1 bt294.2 bt298.1 bt298.2 true) else (if (bt302.1.length : Int) = 0 then (handshakerlaw03_StripeTells.j1 kj4 l0 a1 l3 t286 t289 t290 t293 bt294.1 bt294.2 bt298.1 bt298.2 (bt302.2 != 1)) else (handshakerlaw03_StripeTells.j1 kj4 l0 a1 l3 t286 t289 t290 t293 bt294.1 bt294.2 bt298.1 bt298.2 true)))) else (if bt302.2 = 0 then (handshakerlaw03_StripeTells.j1 kj4 l0 a1 l3 t286 t289 t290 t293 bt294.1 bt294.2 bt298.1 bt298.2 true) else (if (bt302.1.length : Int) = 0 then (handshakerlaw03_StripeTells.j1 kj4 l0 a1 l3 t286 t289 t290 t293 bt294.1 bt294.2 bt298.1 bt298.2 (bt302.2 != 1)) else (handshakerlaw03_StripeTells.j1 kj4 l0 a1 l3 t286 t289 t290 t293 bt294.1 bt294.2 bt298.1 bt298.2 true))))))) = some r := H
     have A11 := Aside0.mk A110
     clear A110
     replace H := Option.bind_eq_some_iff.mp H
     obtain ⟨⟨t294, t297⟩, A120, H⟩ := H
     replace H : ((handshakerref03_Stamp.f kj4 l0 a1 a2).bind fun bt298 => ((stripe_New.f a2).bind fun bt302 => (if a2 ≥ 1 then (if bt302.2 = 0 then (if a2 ≤ 16 then (if (bt302.1.length : Int) = a2 then (handshakerlaw03_StripeTells.j1 kj4 l0 a1 l3 t286 t289 t290 t293 t294 t297 bt298.1 bt298.2 false) else (handshakerlaw03_StripeTells.j1 kj4 l0 a1 l3 t286 t289 t290 t293 t294 t297 bt298.1 bt298.2 true)) else (handshakerlaw03_StripeTells.j1 kj4 l0 a1 l3 t286 t289 t290 t293 t294 t297 bt298.1 bt298.2 true)) else (if a2 ≤ 16 then (handshakerlaw03_StripeTells.j1 kj4 l0 a1 l3 t286 t289 t290 t293 t294 t297 bt298.1 bt298.2 true) else (if (bt302.1.length : Int) = 0 then (handshakerlaw03_StripeTells.j1 kj4 l0 a1 l3 t286 t289 t290 t293 t294 t297 bt298.1 bt298.2 (bt302.2 != 1)) else (handshakerlaw03_StripeTells.j1 kj4 l0 a1 l3 t286 t289 t290 t293 t294 t297 bt298.1 bt298.2 true)))) else (if bt302.2 = 0 then (handshakerlaw03_StripeTells.j1 kj4 l0 a1 l3 t286 t289 t290 t293 t294 t297 bt298.1 bt298.2 true) else (if (bt302.1.length : Int) = 0 then (handshakerlaw03_StripeTells.j1 kj4 l0 a1 l3 t286 t289 t290 t293 t294 t297 bt298.1 bt298.2 (bt302.2 != 1)) else (handshakerlaw03_StripeTells.j1 kj4 l0 a1 l3 t286 t289 t290 t293 t294 t297 bt298.1 bt298.2 true)))))) = some r := H
     have A12 := Aside0.mk A120
     clear A120
     replace H := Option.bind_eq_some_iff.mp H
     obtain ⟨⟨t298, t301⟩, A130, H⟩ := H
     replace H : ((stripe_New.f a2).bind fun bt302 => (if a2 ≥ 1 then (if bt302.2 = 0 then (if a2 ≤ 16 then (if (bt302.1.length : Int) = a2 then (handshakerlaw03_StripeTells.j1 kj4 l0 a1 l3 t286 t289 t290 t293 t294 t297 t298 t301 false) else (handshakerlaw03_StripeTells.j1 kj4 l0 a1 l3 t286 t289 t290 t293 t294 t297 t298 t301 true)) else (handshakerlaw03_StripeTells.j1 kj4 l0 a1 l3 t286 t289 t290 t293 t294 t297 t298 t301 true)) else (if a2 ≤ 16 then (handshakerlaw03_StripeTells.j1 kj4 l0 a1 l3 t286 t289 t290 t293 t294 t297 t298 t301 true) else (if (bt302.1.length : Int) = 0 then (handshakerlaw03_StripeTells.j1 kj4 l0 a1 l3 t286 t289 t290 t293 t294 t297 t298 t301 (bt302.2 != 1)) else (handshakerlaw03_StripeTells.j1 kj4 l0 a1 l3 t286 t289 t290 t293 t294 t297 t298 t301 true)))) else (if bt302.2 = 0 then (handshakerlaw03_StripeTells.j1 kj4 l0 a1 l3 t286 t289 t290 t293 t294 t297 t298 t301 true) else (if (bt302.1.length : Int) = 0 then (handshakerlaw03_StripeTells.j1 kj4 l0 a1 l3 t286 t289 t290 t293 t294 t297 t298 t301 (bt302.2 != 1)) else (handshakerlaw03_StripeTells.j1 kj4 l0 a1 l3 t286 t289 t290 t293 t294 t297 t298 t301 true))))) = some r := H
     have A13 := Aside0.mk A130
     clear A130
     replace H := Option.bind_eq_some_iff.mp H
     obtain ⟨⟨t302, t303⟩, A140, H⟩ := H
     replace H : (if a2 ≥ 1 then (if t303 = 0 then (if a2 ≤ 16 then (if (t302.length : Int) = a2 then (handshakerlaw03_StripeTells.j1 kj4 l0 a1 l3 t286 t289 t290 t293 t294 t297 t298 t301 false) else (handshakerlaw03_StripeTells.j1 kj4 l0 a1 l3 t286 t289 t290 t293 t294 t297 t298 t301 true)) else (handshakerlaw03_StripeTells.j1 kj4 l0 a1 l3 t286 t289 t290 t293 t294 t297 t298 t301 true)) else (if a2 ≤ 16 then (handshakerlaw03_StripeTells.j1 kj4 l0 a1 l3 t286 t289 t290 t293 t294 t297 t298 t301 true) else (if (t302.length : Int) = 0 then (handshakerlaw03_StripeTells.j1 kj4 l0 a1 l3 t286 t289 t290 t293 t294 t297 t298 t301 (t303 != 1)) else (handshakerlaw03_StripeTells.j1 kj4 l0 a1 l3 t286 t289 t290 t293 t294 t297 t298 t301 true)))) else (if t303 = 0 then (handshakerlaw03_StripeTells.j1 kj4 l0 a1 l3 t286 t289 t290 t293 t294 t297 t298 t301 true) else (if (t302.length : Int) = 0 then (handshakerlaw03_StripeTells.j1 kj4 l0 a1 l3 t286 t289 t290 t293 t294 t297 t298 t301 (t303 != 1)) else (handshakerlaw03_StripeTells.j1 kj4 l0 a1 l3 t286 t289 t290 t293 t294 t297 t298 t301 true)))) = some r := H
     have A14 := Aside0.mk A140
     clear A140
     have HC15 := Aside0.mk H
     clear H
     go_upto_region 8 with (first | ((with_reducible refine gate_callee (f := 30) rfl ?_); refine goesL_ (some 32) rfl rfl Try.func30 (by kernel_rfl) rfl #[.slice A0 l0.length c0, .int .i64 a1, .slice A3 l3.length c3] rfl (by (try simp only [List.map_toArray, List.map_cons, List.map_nil]); first | done | rfl) ?_; (with_reducible refine (stripe_Lock.calls kj4 (fun k_ => k_ < w.heap.size) _ _ l0 a1 _ _ l3 t286 t289 _ ?side1 ?side2 ?side3 A10.out).mono ?_); (case side1 => exact Kd.V_mk HC0.out (Kd.F_below (Kd.C_F k67_heap HR0.out) (by repeat (with_reducible first | exact HB.out | apply below_alloc | apply pw_below_drewN | apply below_drew1)))); (case side2 => repeat (first | exact (Kd.C_below HR3.out HB.out) | with_reducible first | refine Kd.C_alloc ?_ _ | refine Kd.C_drewN ?_ _ | refine Kd.C_drew ?_)); (case side3 => exact HC3.out); rintro e w16 ⟨v287, rfl, ho0, hb⟩; refine ⟨_, rfl, ?_⟩; have n0_ := Aside0.mk (Kd.V_lower (Kd.V_mono (ok' := fun k_ => True) ho0 (fun k_ hk_ => trivial)) bsz_); have n1_ := Aside0.mk (bst_ hb); clear HB; have HO288 := n0_; have HB := n1_; clear n0_ n1_; (try clear hb); (try clear hb2); (try clear hk); (try clear hi); (try clear ho0)) | ((with_reducible refine gate_callee (f := 34) rfl ?_); refine goesL_ (some 39) rfl rfl Try.func34 (by kernel_rfl) rfl #[.slice A0 l0.length c0, .int .i64 a1, .slice A3 l3.length c3] rfl (by (try simp only [List.map_toArray, List.map_cons, List.map_nil]); first | done | rfl) ?_; (with_reducible refine (handshakerref03_Lock.calls kj4 (fun k_ => k_ < w.heap.size) _ _ l0 a1 _ _ l3 t290 t293 _ ?side1 ?side2 ?side3 A11.out).mono ?_); (case side1 => exact Kd.V_mk HC0.out (Kd.F_below (Kd.C_F k67_heap HR0.out) (by repeat (with_reducible first | exact HB.out | apply below_alloc | apply pw_below_drewN | apply below_drew1)))); (case side2 => repeat (first | exact (Kd.C_below HR3.out HB.out) | with_reducible first | refine Kd.C_alloc ?_ _ | refine Kd.C_drewN ?_ _ | refine Kd.C_drew ?_)); (case side3 => exact HC3.out); rintro e w17 ⟨v291, rfl, ho0, hb⟩; refine ⟨_, rfl, ?_⟩; have n0_ := Aside0.mk (Kd.V_below (by (with_reducible repeat (first | apply Kd.V_alloc | apply Kd.V_drewN | apply Kd.V_drew)); exact HO288.out) hb); have n1_ := Aside0.mk (Kd.V_lower (Kd.V_mono (ok' := fun k_ => True) ho0 (fun k_ hk_ => trivial)) bsz_); have n2_ := Aside0.mk (bst_ hb); clear HO288; clear HB; have HO288 := n0_; have HO292 := n1_; have HB := n2_; clear n0_ n1_ n2_; (try clear hb); (try clear hb2); (try clear hk); (try clear hi); (try clear ho0)) | ((with_reducible refine gate_callee (f := 32) rfl ?_); refine goesL_ (some 46) rfl rfl Try.func32 (by kernel_rfl) rfl #[.slice A0 l0.length c0, .int .i64 a1, .int .i64 a2] rfl (by (try simp only [List.map_toArray, List.map_cons, List.map_nil]); first | done | rfl) ?_; (with_reducible refine (stripe_Stamp.calls kj4 (fun k_ => k_ < w.heap.size) _ _ l0 a1 a2 t294 t297 _ ?side1 A12.out).mono ?_); (case side1 => exact Kd.V_mk HC0.out (Kd.F_below (Kd.C_F k67_heap HR0.out) (by repeat (with_reducible first | exact HB.out | apply below_alloc | apply pw_below_drewN | apply below_drew1)))); rintro e w18 ⟨v295, rfl, ho0, hb⟩; refine ⟨_, rfl, ?_⟩; have n0_ := Aside0.mk (Kd.V_below (by (with_reducible repeat (first | apply Kd.V_alloc | apply Kd.V_drewN | apply Kd.V_drew)); exact HO288.out) hb); have n1_ := Aside0.mk (Kd.V_below (by (with_reducible repeat (first | apply Kd.V_alloc | apply Kd.V_drewN | apply Kd.V_drew)); exact HO292.out) hb); have n2_ := Aside0.mk (Kd.V_lower (Kd.V_mono (ok' := fun k_ => True) ho0 (fun k_ hk_ => trivial)) bsz_); have n3_ := Aside0.mk (bst_ hb); clear HO288; clear HO292; clear HB; have HO288 := n0_; have HO292 := n1_; have HO296 := n2_; have HB := n3_; clear n0_ n1_ n2_ n3_; (try clear hb); (try clear hb2); (try clear hk); (try clear hi); (try clear ho0)) | ((with_reducible refine gate_callee (f := 35) rfl ?_); refine goesL_ (some 53) rfl rfl Try.func35 (by kernel_rfl) rfl #[.slice A0 l0.length c0, .int .i64 a1, .int .i64 a2] rfl (by (try simp only [List.map_toArray, List.map_cons, List.map_nil]); first | done | rfl) ?_; (with_reducible refine (handshakerref03_Stamp.calls kj4 (fun k_ => k_ < w.heap.size) _ _ l0 a1 a2 t298 t301 _ ?side1 A13.out).mono ?_); (case side1 => exact Kd.V_mk HC0.out (Kd.F_below (Kd.C_F k67_heap HR0.out) (by repeat (with_reducible first | exact HB.out | apply below_alloc | apply pw_below_drewN | apply below_drew1)))); rintro e w19 ⟨v299, rfl, ho0, hb⟩; refine ⟨_, rfl, ?_⟩; have n0_ := Aside0.mk (Kd.V_below (by (with_reducible repeat (first | apply Kd.V_alloc | apply Kd.V_drewN | apply Kd.V_drew)); exact HO288.out) hb); have n1_ := Aside0.mk (Kd.V_below (by (with_reducible repeat (first | apply Kd.V_alloc | apply Kd.V_drewN | apply Kd.V_drew)); exact HO292.out) hb); have n2_ := Aside0.mk (Kd.V_below (by (with_reducible repeat (first | apply Kd.V_alloc | apply Kd.V_drewN | apply Kd.V_drew)); exact HO296.out) hb); have n3_ := Aside0.mk (Kd.V_lower (Kd.V_mono (ok' := fun k_ => True) ho0 (fun k_ hk_ => trivial)) bsz_); have n4_ := Aside0.mk (bst_ hb); clear HO288; clear HO292; clear HO296; clear HB; have HO288 := n0_; have HO292 := n1_; have HO296 := n2_; have HO300 := n3_; have HB := n4_; clear n0_ n1_ n2_ n3_ n4_; (try clear hb); (try clear hb2); (try clear hk); (try clear hi); (try clear ho0)) | ((with_reducible refine gate_callee (f := 36) rfl ?_); refine goesL_ (some 58) rfl rfl Try.func36 (by kernel_rfl) rfl #[.int .i64 a2] rfl (by (try simp only [List.map_toArray, List.map_cons, List.map_nil]); first | done | rfl) ?_; (with_reducible refine (stripe_New.calls a2 t302 t303 _ A14.out).mono ?_); rintro e w20 ⟨v304, rfl, ho0, hb⟩; refine ⟨_, rfl, ?_⟩; have n0_ := Aside0.mk (Kd.V_elder' (by (with_reducible repeat (first | apply Kd.V_alloc | apply Kd.V_drewN | apply Kd.V_drew)); exact HO288.out) (Kd.R_base ho0) hb); have n1_ := Aside0.mk (Kd.V_elder' (by (with_reducible repeat (first | apply Kd.V_alloc | apply Kd.V_drewN | apply Kd.V_drew)); exact HO292.out) (Kd.R_base ho0) hb); have n2_ := Aside0.mk (Kd.V_elder' (by (with_reducible repeat (first | apply Kd.V_alloc | apply Kd.V_drewN | apply Kd.V_drew)); exact HO296.out) (Kd.R_base ho0) hb); have n3_ := Aside0.mk (Kd.V_elder' (by (with_reducible repeat (first | apply Kd.V_alloc | apply Kd.V_drewN | apply Kd.V_drew)); exact HO300.out) (Kd.R_base ho0) hb); have n4_ := Aside0.mk (Kd.R_lower ho0 bsz_); have n5_ := Aside0.mk (bst_ hb); clear HO288; clear HO292; clear HO296; clear HO300; clear HB; have HO288 := n0_; have HO292 := n1_; have HO296 := n2_; have HO300 := n3_; have HO305 := n4_; have HB := n5_; clear n0_ n1_ n2_ n3_ n4_ n5_; (try clear hb); (try clear hb2); (try clear hk); (try clear hi); (try clear ho0)))
     (try simp only [Act.put, List.setIfInBounds_toArray, List.set_cons_zero, List.set_cons_succ])
     go_cut [92] (fun v92 wc => ∃ (kq : Nat) (x92_14 : Bool), v92 = .bool x92_14 ∧ Aside0 (handshakerlaw03_StripeTells.j1 kq l0 a1 l3 t286 t289 t290 t293 t294 t297 t298 t301 x92_14 = some r) ∧ Aside0 (kq ≤ kj4) ∧ Aside0 (Kd.V k67 67 wc w.heap.size (fun _ => True) v287 t286) ∧ Aside0 (Kd.V k67 67 wc w.heap.size (fun _ => True) v291 t290) ∧ Aside0 (Kd.V k67 67 wc w.heap.size (fun _ => True) v295 t294) ∧ Aside0 (Kd.V k67 67 wc w.heap.size (fun _ => True) v299 t298) ∧ Aside0 (Below w.heap.size w wc))
     case first =>
      have H := HC15.out
      clear HC15
      by_cases c21 : a2 ≥ 1
      · rw [if_pos c21] at H
        have c21b0 : decide (1 ≤ a2) = true := decide_eq_true c21
        clear c21
        (first | rw [c21b0] | (simp only [i64_w, i32_w]; rw [c21b0]) | skip)
        by_cases c22 : t303 = 0
        · rw [if_pos c22] at H
          have c22b0 : (t303 == 0) = true := beq_iff_eq.mpr c22
          have c22b1 : (t303 != 0) = false := bne_eq_false_iff_eq.mpr c22
          clear c22
          by_cases c23 : a2 ≤ 16
          · rw [if_pos c23] at H
            have c23b0 : decide (a2 ≤ 16) = true := decide_eq_true c23
            clear c23
            by_cases c24 : (t302.length : Int) = a2
            · rw [if_pos c24] at H
              have c24b0 : ((t302.length : Int) == a2) = true := beq_iff_eq.mpr c24
              have c24b1 : ((t302.length : Int) != a2) = false := bne_eq_false_iff_eq.mpr c24
              clear c24
              have H' := Aside0.mk H
              clear H
              obtain ⟨Ao25, co25, eo25⟩ := Kd.R_slice HO305.out
              subst eo25
              go_wp2
              go_meet
              case rel => exact ⟨_, (false), (by first | rfl | (simp; done) | (simp [*]; done)), H', ⟨by have := HJ4.out; first | omega | exact Nat.le_refl _⟩, ⟨by (with_reducible repeat (first | apply Kd.V_alloc | apply Kd.V_drewN | apply Kd.V_drew)); exact Kd.V_mono HO288.out (fun _ hk => trivial)⟩, ⟨by (with_reducible repeat (first | apply Kd.V_alloc | apply Kd.V_drewN | apply Kd.V_drew)); exact Kd.V_mono HO292.out (fun _ hk => trivial)⟩, ⟨by (with_reducible repeat (first | apply Kd.V_alloc | apply Kd.V_drewN | apply Kd.V_drew)); exact Kd.V_mono HO296.out (fun _ hk => trivial)⟩, ⟨by (with_reducible repeat (first | apply Kd.V_alloc | apply Kd.V_drewN | apply Kd.V_drew)); exact Kd.V_mono HO300.out (fun _ hk => trivial)⟩, ⟨by repeat (with_reducible first | exact HB.out | apply below_alloc | apply pw_below_drewN | apply below_drew1)⟩⟩
            · rw [if_neg c24] at H
              have c24b0 : ((t302.length : Int) == a2) = false := beq_eq_false_iff_ne.mpr c24
              have c24b1 : ((t302.length : Int) != a2) = true := bne_iff_ne.mpr c24
              have H' := Aside0.mk H
              clear H
              obtain ⟨Ao26, co26, eo26⟩ := Kd.R_slice HO305.out
              subst eo26
              go_wp2
              go_meet
              case rel => exact ⟨_, (true), (by first | rfl | (simp; done) | (simp [*]; done)), H', ⟨by have := HJ4.out; first | omega | exact Nat.le_refl _⟩, ⟨by (with_reducible repeat (first | apply Kd.V_alloc | apply Kd.V_drewN | apply Kd.V_drew)); exact Kd.V_mono HO288.out (fun _ hk => trivial)⟩, ⟨by (with_reducible repeat (first | apply Kd.V_alloc | apply Kd.V_drewN | apply Kd.V_drew)); exact Kd.V_mono HO292.out (fun _ hk => trivial)⟩, ⟨by (with_reducible repeat (first | apply Kd.V_alloc | apply Kd.V_drewN | apply Kd.V_drew)); exact Kd.V_mono HO296.out (fun _ hk => trivial)⟩, ⟨by (with_reducible repeat (first | apply Kd.V_alloc | apply Kd.V_drewN | apply Kd.V_drew)); exact Kd.V_mono HO300.out (fun _ hk => trivial)⟩, ⟨by repeat (with_reducible first | exact HB.out | apply below_alloc | apply pw_below_drewN | apply below_drew1)⟩⟩
          · rw [if_neg c23] at H
            have c23b0 : decide (a2 ≤ 16) = false := decide_eq_false c23
            clear c23
            have H' := Aside0.mk H
            clear H
            go_wp2
            go_meet
            case rel => exact ⟨_, (true), (by first | rfl | (simp; done) | (simp [*]; done)), H', ⟨by have := HJ4.out; first | omega | exact Nat.le_refl _⟩, ⟨by (with_reducible repeat (first | apply Kd.V_alloc | apply Kd.V_drewN | apply Kd.V_drew)); exact Kd.V_mono HO288.out (fun _ hk => trivial)⟩, ⟨by (with_reducible repeat (first | apply Kd.V_alloc | apply Kd.V_drewN | apply Kd.V_drew)); exact Kd.V_mono HO292.out (fun _ hk => trivial)⟩, ⟨by (with_reducible repeat (first | apply Kd.V_alloc | apply Kd.V_drewN | apply Kd.V_drew)); exact Kd.V_mono HO296.out (fun _ hk => trivial)⟩, ⟨by (with_reducible repeat (first | apply Kd.V_alloc | apply Kd.V_drewN | apply Kd.V_drew)); exact Kd.V_mono HO300.out (fun _ hk => trivial)⟩, ⟨by repeat (with_reducible first | exact HB.out | apply below_alloc | apply pw_below_drewN | apply below_drew1)⟩⟩
        · rw [if_neg c22] at H
          have c22b0 : (t303 == 0) = false := beq_eq_false_iff_ne.mpr c22
          have c22b1 : (t303 != 0) = true := bne_iff_ne.mpr c22
          by_cases c27 : a2 ≤ 16
          · rw [if_pos c27] at H
            have c27b0 : decide (a2 ≤ 16) = true := decide_eq_true c27
            clear c27
            have H' := Aside0.mk H
            clear H
            go_wp2
            go_meet
            case rel => exact ⟨_, (true), (by first | rfl | (simp; done) | (simp [*]; done)), H', ⟨by have := HJ4.out; first | omega | exact Nat.le_refl _⟩, ⟨by (with_reducible repeat (first | apply Kd.V_alloc | apply Kd.V_drewN | apply Kd.V_drew)); exact Kd.V_mono HO288.out (fun _ hk => trivial)⟩, ⟨by (with_reducible repeat (first | apply Kd.V_alloc | apply Kd.V_drewN | apply Kd.V_drew)); exact Kd.V_mono HO292.out (fun _ hk => trivial)⟩, ⟨by (with_reducible repeat (first | apply Kd.V_alloc | apply Kd.V_drewN | apply Kd.V_drew)); exact Kd.V_mono HO296.out (fun _ hk => trivial)⟩, ⟨by (with_reducible repeat (first | apply Kd.V_alloc | apply Kd.V_drewN | apply Kd.V_drew)); exact Kd.V_mono HO300.out (fun _ hk => trivial)⟩, ⟨by repeat (with_reducible first | exact HB.out | apply below_alloc | apply pw_below_drewN | apply below_drew1)⟩⟩
          · rw [if_neg c27] at H
            have c27b0 : decide (a2 ≤ 16) = false := decide_eq_false c27
            clear c27
            by_cases c28 : (t302.length : Int) = 0
            · rw [if_pos c28] at H
              have c28b0 : ((t302.length : Int) == 0) = true := beq_iff_eq.mpr c28
              have c28b1 : ((t302.length : Int) != 0) = false := bne_eq_false_iff_eq.mpr c28
              clear c28
              have H' := Aside0.mk H
              clear H
              obtain ⟨Ao29, co29, eo29⟩ := Kd.R_slice HO305.out
              subst eo29
              go_wp2
              go_meet
              case rel => exact ⟨_, ((t303 != 1)), (by first | rfl | (simp; done) | (simp [*]; done)), H', ⟨by have := HJ4.out; first | omega | exact Nat.le_refl _⟩, ⟨by (with_reducible repeat (first | apply Kd.V_alloc | apply Kd.V_drewN | apply Kd.V_drew)); exact Kd.V_mono HO288.out (fun _ hk => trivial)⟩, ⟨by (with_reducible repeat (first | apply Kd.V_alloc | apply Kd.V_drewN | apply Kd.V_drew)); exact Kd.V_mono HO292.out (fun _ hk => trivial)⟩, ⟨by (with_reducible repeat (first | apply Kd.V_alloc | apply Kd.V_drewN | apply Kd.V_drew)); exact Kd.V_mono HO296.out (fun _ hk => trivial)⟩, ⟨by (with_reducible repeat (first | apply Kd.V_alloc | apply Kd.V_drewN | apply Kd.V_drew)); exact Kd.V_mono HO300.out (fun _ hk => trivial)⟩, ⟨by repeat (with_reducible first | exact HB.out | apply below_alloc | apply pw_below_drewN | apply below_drew1)⟩⟩
            · rw [if_neg c28] at H
              have c28b0 : ((t302.length : Int) == 0) = false := beq_eq_false_iff_ne.mpr c28
              have c28b1 : ((t302.length : Int) != 0) = true := bne_iff_ne.mpr c28
              have c28b2 : ¬ (t302 = []) := fun h_ => c28 (by rw [h_]; rfl)
              have H' := Aside0.mk H
              clear H
              obtain ⟨Ao30, co30, eo30⟩ := Kd.R_slice HO305.out
              subst eo30
              go_wp2
              go_meet
              case rel => exact ⟨_, (true), (by first | rfl | (simp; done) | (simp [*]; done)), H', ⟨by have := HJ4.out; first | omega | exact Nat.le_refl _⟩, ⟨by (with_reducible repeat (first | apply Kd.V_alloc | apply Kd.V_drewN | apply Kd.V_drew)); exact Kd.V_mono HO288.out (fun _ hk => trivial)⟩, ⟨by (with_reducible repeat (first | apply Kd.V_alloc | apply Kd.V_drewN | apply Kd.V_drew)); exact Kd.V_mono HO292.out (fun _ hk => trivial)⟩, ⟨by (with_reducible repeat (first | apply Kd.V_alloc | apply Kd.V_drewN | apply Kd.V_drew)); exact Kd.V_mono HO296.out (fun _ hk => trivial)⟩, ⟨by (with_reducible repeat (first | apply Kd.V_alloc | apply Kd.V_drewN | apply Kd.V_drew)); exact Kd.V_mono HO300.out (fun _ hk => trivial)⟩, ⟨by repeat (with_reducible first | exact HB.out | apply below_alloc | apply pw_below_drewN | apply below_drew1)⟩⟩
      · rw [if_neg c21] at H
        have c21b0 : decide (1 ≤ a2) = false := decide_eq_false c21
        clear c21
        (first | rw [c21b0] | (simp only [i64_w, i32_w]; rw [c21b0]) | skip)
        by_cases c31 : t303 = 0
        · rw [if_pos c31] at H
          have c31b0 : (t303 == 0) = true := beq_iff_eq.mpr c31
          have c31b1 : (t303 != 0) = false := bne_eq_false_iff_eq.mpr c31
          clear c31
          have H' := Aside0.mk H
          clear H
          go_wp2
          go_meet
          case rel => exact ⟨_, (true), (by first | rfl | (simp; done) | (simp [*]; done)), H', ⟨by have := HJ4.out; first | omega | exact Nat.le_refl _⟩, ⟨by (with_reducible repeat (first | apply Kd.V_alloc | apply Kd.V_drewN | apply Kd.V_drew)); exact Kd.V_mono HO288.out (fun _ hk => trivial)⟩, ⟨by (with_reducible repeat (first | apply Kd.V_alloc | apply Kd.V_drewN | apply Kd.V_drew)); exact Kd.V_mono HO292.out (fun _ hk => trivial)⟩, ⟨by (with_reducible repeat (first | apply Kd.V_alloc | apply Kd.V_drewN | apply Kd.V_drew)); exact Kd.V_mono HO296.out (fun _ hk => trivial)⟩, ⟨by (with_reducible repeat (first | apply Kd.V_alloc | apply Kd.V_drewN | apply Kd.V_drew)); exact Kd.V_mono HO300.out (fun _ hk => trivial)⟩, ⟨by repeat (with_reducible first | exact HB.out | apply below_alloc | apply pw_below_drewN | apply below_drew1)⟩⟩
        · rw [if_neg c31] at H
          have c31b0 : (t303 == 0) = false := beq_eq_false_iff_ne.mpr c31
          have c31b1 : (t303 != 0) = true := bne_iff_ne.mpr c31
          by_cases c32 : (t302.length : Int) = 0
          · rw [if_pos c32] at H
            have c32b0 : ((t302.length : Int) == 0) = true := beq_iff_eq.mpr c32
            have c32b1 : ((t302.length : Int) != 0) = false := bne_eq_false_iff_eq.mpr c32
            clear c32
            have H' := Aside0.mk H
            clear H
            obtain ⟨Ao33, co33, eo33⟩ := Kd.R_slice HO305.out
            subst eo33
            go_wp2
            go_meet
            case rel => exact ⟨_, ((t303 != 1)), (by first | rfl | (simp; done) | (simp [*]; done)), H', ⟨by have := HJ4.out; first | omega | exact Nat.le_refl _⟩, ⟨by (with_reducible repeat (first | apply Kd.V_alloc | apply Kd.V_drewN | apply Kd.V_drew)); exact Kd.V_mono HO288.out (fun _ hk => trivial)⟩, ⟨by (with_reducible repeat (first | apply Kd.V_alloc | apply Kd.V_drewN | apply Kd.V_drew)); exact Kd.V_mono HO292.out (fun _ hk => trivial)⟩, ⟨by (with_reducible repeat (first | apply Kd.V_alloc | apply Kd.V_drewN | apply Kd.V_drew)); exact Kd.V_mono HO296.out (fun _ hk => trivial)⟩, ⟨by (with_reducible repeat (first | apply Kd.V_alloc | apply Kd.V_drewN | apply Kd.V_drew)); exact Kd.V_mono HO300.out (fun _ hk => trivial)⟩, ⟨by repeat (with_reducible first | exact HB.out | apply below_alloc | apply pw_below_drewN | apply below_drew1)⟩⟩
          · rw [if_neg c32] at H
            have c32b0 : ((t302.length : Int) == 0) = false := beq_eq_false_iff_ne.mpr c32
            have c32b1 : ((t302.length : Int) != 0) = true := bne_iff_ne.mpr c32
            have c32b2 : ¬ (t302 = []) := fun h_ => c32 (by rw [h_]; rfl)
            have H' := Aside0.mk H
            clear H
            obtain ⟨Ao34, co34, eo34⟩ := Kd.R_slice HO305.out
            subst eo34
            go_wp2
            go_meet
            case rel => exact ⟨_, (true), (by first | rfl | (simp; done) | (simp [*]; done)), H', ⟨by have := HJ4.out; first | omega | exact Nat.le_refl _⟩, ⟨by (with_reducible repeat (first | apply Kd.V_alloc | apply Kd.V_drewN | apply Kd.V_drew)); exact Kd.V_mono HO288.out (fun _ hk => trivial)⟩, ⟨by (with_reducible repeat (first | apply Kd.V_alloc | apply Kd.V_drewN | apply Kd.V_drew)); exact Kd.V_mono HO292.out (fun _ hk => trivial)⟩, ⟨by (with_reducible repeat (first | apply Kd.V_alloc | apply Kd.V_drewN | apply Kd.V_drew)); exact Kd.V_mono HO296.out (fun _ hk => trivial)⟩, ⟨by (with_reducible repeat (first | apply Kd.V_alloc | apply Kd.V_drewN | apply Kd.V_drew)); exact Kd.V_mono HO300.out (fun _ hk => trivial)⟩, ⟨by repeat (with_reducible first | exact HB.out | apply below_alloc | apply pw_below_drewN | apply below_drew1)⟩⟩
     case rest =>
      clear HC15
      try clear c2
      try clear p2
      try clear c3
      try clear c6
      try clear c6b0
      try clear c6b1
      try clear c7
      try clear c9
      try clear c21
      try clear c21b0
      try clear c22
      try clear c22b0
      try clear c22b1
      try clear c23
      try clear c23b0
      try clear c24
      try clear c24b0
      try clear c24b1
      try clear c27
      try clear c27b0
      try clear c28
      try clear c28b0
      try clear c28b1
      try clear c28b2
      try clear c30
      try clear c31
      try clear c31b0
      try clear c31b1
      try clear c32
      try clear c32b0
      try clear c32b1
      try clear c32b2
      try clear c33
      try clear c34
      try clear p2
      obtain ⟨kq, x92_14, rfl, HA, HJ14, HO_9, HO_11, HO_13, HO_15, HB⟩ := hcut
      cases kq with
      | zero => exact absurd HA.out (by simp [handshakerlaw03_StripeTells.j1])
      | succ kj14 =>
       have H := HA.out
       clear HA
       simp only [handshakerlaw03_StripeTells.j1] at H
       by_cases c35 : x92_14 = true
       · subst c35
         have H1 : (some false) = some r := by rw [if_pos rfl] at H; exact H
         clear H
         have H := H1
         clear H1
         exact absurd (Option.some.inj H) (by rw [HT.out]; decide)
       · replace c35 := Bool.eq_false_iff.mpr c35
         subst c35
         have H1 : ((stripe_Right.f l0).bind fun t306 => ((handshakerref03_Right.f kj14 l0).bind fun t307 => (if t306 = true then (if t307 = true then ((stripe_Of.f kj14 l0 l3).bind fun t308 => ((handshakerref03_Of.f kj14 l0 l3).bind fun t311 => ((handshakerref03_Numbers.f kj14 t308 t311).bind fun t314 => (if t314 = true then ((stripe_Held.f kj14 l0 a1).bind fun t315 => ((handshakerref03_Held.f kj14 l0 a1).bind fun t318 => ((handshakerref03_Numbers.f kj14 t315 t318).bind fun t321 => (if t321 = true then ((handshakerref03_Same.f kj14 t286 t290).bind fun t322 => (if t322 = true then (if t289 = t293 then ((handshakerref03_Same.f kj14 t294 t298).bind fun t323 => (if t323 = true then (if t297 = t301 then ((stripe_Let.f kj14 l0 a1).bind fun t324 => ((handshakerref03_Let.f kj14 l0 a1).bind fun t327 => ((handshakerref03_Same.f kj14 t324 t327).bind fun t330 => (if t330 = true then ((handshakerlaw03_awake.f kj14).bind fun t331 => (some t331)) else (some false))))) else (some false)) else (some false))) else (some false)) else (some false))) else (some false))))) else (some false))))) else (some false)) else (if t307 = true then (some false) else ((stripe_Of.f kj14 l0 l3).bind fun t332 => ((handshakerref03_Of.f kj14 l0 l3).bind fun t335 => ((handshakerref03_Numbers.f kj14 t332 t335).bind fun t338 => (if t338 = true then ((stripe_Held.f kj14 l0 a1).bind fun t339 => ((handshakerref03_Held.f kj14 l0 a1).bind fun t342 => ((handshakerref03_Numbers.f kj14 t339 t342).bind fun t345 => (if t345 = true then ((handshakerref03_Same.f kj14 t286 t290).bind fun t346 => (if t346 = true then (if t289 = t293 then ((handshakerref03_Same.f kj14 t294 t298).bind fun t347 => (if t347 = true then (if t297 = t301 then ((stripe_Let.f kj14 l0 a1).bind fun t348 => ((handshakerref03_Let.f kj14 l0 a1).bind fun t351 => ((handshakerref03_Same.f kj14 t348 t351).bind fun t354 => (if t354 = true then ((handshakerlaw03_awake.f kj14).bind fun t355 => (some t355)) else (some false))))) else (some false)) else (some false))) else (some false)) else (some false))) else (some false))))) else (some false))))))))) = some r := by rw [if_neg (show ¬ (false = true) by decide)] at H; exact H
         clear H
         have H := H1
         clear H1
         replace H := Option.bind_eq_some_iff.mp H
         obtain ⟨t306, A360, H⟩ := H
         replace H : ((handshakerref03_Right.f kj14 l0).bind fun t307 => (if t306 = true then (if t307 = true then ((stripe_Of.f kj14 l0 l3).bind fun t308 => ((handshakerref03_Of.f kj14 l0 l3).bind fun t311 => ((handshakerref03_Numbers.f kj14 t308 t311).bind fun t314 => (if t314 = true then ((stripe_Held.f kj14 l0 a1).bind fun t315 => ((handshakerref03_Held.f kj14 l0 a1).bind fun t318 => ((handshakerref03_Numbers.f kj14 t315 t318).bind fun t321 => (if t321 = true then ((handshakerref03_Same.f kj14 t286 t290).bind fun t322 => (if t322 = true then (if t289 = t293 then ((handshakerref03_Same.f kj14 t294 t298).bind fun t323 => (if t323 = true then (if t297 = t301 then ((stripe_Let.f kj14 l0 a1).bind fun t324 => ((handshakerref03_Let.f kj14 l0 a1).bind fun t327 => ((handshakerref03_Same.f kj14 t324 t327).bind fun t330 => (if t330 = true then ((handshakerlaw03_awake.f kj14).bind fun t331 => (some t331)) else (some false))))) else (some false)) else (some false))) else (some false)) else (some false))) else (some false))))) else (some false))))) else (some false)) else (if t307 = true then (some false) else ((stripe_Of.f kj14 l0 l3).bind fun t332 => ((handshakerref03_Of.f kj14 l0 l3).bind fun t335 => ((handshakerref03_Numbers.f kj14 t332 t335).bind fun t338 => (if t338 = true then ((stripe_Held.f kj14 l0 a1).bind fun t339 => ((handshakerref03_Held.f kj14 l0 a1).bind fun t342 => ((handshakerref03_Numbers.f kj14 t339 t342).bind fun t345 => (if t345 = true then ((handshakerref03_Same.f kj14 t286 t290).bind fun t346 => (if t346 = true then (if t289 = t293 then ((handshakerref03_Same.f kj14 t294 t298).bind fun t347 => (if t347 = true then (if t297 = t301 then ((stripe_Let.f kj14 l0 a1).bind fun t348 => ((handshakerref03_Let.f kj14 l0 a1).bind fun t351 => ((handshakerref03_Same.f kj14 t348 t351).bind fun t354 => (if t354 = true then ((handshakerlaw03_awake.f kj14).bind fun t355 => (some t355)) else (some false))))) else (some false)) else (some false))) else (some false)) else (some false))) else (some false))))) else (some false)))))))) = some r := H
         have A36 := Aside0.mk A360
         clear A360
         replace H := Option.bind_eq_some_iff.mp H
         obtain ⟨t307, A370, H⟩ := H
         replace H : (if t306 = true then (if t307 = true then ((stripe_Of.f kj14 l0 l3).bind fun t308 => ((handshakerref03_Of.f kj14 l0 l3).bind fun t311 => ((handshakerref03_Numbers.f kj14 t308 t311).bind fun t314 => (if t314 = true then ((stripe_Held.f kj14 l0 a1).bind fun t315 => ((handshakerref03_Held.f kj14 l0 a1).bind fun t318 => ((handshakerref03_Numbers.f kj14 t315 t318).bind fun t321 => (if t321 = true then ((handshakerref03_Same.f kj14 t286 t290).bind fun t322 => (if t322 = true then (if t289 = t293 then ((handshakerref03_Same.f kj14 t294 t298).bind fun t323 => (if t323 = true then (if t297 = t301 then ((stripe_Let.f kj14 l0 a1).bind fun t324 => ((handshakerref03_Let.f kj14 l0 a1).bind fun t327 => ((handshakerref03_Same.f kj14 t324 t327).bind fun t330 => (if t330 = true then ((handshakerlaw03_awake.f kj14).bind fun t331 => (some t331)) else (some false))))) else (some false)) else (some false))) else (some false)) else (some false))) else (some false))))) else (some false))))) else (some false)) else (if t307 = true then (some false) else ((stripe_Of.f kj14 l0 l3).bind fun t332 => ((handshakerref03_Of.f kj14 l0 l3).bind fun t335 => ((handshakerref03_Numbers.f kj14 t332 t335).bind fun t338 => (if t338 = true then ((stripe_Held.f kj14 l0 a1).bind fun t339 => ((handshakerref03_Held.f kj14 l0 a1).bind fun t342 => ((handshakerref03_Numbers.f kj14 t339 t342).bind fun t345 => (if t345 = true then ((handshakerref03_Same.f kj14 t286 t290).bind fun t346 => (if t346 = true then (if t289 = t293 then ((handshakerref03_Same.f kj14 t294 t298).bind fun t347 => (if t347 = true then (if t297 = t301 then ((stripe_Let.f kj14 l0 a1).bind fun t348 => ((handshakerref03_Let.f kj14 l0 a1).bind fun t351 => ((handshakerref03_Same.f kj14 t348 t351).bind fun t354 => (if t354 = true then ((handshakerlaw03_awake.f kj14).bind fun t355 => (some t355)) else (some false))))) else (some false)) else (some false))) else (some false)) else (some false))) else (some false))))) else (some false))))))) = some r := H
         have A37 := Aside0.mk A370
         clear A370
         by_cases c38 : t306 = true
         · subst c38
           have H1 : (if t307 = true then ((stripe_Of.f kj14 l0 l3).bind fun t308 => ((handshakerref03_Of.f kj14 l0 l3).bind fun t311 => ((handshakerref03_Numbers.f kj14 t308 t311).bind fun t314 => (if t314 = true then ((stripe_Held.f kj14 l0 a1).bind fun t315 => ((handshakerref03_Held.f kj14 l0 a1).bind fun t318 => ((handshakerref03_Numbers.f kj14 t315 t318).bind fun t321 => (if t321 = true then ((handshakerref03_Same.f kj14 t286 t290).bind fun t322 => (if t322 = true then (if t289 = t293 then ((handshakerref03_Same.f kj14 t294 t298).bind fun t323 => (if t323 = true then (if t297 = t301 then ((stripe_Let.f kj14 l0 a1).bind fun t324 => ((handshakerref03_Let.f kj14 l0 a1).bind fun t327 => ((handshakerref03_Same.f kj14 t324 t327).bind fun t330 => (if t330 = true then ((handshakerlaw03_awake.f kj14).bind fun t331 => (some t331)) else (some false))))) else (some false)) else (some false))) else (some false)) else (some false))) else (some false))))) else (some false))))) else (some false)) = some r := by rw [if_pos rfl] at H; exact H
           clear H
           have H := H1
           clear H1
           by_cases c39 : t307 = true
           · subst c39
             have H1 : ((stripe_Of.f kj14 l0 l3).bind fun t308 => ((handshakerref03_Of.f kj14 l0 l3).bind fun t311 => ((handshakerref03_Numbers.f kj14 t308 t311).bind fun t314 => (if t314 = true then ((stripe_Held.f kj14 l0 a1).bind fun t315 => ((handshakerref03_Held.f kj14 l0 a1).bind fun t318 => ((handshakerref03_Numbers.f kj14 t315 t318).bind fun t321 => (if t321 = true then ((handshakerref03_Same.f kj14 t286 t290).bind fun t322 => (if t322 = true then (if t289 = t293 then ((handshakerref03_Same.f kj14 t294 t298).bind fun t323 => (if t323 = true then (if t297 = t301 then ((stripe_Let.f kj14 l0 a1).bind fun t324 => ((handshakerref03_Let.f kj14 l0 a1).bind fun t327 => ((handshakerref03_Same.f kj14 t324 t327).bind fun t330 => (if t330 = true then ((handshakerlaw03_awake.f kj14).bind fun t331 => (some t331)) else (some false))))) else (some false)) else (some false))) else (some false)) else (some false))) else (some false))))) else (some false))))) = some r := by rw [if_pos rfl] at H; exact H
             clear H
             have H := H1
             clear H1
             replace H := Option.bind_eq_some_iff.mp H
             obtain ⟨t308, A400, H⟩ := H
             replace H : ((handshakerref03_Of.f kj14 l0 l3).bind fun t311 => ((handshakerref03_Numbers.f kj14 t308 t311).bind fun t314 => (if t314 = true then ((stripe_Held.f kj14 l0 a1).bind fun t315 => ((handshakerref03_Held.f kj14 l0 a1).bind fun t318 => ((handshakerref03_Numbers.f kj14 t315 t318).bind fun t321 => (if t321 = true then ((handshakerref03_Same.f kj14 t286 t290).bind fun t322 => (if t322 = true then (if t289 = t293 then ((handshakerref03_Same.f kj14 t294 t298).bind fun t323 => (if t323 = true then (if t297 = t301 then ((stripe_Let.f kj14 l0 a1).bind fun t324 => ((handshakerref03_Let.f kj14 l0 a1).bind fun t327 => ((handshakerref03_Same.f kj14 t324 t327).bind fun t330 => (if t330 = true then ((handshakerlaw03_awake.f kj14).bind fun t331 => (some t331)) else (some false))))) else (some false)) else (some false))) else (some false)) else (some false))) else (some false))))) else (some false)))) = some r := H
             have A40 := Aside0.mk A400
             clear A400
             replace H := Option.bind_eq_some_iff.mp H
             obtain ⟨t311, A410, H⟩ := H
             replace H : ((handshakerref03_Numbers.f kj14 t308 t311).bind fun t314 => (if t314 = true then ((stripe_Held.f kj14 l0 a1).bind fun t315 => ((handshakerref03_Held.f kj14 l0 a1).bind fun t318 => ((handshakerref03_Numbers.f kj14 t315 t318).bind fun t321 => (if t321 = true then ((handshakerref03_Same.f kj14 t286 t290).bind fun t322 => (if t322 = true then (if t289 = t293 then ((handshakerref03_Same.f kj14 t294 t298).bind fun t323 => (if t323 = true then (if t297 = t301 then ((stripe_Let.f kj14 l0 a1).bind fun t324 => ((handshakerref03_Let.f kj14 l0 a1).bind fun t327 => ((handshakerref03_Same.f kj14 t324 t327).bind fun t330 => (if t330 = true then ((handshakerlaw03_awake.f kj14).bind fun t331 => (some t331)) else (some false))))) else (some false)) else (some false))) else (some false)) else (some false))) else (some false))))) else (some false))) = some r := H
             have A41 := Aside0.mk A410
             clear A410
             replace H := Option.bind_eq_some_iff.mp H
             obtain ⟨t314, A420, H⟩ := H
             replace H : (if t314 = true then ((stripe_Held.f kj14 l0 a1).bind fun t315 => ((handshakerref03_Held.f kj14 l0 a1).bind fun t318 => ((handshakerref03_Numbers.f kj14 t315 t318).bind fun t321 => (if t321 = true then ((handshakerref03_Same.f kj14 t286 t290).bind fun t322 => (if t322 = true then (if t289 = t293 then ((handshakerref03_Same.f kj14 t294 t298).bind fun t323 => (if t323 = true then (if t297 = t301 then ((stripe_Let.f kj14 l0 a1).bind fun t324 => ((handshakerref03_Let.f kj14 l0 a1).bind fun t327 => ((handshakerref03_Same.f kj14 t324 t327).bind fun t330 => (if t330 = true then ((handshakerlaw03_awake.f kj14).bind fun t331 => (some t331)) else (some false))))) else (some false)) else (some false))) else (some false)) else (some false))) else (some false))))) else (some false)) = some r := H
             have A42 := Aside0.mk A420
             clear A420
             by_cases c43 : t314 = true
             · subst c43
               have H1 : ((stripe_Held.f kj14 l0 a1).bind fun t315 => ((handshakerref03_Held.f kj14 l0 a1).bind fun t318 => ((handshakerref03_Numbers.f kj14 t315 t318).bind fun t321 => (if t321 = true then ((handshakerref03_Same.f kj14 t286 t290).bind fun t322 => (if t322 = true then (if t289 = t293 then ((handshakerref03_Same.f kj14 t294 t298).bind fun t323 => (if t323 = true then (if t297 = t301 then ((stripe_Let.f kj14 l0 a1).bind fun t324 => ((handshakerref03_Let.f kj14 l0 a1).bind fun t327 => ((handshakerref03_Same.f kj14 t324 t327).bind fun t330 => (if t330 = true then ((handshakerlaw03_awake.f kj14).bind fun t331 => (some t331)) else (some false))))) else (some false)) else (some false))) else (some false)) else (some false))) else (some false))))) = some r := by rw [if_pos rfl] at H; exact H
               clear H
               have H := H1
               clear H1
               replace H := Option.bind_eq_some_iff.mp H
               obtain ⟨t315, A440, H⟩ := H
               replace H : ((handshakerref03_Held.f kj14 l0 a1).bind fun t318 => ((handshakerref03_Numbers.f kj14 t315 t318).bind fun t321 => (if t321 = true then ((handshakerref03_Same.f kj14 t286 t290).bind fun t322 => (if t322 = true then (if t289 = t293 then ((handshakerref03_Same.f kj14 t294 t298).bind fun t323 => (if t323 = true then (if t297 = t301 then ((stripe_Let.f kj14 l0 a1).bind fun t324 => ((handshakerref03_Let.f kj14 l0 a1).bind fun t327 => ((handshakerref03_Same.f kj14 t324 t327).bind fun t330 => (if t330 = true then ((handshakerlaw03_awake.f kj14).bind fun t331 => (some t331)) else (some false))))) else (some false)) else (some false))) else (some false)) else (some false))) else (some false)))) = some r := H
               have A44 := Aside0.mk A440
               clear A440
               replace H := Option.bind_eq_some_iff.mp H
               obtain ⟨t318, A450, H⟩ := H
               replace H : ((handshakerref03_Numbers.f kj14 t315 t318).bind fun t321 => (if t321 = true then ((handshakerref03_Same.f kj14 t286 t290).bind fun t322 => (if t322 = true then (if t289 = t293 then ((handshakerref03_Same.f kj14 t294 t298).bind fun t323 => (if t323 = true then (if t297 = t301 then ((stripe_Let.f kj14 l0 a1).bind fun t324 => ((handshakerref03_Let.f kj14 l0 a1).bind fun t327 => ((handshakerref03_Same.f kj14 t324 t327).bind fun t330 => (if t330 = true then ((handshakerlaw03_awake.f kj14).bind fun t331 => (some t331)) else (some false))))) else (some false)) else (some false))) else (some false)) else (some false))) else (some false))) = some r := H
               have A45 := Aside0.mk A450
               clear A450
               replace H := Option.bind_eq_some_iff.mp H
               obtain ⟨t321, A460, H⟩ := H
               replace H : (if t321 = true then ((handshakerref03_Same.f kj14 t286 t290).bind fun t322 => (if t322 = true then (if t289 = t293 then ((handshakerref03_Same.f kj14 t294 t298).bind fun t323 => (if t323 = true then (if t297 = t301 then ((stripe_Let.f kj14 l0 a1).bind fun t324 => ((handshakerref03_Let.f kj14 l0 a1).bind fun t327 => ((handshakerref03_Same.f kj14 t324 t327).bind fun t330 => (if t330 = true then ((handshakerlaw03_awake.f kj14).bind fun t331 => (some t331)) else (some false))))) else (some false)) else (some false))) else (some false)) else (some false))) else (some false)) = some r := H
               have A46 := Aside0.mk A460
               clear A460
               by_cases c47 : t321 = true
               · subst c47
                 have H1 : ((handshakerref03_Same.f kj14 t286 t290).bind fun t322 => (if t322 = true then (if t289 = t293 then ((handshakerref03_Same.f kj14 t294 t298).bind fun t323 => (if t323 = true then (if t297 = t301 then ((stripe_Let.f kj14 l0 a1).bind fun t324 => ((handshakerref03_Let.f kj14 l0 a1).bind fun t327 => ((handshakerref03_Same.f kj14 t324 t327).bind fun t330 => (if t330 = true then ((handshakerlaw03_awake.f kj14).bind fun t331 => (some t331)) else (some false))))) else (some false)) else (some false))) else (some false)) else (some false))) = some r := by rw [if_pos rfl] at H; exact H
                 clear H
                 have H := H1
                 clear H1
                 replace H := Option.bind_eq_some_iff.mp H
                 obtain ⟨t322, A480, H⟩ := H
                 replace H : (if t322 = true then (if t289 = t293 then ((handshakerref03_Same.f kj14 t294 t298).bind fun t323 => (if t323 = true then (if t297 = t301 then ((stripe_Let.f kj14 l0 a1).bind fun t324 => ((handshakerref03_Let.f kj14 l0 a1).bind fun t327 => ((handshakerref03_Same.f kj14 t324 t327).bind fun t330 => (if t330 = true then ((handshakerlaw03_awake.f kj14).bind fun t331 => (some t331)) else (some false))))) else (some false)) else (some false))) else (some false)) else (some false)) = some r := H
                 have A48 := Aside0.mk A480
                 clear A480
                 by_cases c49 : t322 = true
                 · subst c49
                   have H1 : (if t289 = t293 then ((handshakerref03_Same.f kj14 t294 t298).bind fun t323 => (if t323 = true then (if t297 = t301 then ((stripe_Let.f kj14 l0 a1).bind fun t324 => ((handshakerref03_Let.f kj14 l0 a1).bind fun t327 => ((handshakerref03_Same.f kj14 t324 t327).bind fun t330 => (if t330 = true then ((handshakerlaw03_awake.f kj14).bind fun t331 => (some t331)) else (some false))))) else (some false)) else (some false))) else (some false)) = some r := by rw [if_pos rfl] at H; exact H
                   clear H
                   have H := H1
                   clear H1
                   by_cases c50 : t289 = t293
                   · rw [if_pos c50] at H
                     have c50b0 : (t289 == t293) = true := beq_iff_eq.mpr c50
                     have c50b1 : (t289 != t293) = false := bne_eq_false_iff_eq.mpr c50
                     clear c50
                     replace H := Option.bind_eq_some_iff.mp H
                     obtain ⟨t323, A510, H⟩ := H
                     replace H : (if t323 = true then (if t297 = t301 then ((stripe_Let.f kj14 l0 a1).bind fun t324 => ((handshakerref03_Let.f kj14 l0 a1).bind fun t327 => ((handshakerref03_Same.f kj14 t324 t327).bind fun t330 => (if t330 = true then ((handshakerlaw03_awake.f kj14).bind fun t331 => (some t331)) else (some false))))) else (some false)) else (some false)) = some r := H
                     have A51 := Aside0.mk A510
                     clear A510
                     by_cases c52 : t323 = true
                     · subst c52
                       have H1 : (if t297 = t301 then ((stripe_Let.f kj14 l0 a1).bind fun t324 => ((handshakerref03_Let.f kj14 l0 a1).bind fun t327 => ((handshakerref03_Same.f kj14 t324 t327).bind fun t330 => (if t330 = true then ((handshakerlaw03_awake.f kj14).bind fun t331 => (some t331)) else (some false))))) else (some false)) = some r := by rw [if_pos rfl] at H; exact H
                       clear H
                       have H := H1
                       clear H1
                       by_cases c53 : t297 = t301
                       · rw [if_pos c53] at H
                         have c53b0 : (t297 == t301) = true := beq_iff_eq.mpr c53
                         have c53b1 : (t297 != t301) = false := bne_eq_false_iff_eq.mpr c53
                         clear c53
                         replace H := Option.bind_eq_some_iff.mp H
                         obtain ⟨t324, A540, H⟩ := H
                         replace H : ((handshakerref03_Let.f kj14 l0 a1).bind fun t327 => ((handshakerref03_Same.f kj14 t324 t327).bind fun t330 => (if t330 = true then ((handshakerlaw03_awake.f kj14).bind fun t331 => (some t331)) else (some false)))) = some r := H
                         have A54 := Aside0.mk A540
                         clear A540
                         replace H := Option.bind_eq_some_iff.mp H
                         obtain ⟨t327, A550, H⟩ := H
                         replace H : ((handshakerref03_Same.f kj14 t324 t327).bind fun t330 => (if t330 = true then ((handshakerlaw03_awake.f kj14).bind fun t331 => (some t331)) else (some false))) = some r := H
                         have A55 := Aside0.mk A550
                         clear A550
                         replace H := Option.bind_eq_some_iff.mp H
                         obtain ⟨t330, A560, H⟩ := H
                         replace H : (if t330 = true then ((handshakerlaw03_awake.f kj14).bind fun t331 => (some t331)) else (some false)) = some r := H
                         have A56 := Aside0.mk A560
                         clear A560
                         by_cases c57 : t330 = true
                         · subst c57
                           have H1 : ((handshakerlaw03_awake.f kj14).bind fun t331 => (some t331)) = some r := by rw [if_pos rfl] at H; exact H
                           clear H
                           have H := H1
                           clear H1
                           replace H := Option.bind_eq_some_iff.mp H
                           obtain ⟨t331, A580, H⟩ := H
                           replace H : (some t331) = some r := H
                           have A58 := Aside0.mk A580
                           clear A580
                           obtain rfl := Option.some.inj H
                           go_wp2_with (first | ((with_reducible refine gate_callee (f := 37) rfl ?_); refine goesL_ (some 94) rfl rfl Try.func37 (by kernel_rfl) rfl #[.slice A0 l0.length c0] rfl (by (try simp only [List.map_toArray, List.map_cons, List.map_nil]); first | done | rfl) ?_; (with_reducible refine (stripe_Right.calls _ _ l0 true _ ?side1 ?side2 A36.out).mono ?_); (case side1 => repeat (first | exact (Kd.C_below HR0.out HB.out) | with_reducible first | refine Kd.C_alloc ?_ _ | refine Kd.C_drewN ?_ _ | refine Kd.C_drew ?_)); (case side2 => exact HC0.out); rintro e w59 ⟨rfl, hb⟩; refine ⟨_, rfl, ?_⟩; have n0_ := Aside0.mk (Kd.V_below (by (with_reducible repeat (first | apply Kd.V_alloc | apply Kd.V_drewN | apply Kd.V_drew)); exact HO_9.out) hb); have n1_ := Aside0.mk (Kd.V_below (by (with_reducible repeat (first | apply Kd.V_alloc | apply Kd.V_drewN | apply Kd.V_drew)); exact HO_11.out) hb); have n2_ := Aside0.mk (Kd.V_below (by (with_reducible repeat (first | apply Kd.V_alloc | apply Kd.V_drewN | apply Kd.V_drew)); exact HO_13.out) hb); have n3_ := Aside0.mk (Kd.V_below (by (with_reducible repeat (first | apply Kd.V_alloc | apply Kd.V_drewN | apply Kd.V_drew)); exact HO_15.out) hb); have n4_ := Aside0.mk (bst_ hb); clear HO_9; clear HO_11; clear HO_13; clear HO_15; clear HB; have HO_9 := n0_; have HO_11 := n1_; have HO_13 := n2_; have HO_15 := n3_; have HB := n4_; clear n0_ n1_ n2_ n3_ n4_; (try clear hb); (try clear hb2); (try clear hk); (try clear hi)) | ((with_reducible refine gate_callee (f := 38) rfl ?_); refine goesL_ (some 96) rfl rfl Try.func38 (by kernel_rfl) rfl #[.slice A0 l0.length c0] rfl (by (try simp only [List.map_toArray, List.map_cons, List.map_nil]); first | done | rfl) ?_; (with_reducible refine (handshakerref03_Right.calls kj14 _ _ l0 true _ ?side1 ?side2 A37.out).mono ?_); (case side1 => repeat (first | exact (Kd.C_below HR0.out HB.out) | with_reducible first | refine Kd.C_alloc ?_ _ | refine Kd.C_drewN ?_ _ | refine Kd.C_drew ?_)); (case side2 => exact HC0.out); rintro e w' ⟨rfl, ⟨nd, rfl⟩⟩; refine ⟨_, rfl, ?_⟩) | (go_at_call 31; (with_reducible refine (stripe_Of.calls kj14 _ _ l0 _ _ l3 t308 _ ?side1 ?side2 ?side3 ?side4 A40.out).mono ?_); (case side1 => repeat (first | exact (Kd.C_below HR0.out (by repeat (with_reducible first | exact HB.out | apply below_alloc | apply pw_below_drewN | apply below_drew1))) | with_reducible first | refine Kd.C_alloc ?_ _ | refine Kd.C_drewN ?_ _ | refine Kd.C_drew ?_)); (case side2 => exact HC0.out); (case side3 => repeat (first | exact (Kd.C_below HR3.out (by repeat (with_reducible first | exact HB.out | apply below_alloc | apply pw_below_drewN | apply below_drew1))) | with_reducible first | refine Kd.C_alloc ?_ _ | refine Kd.C_drewN ?_ _ | refine Kd.C_drew ?_)); (case side4 => exact HC3.out); rintro e w60 ⟨v309, rfl, ho0, hb⟩; have n0_ := Aside0.mk (Kd.V_elder' (by (with_reducible repeat (first | apply Kd.V_alloc | apply Kd.V_drewN | apply Kd.V_drew)); exact HO_9.out) (Kd.R_base ho0) hb); have n1_ := Aside0.mk (Kd.V_elder' (by (with_reducible repeat (first | apply Kd.V_alloc | apply Kd.V_drewN | apply Kd.V_drew)); exact HO_11.out) (Kd.R_base ho0) hb); have n2_ := Aside0.mk (Kd.V_elder' (by (with_reducible repeat (first | apply Kd.V_alloc | apply Kd.V_drewN | apply Kd.V_drew)); exact HO_13.out) (Kd.R_base ho0) hb); have n3_ := Aside0.mk (Kd.V_elder' (by (with_reducible repeat (first | apply Kd.V_alloc | apply Kd.V_drewN | apply Kd.V_drew)); exact HO_15.out) (Kd.R_base ho0) hb); have n4_ := Aside0.mk (Kd.R_lower ho0 bsz_); have n5_ := Aside0.mk (bst_ hb); clear HO_9; clear HO_11; clear HO_13; clear HO_15; clear HB; have HO_9 := n0_; have HO_11 := n1_; have HO_13 := n2_; have HO_15 := n3_; have HO310 := n4_; have HB := n5_; clear n0_ n1_ n2_ n3_ n4_ n5_; (try clear hb); (try clear hb2); (try clear hk); (try clear hi); (try clear ho0)) | (go_at_call 39; (with_reducible refine (handshakerref03_Of.calls kj14 _ _ l0 _ _ l3 t311 _ ?side1 ?side2 ?side3 ?side4 A41.out).mono ?_); (case side1 => repeat (first | exact (Kd.C_below HR0.out HB.out) | with_reducible first | refine Kd.C_alloc ?_ _ | refine Kd.C_drewN ?_ _ | refine Kd.C_drew ?_)); (case side2 => exact HC0.out); (case side3 => repeat (first | exact (Kd.C_below HR3.out HB.out) | with_reducible first | refine Kd.C_alloc ?_ _ | refine Kd.C_drewN ?_ _ | refine Kd.C_drew ?_)); (case side4 => exact HC3.out); rintro e w61 ⟨v312, rfl, ho0, hb⟩; have n0_ := Aside0.mk (Kd.V_elder' (by (with_reducible repeat (first | apply Kd.V_alloc | apply Kd.V_drewN | apply Kd.V_drew)); exact HO_9.out) (Kd.R_base ho0) hb); have n1_ := Aside0.mk (Kd.V_elder' (by (with_reducible repeat (first | apply Kd.V_alloc | apply Kd.V_drewN | apply Kd.V_drew)); exact HO_11.out) (Kd.R_base ho0) hb); have n2_ := Aside0.mk (Kd.V_elder' (by (with_reducible repeat (first | apply Kd.V_alloc | apply Kd.V_drewN | apply Kd.V_drew)); exact HO_13.out) (Kd.R_base ho0) hb); have n3_ := Aside0.mk (Kd.V_elder' (by (with_reducible repeat (first | apply Kd.V_alloc | apply Kd.V_drewN | apply Kd.V_drew)); exact HO_15.out) (Kd.R_base ho0) hb); have n4_ := Aside0.mk (Kd.R_elder' (by (with_reducible repeat (first | apply Kd.R_alloc | apply Kd.R_drewN | apply Kd.R_drew)); exact HO310.out) (Kd.R_base ho0) hb); have n5_ := Aside0.mk (Kd.R_lower (Kd.R_new' ho0 (Kd.R_lt (by (with_reducible repeat (first | apply Kd.R_alloc | apply Kd.R_drewN | apply Kd.R_drew)); exact HO310.out))) bsz_); have n6_ := Aside0.mk (bst_ hb); clear HO_9; clear HO_11; clear HO_13; clear HO_15; clear HO310; clear HB; have HO_9 := n0_; have HO_11 := n1_; have HO_13 := n2_; have HO_15 := n3_; have HO310 := n4_; have HO313 := n5_; have HB := n6_; clear n0_ n1_ n2_ n3_ n4_ n5_ n6_; (try clear hb); (try clear hb2); (try clear hk); (try clear hi); (try clear ho0); obtain ⟨Ao62, co62, eo62⟩ := Kd.R_slice HO310.out; subst eo62; obtain ⟨Ao63, co63, eo63⟩ := Kd.R_slice HO313.out; subst eo63) | (go_at_call 24; (with_reducible refine (handshakerref03_Numbers.calls kj14 _ _ t308 _ _ t311 true _ ?side1 ?side2 ?side3 ?side4 A42.out).mono ?_); (case side1 => repeat (first | exact (Kd.R_reads' HO310.out).2.2 | with_reducible first | refine Kd.C_alloc ?_ _ | refine Kd.C_drewN ?_ _ | refine Kd.C_drew ?_)); (case side2 => exact (Kd.R_reads' HO310.out).2.1); (case side3 => repeat (first | exact (Kd.R_reads' HO313.out).2.2 | with_reducible first | refine Kd.C_alloc ?_ _ | refine Kd.C_drewN ?_ _ | refine Kd.C_drew ?_)); (case side4 => exact (Kd.R_reads' HO313.out).2.1); rintro e w' ⟨rfl, ⟨nd, rfl⟩⟩) | (go_at_call 40; (with_reducible refine (stripe_Held.calls kj14 _ _ l0 a1 t315 _ ?side1 ?side2 A44.out).mono ?_); (case side1 => repeat (first | exact (Kd.C_below HR0.out (by repeat (with_reducible first | exact HB.out | apply below_alloc | apply pw_below_drewN | apply below_drew1))) | with_reducible first | refine Kd.C_alloc ?_ _ | refine Kd.C_drewN ?_ _ | refine Kd.C_drew ?_)); (case side2 => exact HC0.out); rintro e w64 ⟨v316, rfl, ho0, hb⟩; have n0_ := Aside0.mk (Kd.V_elder' (by (with_reducible repeat (first | apply Kd.V_alloc | apply Kd.V_drewN | apply Kd.V_drew)); exact HO_9.out) (Kd.R_base ho0) hb); have n1_ := Aside0.mk (Kd.V_elder' (by (with_reducible repeat (first | apply Kd.V_alloc | apply Kd.V_drewN | apply Kd.V_drew)); exact HO_11.out) (Kd.R_base ho0) hb); have n2_ := Aside0.mk (Kd.V_elder' (by (with_reducible repeat (first | apply Kd.V_alloc | apply Kd.V_drewN | apply Kd.V_drew)); exact HO_13.out) (Kd.R_base ho0) hb); have n3_ := Aside0.mk (Kd.V_elder' (by (with_reducible repeat (first | apply Kd.V_alloc | apply Kd.V_drewN | apply Kd.V_drew)); exact HO_15.out) (Kd.R_base ho0) hb); have n4_ := Aside0.mk (Kd.R_elder' (by (with_reducible repeat (first | apply Kd.R_alloc | apply Kd.R_drewN | apply Kd.R_drew)); exact HO310.out) (Kd.R_base ho0) hb); have n5_ := Aside0.mk (Kd.R_elder' (by (with_reducible repeat (first | apply Kd.R_alloc | apply Kd.R_drewN | apply Kd.R_drew)); exact HO313.out) (Kd.R_base ho0) hb); have n6_ := Aside0.mk (Kd.R_lower (Kd.R_new' (Kd.R_new' ho0 (Kd.R_lt (by (with_reducible repeat (first | apply Kd.R_alloc | apply Kd.R_drewN | apply Kd.R_drew)); exact HO310.out))) (Kd.R_lt (by (with_reducible repeat (first | apply Kd.R_alloc | apply Kd.R_drewN | apply Kd.R_drew)); exact HO313.out))) bsz_); have n7_ := Aside0.mk (bst_ hb); clear HO_9; clear HO_11; clear HO_13; clear HO_15; clear HO310; clear HO313; clear HB; have HO_9 := n0_; have HO_11 := n1_; have HO_13 := n2_; have HO_15 := n3_; have HO310 := n4_; have HO313 := n5_; have HO317 := n6_; have HB := n7_; clear n0_ n1_ n2_ n3_ n4_ n5_ n6_ n7_; (try clear hb); (try clear hb2); (try clear hk); (try clear hi); (try clear ho0)) | (go_at_call 41; (with_reducible refine (handshakerref03_Held.calls kj14 _ _ l0 a1 t318 _ ?side1 ?side2 A45.out).mono ?_); (case side1 => repeat (first | exact (Kd.C_below HR0.out HB.out) | with_reducible first | refine Kd.C_alloc ?_ _ | refine Kd.C_drewN ?_ _ | refine Kd.C_drew ?_)); (case side2 => exact HC0.out); rintro e w65 ⟨v319, rfl, ho0, hb⟩; have n0_ := Aside0.mk (Kd.V_elder' (by (with_reducible repeat (first | apply Kd.V_alloc | apply Kd.V_drewN | apply Kd.V_drew)); exact HO_9.out) (Kd.R_base ho0) hb); have n1_ := Aside0.mk (Kd.V_elder' (by (with_reducible repeat (first | apply Kd.V_alloc | apply Kd.V_drewN | apply Kd.V_drew)); exact HO_11.out) (Kd.R_base ho0) hb); have n2_ := Aside0.mk (Kd.V_elder' (by (with_reducible repeat (first | apply Kd.V_alloc | apply Kd.V_drewN | apply Kd.V_drew)); exact HO_13.out) (Kd.R_base ho0) hb); have n3_ := Aside0.mk (Kd.V_elder' (by (with_reducible repeat (first | apply Kd.V_alloc | apply Kd.V_drewN | apply Kd.V_drew)); exact HO_15.out) (Kd.R_base ho0) hb); have n4_ := Aside0.mk (Kd.R_elder' (by (with_reducible repeat (first | apply Kd.R_alloc | apply Kd.R_drewN | apply Kd.R_drew)); exact HO310.out) (Kd.R_base ho0) hb); have n5_ := Aside0.mk (Kd.R_elder' (by (with_reducible repeat (first | apply Kd.R_alloc | apply Kd.R_drewN | apply Kd.R_drew)); exact HO313.out) (Kd.R_base ho0) hb); have n6_ := Aside0.mk (Kd.R_elder' (by (with_reducible repeat (first | apply Kd.R_alloc | apply Kd.R_drewN | apply Kd.R_drew)); exact HO317.out) (Kd.R_base ho0) hb); have n7_ := Aside0.mk (Kd.R_lower (Kd.R_new' (Kd.R_new' (Kd.R_new' ho0 (Kd.R_lt (by (with_reducible repeat (first | apply Kd.R_alloc | apply Kd.R_drewN | apply Kd.R_drew)); exact HO310.out))) (Kd.R_lt (by (with_reducible repeat (first | apply Kd.R_alloc | apply Kd.R_drewN | apply Kd.R_drew)); exact HO313.out))) (Kd.R_lt (by (with_reducible repeat (first | apply Kd.R_alloc | apply Kd.R_drewN | apply Kd.R_drew)); exact HO317.out))) bsz_); have n8_ := Aside0.mk (bst_ hb); clear HO_9; clear HO_11; clear HO_13; clear HO_15; clear HO310; clear HO313; clear HO317; clear HB; have HO_9 := n0_; have HO_11 := n1_; have HO_13 := n2_; have HO_15 := n3_; have HO310 := n4_; have HO313 := n5_; have HO317 := n6_; have HO320 := n7_; have HB := n8_; clear n0_ n1_ n2_ n3_ n4_ n5_ n6_ n7_ n8_; (try clear hb); (try clear hb2); (try clear hk); (try clear hi); (try clear ho0); obtain ⟨Ao66, co66, eo66⟩ := Kd.R_slice HO317.out; subst eo66; obtain ⟨Ao67, co67, eo67⟩ := Kd.R_slice HO320.out; subst eo67) | (go_at_call 24; (with_reducible refine (handshakerref03_Numbers.calls kj14 _ _ t315 _ _ t318 true _ ?side1 ?side2 ?side3 ?side4 A46.out).mono ?_); (case side1 => repeat (first | exact (Kd.R_reads' HO317.out).2.2 | with_reducible first | refine Kd.C_alloc ?_ _ | refine Kd.C_drewN ?_ _ | refine Kd.C_drew ?_)); (case side2 => exact (Kd.R_reads' HO317.out).2.1); (case side3 => repeat (first | exact (Kd.R_reads' HO320.out).2.2 | with_reducible first | refine Kd.C_alloc ?_ _ | refine Kd.C_drewN ?_ _ | refine Kd.C_drew ?_)); (case side4 => exact (Kd.R_reads' HO320.out).2.1); rintro e w' ⟨rfl, ⟨nd, rfl⟩⟩; obtain ⟨Ao68, co68, eo68⟩ := Kd.V_slice HO_9.out; subst eo68; obtain ⟨Ao69, co69, eo69⟩ := Kd.V_slice HO_11.out; subst eo69) | (go_at_call 42; (with_reducible refine (handshakerref03_Same.calls kj14 _ _ t286 _ _ t290 true _ ?side1 ?side2 ?side3 ?side4 A48.out).mono ?_); (case side1 => repeat (first | exact (Kd.V_reads' HO_9.out).2.2 | with_reducible first | refine Kd.C_alloc ?_ _ | refine Kd.C_drewN ?_ _ | refine Kd.C_drew ?_)); (case side2 => exact (Kd.V_reads' HO_9.out).2.1); (case side3 => repeat (first | exact (Kd.V_reads' HO_11.out).2.2 | with_reducible first | refine Kd.C_alloc ?_ _ | refine Kd.C_drewN ?_ _ | refine Kd.C_drew ?_)); (case side4 => exact (Kd.V_reads' HO_11.out).2.1); rintro e w' ⟨rfl, ⟨nd, rfl⟩⟩; obtain ⟨Ao70, co70, eo70⟩ := Kd.V_slice HO_13.out; subst eo70; obtain ⟨Ao71, co71, eo71⟩ := Kd.V_slice HO_15.out; subst eo71) | (go_at_call 42; (with_reducible refine (handshakerref03_Same.calls kj14 _ _ t294 _ _ t298 true _ ?side1 ?side2 ?side3 ?side4 A51.out).mono ?_); (case side1 => repeat (first | exact (Kd.V_reads' HO_13.out).2.2 | with_reducible first | refine Kd.C_alloc ?_ _ | refine Kd.C_drewN ?_ _ | refine Kd.C_drew ?_)); (case side2 => exact (Kd.V_reads' HO_13.out).2.1); (case side3 => repeat (first | exact (Kd.V_reads' HO_15.out).2.2 | with_reducible first | refine Kd.C_alloc ?_ _ | refine Kd.C_drewN ?_ _ | refine Kd.C_drew ?_)); (case side4 => exact (Kd.V_reads' HO_15.out).2.1); rintro e w' ⟨rfl, ⟨nd, rfl⟩⟩) | (go_at_call 43; (with_reducible refine (stripe_Let.calls kj14 _ _ l0 a1 t324 _ ?side1 ?side2 A54.out).mono ?_); (case side1 => repeat (first | exact (Kd.C_below HR0.out (by repeat (with_reducible first | exact HB.out | apply below_alloc | apply pw_below_drewN | apply below_drew1))) | with_reducible first | refine Kd.C_alloc ?_ _ | refine Kd.C_drewN ?_ _ | refine Kd.C_drew ?_)); (case side2 => exact HC0.out); rintro e w72 ⟨v325, rfl, ho0, hb⟩; have n0_ := Aside0.mk (Kd.V_elder' (by (with_reducible repeat (first | apply Kd.V_alloc | apply Kd.V_drewN | apply Kd.V_drew)); exact HO_9.out) (Kd.R_base ho0) hb); have n1_ := Aside0.mk (Kd.V_elder' (by (with_reducible repeat (first | apply Kd.V_alloc | apply Kd.V_drewN | apply Kd.V_drew)); exact HO_11.out) (Kd.R_base ho0) hb); have n2_ := Aside0.mk (Kd.V_elder' (by (with_reducible repeat (first | apply Kd.V_alloc | apply Kd.V_drewN | apply Kd.V_drew)); exact HO_13.out) (Kd.R_base ho0) hb); have n3_ := Aside0.mk (Kd.V_elder' (by (with_reducible repeat (first | apply Kd.V_alloc | apply Kd.V_drewN | apply Kd.V_drew)); exact HO_15.out) (Kd.R_base ho0) hb); have n4_ := Aside0.mk (Kd.R_below (by (with_reducible repeat (first | apply Kd.R_alloc | apply Kd.R_drewN | apply Kd.R_drew)); exact HO310.out) hb); have n5_ := Aside0.mk (Kd.R_below (by (with_reducible repeat (first | apply Kd.R_alloc | apply Kd.R_drewN | apply Kd.R_drew)); exact HO313.out) hb); have n6_ := Aside0.mk (Kd.R_below (by (with_reducible repeat (first | apply Kd.R_alloc | apply Kd.R_drewN | apply Kd.R_drew)); exact HO317.out) hb); have n7_ := Aside0.mk (Kd.R_below (by (with_reducible repeat (first | apply Kd.R_alloc | apply Kd.R_drewN | apply Kd.R_drew)); exact HO320.out) hb); have n8_ := Aside0.mk (Kd.R_lower ho0 bsz_); have n9_ := Aside0.mk (bst_ hb); clear HO_9; clear HO_11; clear HO_13; clear HO_15; clear HO310; clear HO313; clear HO317; clear HO320; clear HB; have HO_9 := n0_; have HO_11 := n1_; have HO_13 := n2_; have HO_15 := n3_; have HO310 := n4_; have HO313 := n5_; have HO317 := n6_; have HO320 := n7_; have HO326 := n8_; have HB := n9_; clear n0_ n1_ n2_ n3_ n4_ n5_ n6_ n7_ n8_ n9_; (try clear hb); (try clear hb2); (try clear hk); (try clear hi); (try clear ho0)) | (go_at_call 44; (with_reducible refine (handshakerref03_Let.calls kj14 _ _ l0 a1 t327 _ ?side1 ?side2 A55.out).mono ?_); (case side1 => repeat (first | exact (Kd.C_below HR0.out HB.out) | with_reducible first | refine Kd.C_alloc ?_ _ | refine Kd.C_drewN ?_ _ | refine Kd.C_drew ?_)); (case side2 => exact HC0.out); rintro e w73 ⟨v328, rfl, ho0, hb⟩; have n0_ := Aside0.mk (Kd.V_elder' (by (with_reducible repeat (first | apply Kd.V_alloc | apply Kd.V_drewN | apply Kd.V_drew)); exact HO_9.out) (Kd.R_base ho0) hb); have n1_ := Aside0.mk (Kd.V_elder' (by (with_reducible repeat (first | apply Kd.V_alloc | apply Kd.V_drewN | apply Kd.V_drew)); exact HO_11.out) (Kd.R_base ho0) hb); have n2_ := Aside0.mk (Kd.V_elder' (by (with_reducible repeat (first | apply Kd.V_alloc | apply Kd.V_drewN | apply Kd.V_drew)); exact HO_13.out) (Kd.R_base ho0) hb); have n3_ := Aside0.mk (Kd.V_elder' (by (with_reducible repeat (first | apply Kd.V_alloc | apply Kd.V_drewN | apply Kd.V_drew)); exact HO_15.out) (Kd.R_base ho0) hb); have n4_ := Aside0.mk (Kd.R_below (by (with_reducible repeat (first | apply Kd.R_alloc | apply Kd.R_drewN | apply Kd.R_drew)); exact HO310.out) hb); have n5_ := Aside0.mk (Kd.R_below (by (with_reducible repeat (first | apply Kd.R_alloc | apply Kd.R_drewN | apply Kd.R_drew)); exact HO313.out) hb); have n6_ := Aside0.mk (Kd.R_below (by (with_reducible repeat (first | apply Kd.R_alloc | apply Kd.R_drewN | apply Kd.R_drew)); exact HO317.out) hb); have n7_ := Aside0.mk (Kd.R_below (by (with_reducible repeat (first | apply Kd.R_alloc | apply Kd.R_drewN | apply Kd.R_drew)); exact HO320.out) hb); have n8_ := Aside0.mk (Kd.R_elder' (by (with_reducible repeat (first | apply Kd.R_alloc | apply Kd.R_drewN | apply Kd.R_drew)); exact HO326.out) (Kd.R_base ho0) hb); have n9_ := Aside0.mk (Kd.R_lower (Kd.R_new' ho0 (Kd.R_lt (by (with_reducible repeat (first | apply Kd.R_alloc | apply Kd.R_drewN | apply Kd.R_drew)); exact HO326.out))) bsz_); have n10_ := Aside0.mk (bst_ hb); clear HO_9; clear HO_11; clear HO_13; clear HO_15; clear HO310; clear HO313; clear HO317; clear HO320; clear HO326; clear HB; have HO_9 := n0_; have HO_11 := n1_; have HO_13 := n2_; have HO_15 := n3_; have HO310 := n4_; have HO313 := n5_; have HO317 := n6_; have HO320 := n7_; have HO326 := n8_; have HO329 := n9_; have HB := n10_; clear n0_ n1_ n2_ n3_ n4_ n5_ n6_ n7_ n8_ n9_ n10_; (try clear hb); (try clear hb2); (try clear hk); (try clear hi); (try clear ho0); obtain ⟨Ao74, co74, eo74⟩ := Kd.R_slice HO326.out; subst eo74; obtain ⟨Ao75, co75, eo75⟩ := Kd.R_slice HO329.out; subst eo75) | (go_at_call 42; (with_reducible refine (handshakerref03_Same.calls kj14 _ _ t324 _ _ t327 true _ ?side1 ?side2 ?side3 ?side4 A56.out).mono ?_); (case side1 => repeat (first | exact (Kd.R_reads' HO326.out).2.2 | with_reducible first | refine Kd.C_alloc ?_ _ | refine Kd.C_drewN ?_ _ | refine Kd.C_drew ?_)); (case side2 => exact (Kd.R_reads' HO326.out).2.1); (case side3 => repeat (first | exact (Kd.R_reads' HO329.out).2.2 | with_reducible first | refine Kd.C_alloc ?_ _ | refine Kd.C_drewN ?_ _ | refine Kd.C_drew ?_)); (case side4 => exact (Kd.R_reads' HO329.out).2.1); rintro e w' ⟨rfl, ⟨nd, rfl⟩⟩) | (go_at_call 33; (with_reducible refine (handshakerlaw03_awake.calls kj14  t331 _ A58.out).mono ?_); rintro e w76 ⟨rfl, hb⟩; have n0_ := Aside0.mk (Kd.V_below (by (with_reducible repeat (first | apply Kd.V_alloc | apply Kd.V_drewN | apply Kd.V_drew)); exact HO_9.out) hb); have n1_ := Aside0.mk (Kd.V_below (by (with_reducible repeat (first | apply Kd.V_alloc | apply Kd.V_drewN | apply Kd.V_drew)); exact HO_11.out) hb); have n2_ := Aside0.mk (Kd.V_below (by (with_reducible repeat (first | apply Kd.V_alloc | apply Kd.V_drewN | apply Kd.V_drew)); exact HO_13.out) hb); have n3_ := Aside0.mk (Kd.V_below (by (with_reducible repeat (first | apply Kd.V_alloc | apply Kd.V_drewN | apply Kd.V_drew)); exact HO_15.out) hb); have n4_ := Aside0.mk (Kd.R_below (by (with_reducible repeat (first | apply Kd.R_alloc | apply Kd.R_drewN | apply Kd.R_drew)); exact HO310.out) hb); have n5_ := Aside0.mk (Kd.R_below (by (with_reducible repeat (first | apply Kd.R_alloc | apply Kd.R_drewN | apply Kd.R_drew)); exact HO313.out) hb); have n6_ := Aside0.mk (Kd.R_below (by (with_reducible repeat (first | apply Kd.R_alloc | apply Kd.R_drewN | apply Kd.R_drew)); exact HO317.out) hb); have n7_ := Aside0.mk (Kd.R_below (by (with_reducible repeat (first | apply Kd.R_alloc | apply Kd.R_drewN | apply Kd.R_drew)); exact HO320.out) hb); have n8_ := Aside0.mk (Kd.R_below (by (with_reducible repeat (first | apply Kd.R_alloc | apply Kd.R_drewN | apply Kd.R_drew)); exact HO326.out) hb); have n9_ := Aside0.mk (Kd.R_below (by (with_reducible repeat (first | apply Kd.R_alloc | apply Kd.R_drewN | apply Kd.R_drew)); exact HO329.out) hb); have n10_ := Aside0.mk (bst_ hb); clear HO_9; clear HO_11; clear HO_13; clear HO_15; clear HO310; clear HO313; clear HO317; clear HO320; clear HO326; clear HO329; clear HB; have HO_9 := n0_; have HO_11 := n1_; have HO_13 := n2_; have HO_15 := n3_; have HO310 := n4_; have HO313 := n5_; have HO317 := n6_; have HO320 := n7_; have HO326 := n8_; have HO329 := n9_; have HB := n10_; clear n0_ n1_ n2_ n3_ n4_ n5_ n6_ n7_ n8_ n9_ n10_; (try clear hb); (try clear hb2); (try clear hk); (try clear hi)))
                           go_ret
                           exact ⟨by first | rfl | (simp [errW_none, errW_some] <;> rfl) | (simp [*, errW_none, errW_some] <;> rfl), by repeat (with_reducible first | exact HB.out | apply below_alloc | apply pw_below_drewN | apply below_drew1)⟩
                         · replace c57 := Bool.eq_false_iff.mpr c57
                           subst c57
                           have H1 : (some false) = some r := by rw [if_neg (show ¬ (false = true) by decide)] at H; exact H
                           clear H
                           have H := H1
                           clear H1
                           exact absurd (Option.some.inj H) (by rw [HT.out]; decide)
                       · rw [if_neg c53] at H
                         have c53b0 : (t297 == t301) = false := beq_eq_false_iff_ne.mpr c53
                         have c53b1 : (t297 != t301) = true := bne_iff_ne.mpr c53
                         exact absurd (Option.some.inj H) (by rw [HT.out]; decide)
                     · replace c52 := Bool.eq_false_iff.mpr c52
                       subst c52
                       have H1 : (some false) = some r := by rw [if_neg (show ¬ (false = true) by decide)] at H; exact H
                       clear H
                       have H := H1
                       clear H1
                       exact absurd (Option.some.inj H) (by rw [HT.out]; decide)
                   · rw [if_neg c50] at H
                     have c50b0 : (t289 == t293) = false := beq_eq_false_iff_ne.mpr c50
                     have c50b1 : (t289 != t293) = true := bne_iff_ne.mpr c50
                     exact absurd (Option.some.inj H) (by rw [HT.out]; decide)
                 · replace c49 := Bool.eq_false_iff.mpr c49
                   subst c49
                   have H1 : (some false) = some r := by rw [if_neg (show ¬ (false = true) by decide)] at H; exact H
                   clear H
                   have H := H1
                   clear H1
                   exact absurd (Option.some.inj H) (by rw [HT.out]; decide)
               · replace c47 := Bool.eq_false_iff.mpr c47
                 subst c47
                 have H1 : (some false) = some r := by rw [if_neg (show ¬ (false = true) by decide)] at H; exact H
                 clear H
                 have H := H1
                 clear H1
                 exact absurd (Option.some.inj H) (by rw [HT.out]; decide)
             · replace c43 := Bool.eq_false_iff.mpr c43
               subst c43
               have H1 : (some false) = some r := by rw [if_neg (show ¬ (false = true) by decide)] at H; exact H
               clear H
               have H := H1
               clear H1
               exact absurd (Option.some.inj H) (by rw [HT.out]; decide)
           · replace c39 := Bool.eq_false_iff.mpr c39
             subst c39
             have H1 : (some false) = some r := by rw [if_neg (show ¬ (false = true) by decide)] at H; exact H
             clear H
             have H := H1
             clear H1
             exact absurd (Option.some.inj H) (by rw [HT.out]; decide)
         · replace c38 := Bool.eq_false_iff.mpr c38
           subst c38
           have H1 : (if t307 = true then (some false) else ((stripe_Of.f kj14 l0 l3).bind fun t332 => ((handshakerref03_Of.f kj14 l0 l3).bind fun t335 => ((handshakerref03_Numbers.f kj14 t332 t335).bind fun t338 => (if t338 = true then ((stripe_Held.f kj14 l0 a1).bind fun t339 => ((handshakerref03_Held.f kj14 l0 a1).bind fun t342 => ((handshakerref03_Numbers.f kj14 t339 t342).bind fun t345 => (if t345 = true then ((handshakerref03_Same.f kj14 t286 t290).bind fun t346 => (if t346 = true then (if t289 = t293 then ((handshakerref03_Same.f kj14 t294 t298).bind fun t347 => (if t347 = true then (if t297 = t301 then ((stripe_Let.f kj14 l0 a1).bind fun t348 => ((handshakerref03_Let.f kj14 l0 a1).bind fun t351 => ((handshakerref03_Same.f kj14 t348 t351).bind fun t354 => (if t354 = true then ((handshakerlaw03_awake.f kj14).bind fun t355 => (some t355)) else (some false))))) else (some false)) else (some false))) else (some false)) else (some false))) else (some false))))) else (some false)))))) = some r := by rw [if_neg (show ¬ (false = true) by decide)] at H; exact H
           clear H
           have H := H1
           clear H1
           by_cases c77 : t307 = true
           · subst c77
             have H1 : (some false) = some r := by rw [if_pos rfl] at H; exact H
             clear H
             have H := H1
             clear H1
             exact absurd (Option.some.inj H) (by rw [HT.out]; decide)
           · replace c77 := Bool.eq_false_iff.mpr c77
             subst c77
             have H1 : ((stripe_Of.f kj14 l0 l3).bind fun t332 => ((handshakerref03_Of.f kj14 l0 l3).bind fun t335 => ((handshakerref03_Numbers.f kj14 t332 t335).bind fun t338 => (if t338 = true then ((stripe_Held.f kj14 l0 a1).bind fun t339 => ((handshakerref03_Held.f kj14 l0 a1).bind fun t342 => ((handshakerref03_Numbers.f kj14 t339 t342).bind fun t345 => (if t345 = true then ((handshakerref03_Same.f kj14 t286 t290).bind fun t346 => (if t346 = true then (if t289 = t293 then ((handshakerref03_Same.f kj14 t294 t298).bind fun t347 => (if t347 = true then (if t297 = t301 then ((stripe_Let.f kj14 l0 a1).bind fun t348 => ((handshakerref03_Let.f kj14 l0 a1).bind fun t351 => ((handshakerref03_Same.f kj14 t348 t351).bind fun t354 => (if t354 = true then ((handshakerlaw03_awake.f kj14).bind fun t355 => (some t355)) else (some false))))) else (some false)) else (some false))) else (some false)) else (some false))) else (some false))))) else (some false))))) = some r := by rw [if_neg (show ¬ (false = true) by decide)] at H; exact H
             clear H
             have H := H1
             clear H1
             replace H := Option.bind_eq_some_iff.mp H
             obtain ⟨t332, A780, H⟩ := H
             replace H : ((handshakerref03_Of.f kj14 l0 l3).bind fun t335 => ((handshakerref03_Numbers.f kj14 t332 t335).bind fun t338 => (if t338 = true then ((stripe_Held.f kj14 l0 a1).bind fun t339 => ((handshakerref03_Held.f kj14 l0 a1).bind fun t342 => ((handshakerref03_Numbers.f kj14 t339 t342).bind fun t345 => (if t345 = true then ((handshakerref03_Same.f kj14 t286 t290).bind fun t346 => (if t346 = true then (if t289 = t293 then ((handshakerref03_Same.f kj14 t294 t298).bind fun t347 => (if t347 = true then (if t297 = t301 then ((stripe_Let.f kj14 l0 a1).bind fun t348 => ((handshakerref03_Let.f kj14 l0 a1).bind fun t351 => ((handshakerref03_Same.f kj14 t348 t351).bind fun t354 => (if t354 = true then ((handshakerlaw03_awake.f kj14).bind fun t355 => (some t355)) else (some false))))) else (some false)) else (some false))) else (some false)) else (some false))) else (some false))))) else (some false)))) = some r := H
             have A78 := Aside0.mk A780
             clear A780
             replace H := Option.bind_eq_some_iff.mp H
             obtain ⟨t335, A790, H⟩ := H
             replace H : ((handshakerref03_Numbers.f kj14 t332 t335).bind fun t338 => (if t338 = true then ((stripe_Held.f kj14 l0 a1).bind fun t339 => ((handshakerref03_Held.f kj14 l0 a1).bind fun t342 => ((handshakerref03_Numbers.f kj14 t339 t342).bind fun t345 => (if t345 = true then ((handshakerref03_Same.f kj14 t286 t290).bind fun t346 => (if t346 = true then (if t289 = t293 then ((handshakerref03_Same.f kj14 t294 t298).bind fun t347 => (if t347 = true then (if t297 = t301 then ((stripe_Let.f kj14 l0 a1).bind fun t348 => ((handshakerref03_Let.f kj14 l0 a1).bind fun t351 => ((handshakerref03_Same.f kj14 t348 t351).bind fun t354 => (if t354 = true then ((handshakerlaw03_awake.f kj14).bind fun t355 => (some t355)) else (some false))))) else (some false)) else (some false))) else (some false)) else (some false))) else (some false))))) else (some false))) = some r := H
             have A79 := Aside0.mk A790
             clear A790
             replace H := Option.bind_eq_some_iff.mp H
             obtain ⟨t338, A800, H⟩ := H
             replace H : (if t338 = true then ((stripe_Held.f kj14 l0 a1).bind fun t339 => ((handshakerref03_Held.f kj14 l0 a1).bind fun t342 => ((handshakerref03_Numbers.f kj14 t339 t342).bind fun t345 => (if t345 = true then ((handshakerref03_Same.f kj14 t286 t290).bind fun t346 => (if t346 = true then (if t289 = t293 then ((handshakerref03_Same.f kj14 t294 t298).bind fun t347 => (if t347 = true then (if t297 = t301 then ((stripe_Let.f kj14 l0 a1).bind fun t348 => ((handshakerref03_Let.f kj14 l0 a1).bind fun t351 => ((handshakerref03_Same.f kj14 t348 t351).bind fun t354 => (if t354 = true then ((handshakerlaw03_awake.f kj14).bind fun t355 => (some t355)) else (some false))))) else (some false)) else (some false))) else (some false)) else (some false))) else (some false))))) else (some false)) = some r := H
             have A80 := Aside0.mk A800
             clear A800
             by_cases c81 : t338 = true
             · subst c81
               have H1 : ((stripe_Held.f kj14 l0 a1).bind fun t339 => ((handshakerref03_Held.f kj14 l0 a1).bind fun t342 => ((handshakerref03_Numbers.f kj14 t339 t342).bind fun t345 => (if t345 = true then ((handshakerref03_Same.f kj14 t286 t290).bind fun t346 => (if t346 = true then (if t289 = t293 then ((handshakerref03_Same.f kj14 t294 t298).bind fun t347 => (if t347 = true then (if t297 = t301 then ((stripe_Let.f kj14 l0 a1).bind fun t348 => ((handshakerref03_Let.f kj14 l0 a1).bind fun t351 => ((handshakerref03_Same.f kj14 t348 t351).bind fun t354 => (if t354 = true then ((handshakerlaw03_awake.f kj14).bind fun t355 => (some t355)) else (some false))))) else (some false)) else (some false))) else (some false)) else (some false))) else (some false))))) = some r := by rw [if_pos rfl] at H; exact H
               clear H
               have H := H1
               clear H1
               replace H := Option.bind_eq_some_iff.mp H
               obtain ⟨t339, A820, H⟩ := H
               replace H : ((handshakerref03_Held.f kj14 l0 a1).bind fun t342 => ((handshakerref03_Numbers.f kj14 t339 t342).bind fun t345 => (if t345 = true then ((handshakerref03_Same.f kj14 t286 t290).bind fun t346 => (if t346 = true then (if t289 = t293 then ((handshakerref03_Same.f kj14 t294 t298).bind fun t347 => (if t347 = true then (if t297 = t301 then ((stripe_Let.f kj14 l0 a1).bind fun t348 => ((handshakerref03_Let.f kj14 l0 a1).bind fun t351 => ((handshakerref03_Same.f kj14 t348 t351).bind fun t354 => (if t354 = true then ((handshakerlaw03_awake.f kj14).bind fun t355 => (some t355)) else (some false))))) else (some false)) else (some false))) else (some false)) else (some false))) else (some false)))) = some r := H
               have A82 := Aside0.mk A820
               clear A820
               replace H := Option.bind_eq_some_iff.mp H
               obtain ⟨t342, A830, H⟩ := H
               replace H : ((handshakerref03_Numbers.f kj14 t339 t342).bind fun t345 => (if t345 = true then ((handshakerref03_Same.f kj14 t286 t290).bind fun t346 => (if t346 = true then (if t289 = t293 then ((handshakerref03_Same.f kj14 t294 t298).bind fun t347 => (if t347 = true then (if t297 = t301 then ((stripe_Let.f kj14 l0 a1).bind fun t348 => ((handshakerref03_Let.f kj14 l0 a1).bind fun t351 => ((handshakerref03_Same.f kj14 t348 t351).bind fun t354 => (if t354 = true then ((handshakerlaw03_awake.f kj14).bind fun t355 => (some t355)) else (some false))))) else (some false)) else (some false))) else (some false)) else (some false))) else (some false))) = some r := H
               have A83 := Aside0.mk A830
               clear A830
               replace H := Option.bind_eq_some_iff.mp H
               obtain ⟨t345, A840, H⟩ := H
               replace H : (if t345 = true then ((handshakerref03_Same.f kj14 t286 t290).bind fun t346 => (if t346 = true then (if t289 = t293 then ((handshakerref03_Same.f kj14 t294 t298).bind fun t347 => (if t347 = true then (if t297 = t301 then ((stripe_Let.f kj14 l0 a1).bind fun t348 => ((handshakerref03_Let.f kj14 l0 a1).bind fun t351 => ((handshakerref03_Same.f kj14 t348 t351).bind fun t354 => (if t354 = true then ((handshakerlaw03_awake.f kj14).bind fun t355 => (some t355)) else (some false))))) else (some false)) else (some false))) else (some false)) else (some false))) else (some false)) = some r := H
               have A84 := Aside0.mk A840
               clear A840
               by_cases c85 : t345 = true
               · subst c85
                 have H1 : ((handshakerref03_Same.f kj14 t286 t290).bind fun t346 => (if t346 = true then (if t289 = t293 then ((handshakerref03_Same.f kj14 t294 t298).bind fun t347 => (if t347 = true then (if t297 = t301 then ((stripe_Let.f kj14 l0 a1).bind fun t348 => ((handshakerref03_Let.f kj14 l0 a1).bind fun t351 => ((handshakerref03_Same.f kj14 t348 t351).bind fun t354 => (if t354 = true then ((handshakerlaw03_awake.f kj14).bind fun t355 => (some t355)) else (some false))))) else (some false)) else (some false))) else (some false)) else (some false))) = some r := by rw [if_pos rfl] at H; exact H
                 clear H
                 have H := H1
                 clear H1
                 replace H := Option.bind_eq_some_iff.mp H
                 obtain ⟨t346, A860, H⟩ := H
                 replace H : (if t346 = true then (if t289 = t293 then ((handshakerref03_Same.f kj14 t294 t298).bind fun t347 => (if t347 = true then (if t297 = t301 then ((stripe_Let.f kj14 l0 a1).bind fun t348 => ((handshakerref03_Let.f kj14 l0 a1).bind fun t351 => ((handshakerref03_Same.f kj14 t348 t351).bind fun t354 => (if t354 = true then ((handshakerlaw03_awake.f kj14).bind fun t355 => (some t355)) else (some false))))) else (some false)) else (some false))) else (some false)) else (some false)) = some r := H
                 have A86 := Aside0.mk A860
                 clear A860
                 by_cases c87 : t346 = true
                 · subst c87
                   have H1 : (if t289 = t293 then ((handshakerref03_Same.f kj14 t294 t298).bind fun t347 => (if t347 = true then (if t297 = t301 then ((stripe_Let.f kj14 l0 a1).bind fun t348 => ((handshakerref03_Let.f kj14 l0 a1).bind fun t351 => ((handshakerref03_Same.f kj14 t348 t351).bind fun t354 => (if t354 = true then ((handshakerlaw03_awake.f kj14).bind fun t355 => (some t355)) else (some false))))) else (some false)) else (some false))) else (some false)) = some r := by rw [if_pos rfl] at H; exact H
                   clear H
                   have H := H1
                   clear H1
                   by_cases c88 : t289 = t293
                   · rw [if_pos c88] at H
                     have c88b0 : (t289 == t293) = true := beq_iff_eq.mpr c88
                     have c88b1 : (t289 != t293) = false := bne_eq_false_iff_eq.mpr c88
                     clear c88
                     replace H := Option.bind_eq_some_iff.mp H
                     obtain ⟨t347, A890, H⟩ := H
                     replace H : (if t347 = true then (if t297 = t301 then ((stripe_Let.f kj14 l0 a1).bind fun t348 => ((handshakerref03_Let.f kj14 l0 a1).bind fun t351 => ((handshakerref03_Same.f kj14 t348 t351).bind fun t354 => (if t354 = true then ((handshakerlaw03_awake.f kj14).bind fun t355 => (some t355)) else (some false))))) else (some false)) else (some false)) = some r := H
                     have A89 := Aside0.mk A890
                     clear A890
                     by_cases c90 : t347 = true
                     · subst c90
                       have H1 : (if t297 = t301 then ((stripe_Let.f kj14 l0 a1).bind fun t348 => ((handshakerref03_Let.f kj14 l0 a1).bind fun t351 => ((handshakerref03_Same.f kj14 t348 t351).bind fun t354 => (if t354 = true then ((handshakerlaw03_awake.f kj14).bind fun t355 => (some t355)) else (some false))))) else (some false)) = some r := by rw [if_pos rfl] at H; exact H
                       clear H
                       have H := H1
                       clear H1
                       by_cases c91 : t297 = t301
                       · rw [if_pos c91] at H
                         have c91b0 : (t297 == t301) = true := beq_iff_eq.mpr c91
                         have c91b1 : (t297 != t301) = false := bne_eq_false_iff_eq.mpr c91
                         clear c91
                         replace H := Option.bind_eq_some_iff.mp H
                         obtain ⟨t348, A920, H⟩ := H
                         replace H : ((handshakerref03_Let.f kj14 l0 a1).bind fun t351 => ((handshakerref03_Same.f kj14 t348 t351).bind fun t354 => (if t354 = true then ((handshakerlaw03_awake.f kj14).bind fun t355 => (some t355)) else (some false)))) = some r := H
                         have A92 := Aside0.mk A920
                         clear A920
                         replace H := Option.bind_eq_some_iff.mp H
                         obtain ⟨t351, A930, H⟩ := H
                         replace H : ((handshakerref03_Same.f kj14 t348 t351).bind fun t354 => (if t354 = true then ((handshakerlaw03_awake.f kj14).bind fun t355 => (some t355)) else (some false))) = some r := H
                         have A93 := Aside0.mk A930
                         clear A930
                         replace H := Option.bind_eq_some_iff.mp H
                         obtain ⟨t354, A940, H⟩ := H
                         replace H : (if t354 = true then ((handshakerlaw03_awake.f kj14).bind fun t355 => (some t355)) else (some false)) = some r := H
                         have A94 := Aside0.mk A940
                         clear A940
                         by_cases c95 : t354 = true
                         · subst c95
                           have H1 : ((handshakerlaw03_awake.f kj14).bind fun t355 => (some t355)) = some r := by rw [if_pos rfl] at H; exact H
                           clear H
                           have H := H1
                           clear H1
                           replace H := Option.bind_eq_some_iff.mp H
                           obtain ⟨t355, A960, H⟩ := H
                           replace H : (some t355) = some r := H
                           have A96 := Aside0.mk A960
                           clear A960
                           obtain rfl := Option.some.inj H
                           go_wp2_with (first | ((with_reducible refine gate_callee (f := 37) rfl ?_); refine goesL_ (some 94) rfl rfl Try.func37 (by kernel_rfl) rfl #[.slice A0 l0.length c0] rfl (by (try simp only [List.map_toArray, List.map_cons, List.map_nil]); first | done | rfl) ?_; (with_reducible refine (stripe_Right.calls _ _ l0 false _ ?side1 ?side2 A36.out).mono ?_); (case side1 => repeat (first | exact (Kd.C_below HR0.out HB.out) | with_reducible first | refine Kd.C_alloc ?_ _ | refine Kd.C_drewN ?_ _ | refine Kd.C_drew ?_)); (case side2 => exact HC0.out); rintro e w97 ⟨rfl, hb⟩; refine ⟨_, rfl, ?_⟩; have n0_ := Aside0.mk (Kd.V_below (by (with_reducible repeat (first | apply Kd.V_alloc | apply Kd.V_drewN | apply Kd.V_drew)); exact HO_9.out) hb); have n1_ := Aside0.mk (Kd.V_below (by (with_reducible repeat (first | apply Kd.V_alloc | apply Kd.V_drewN | apply Kd.V_drew)); exact HO_11.out) hb); have n2_ := Aside0.mk (Kd.V_below (by (with_reducible repeat (first | apply Kd.V_alloc | apply Kd.V_drewN | apply Kd.V_drew)); exact HO_13.out) hb); have n3_ := Aside0.mk (Kd.V_below (by (with_reducible repeat (first | apply Kd.V_alloc | apply Kd.V_drewN | apply Kd.V_drew)); exact HO_15.out) hb); have n4_ := Aside0.mk (bst_ hb); clear HO_9; clear HO_11; clear HO_13; clear HO_15; clear HB; have HO_9 := n0_; have HO_11 := n1_; have HO_13 := n2_; have HO_15 := n3_; have HB := n4_; clear n0_ n1_ n2_ n3_ n4_; (try clear hb); (try clear hb2); (try clear hk); (try clear hi)) | ((with_reducible refine gate_callee (f := 38) rfl ?_); refine goesL_ (some 96) rfl rfl Try.func38 (by kernel_rfl) rfl #[.slice A0 l0.length c0] rfl (by (try simp only [List.map_toArray, List.map_cons, List.map_nil]); first | done | rfl) ?_; (with_reducible refine (handshakerref03_Right.calls kj14 _ _ l0 false _ ?side1 ?side2 A37.out).mono ?_); (case side1 => repeat (first | exact (Kd.C_below HR0.out HB.out) | with_reducible first | refine Kd.C_alloc ?_ _ | refine Kd.C_drewN ?_ _ | refine Kd.C_drew ?_)); (case side2 => exact HC0.out); rintro e w' ⟨rfl, ⟨nd, rfl⟩⟩; refine ⟨_, rfl, ?_⟩) | (go_at_call 31; (with_reducible refine (stripe_Of.calls kj14 _ _ l0 _ _ l3 t332 _ ?side1 ?side2 ?side3 ?side4 A78.out).mono ?_); (case side1 => repeat (first | exact (Kd.C_below HR0.out (by repeat (with_reducible first | exact HB.out | apply below_alloc | apply pw_below_drewN | apply below_drew1))) | with_reducible first | refine Kd.C_alloc ?_ _ | refine Kd.C_drewN ?_ _ | refine Kd.C_drew ?_)); (case side2 => exact HC0.out); (case side3 => repeat (first | exact (Kd.C_below HR3.out (by repeat (with_reducible first | exact HB.out | apply below_alloc | apply pw_below_drewN | apply below_drew1))) | with_reducible first | refine Kd.C_alloc ?_ _ | refine Kd.C_drewN ?_ _ | refine Kd.C_drew ?_)); (case side4 => exact HC3.out); rintro e w98 ⟨v333, rfl, ho0, hb⟩; have n0_ := Aside0.mk (Kd.V_elder' (by (with_reducible repeat (first | apply Kd.V_alloc | apply Kd.V_drewN | apply Kd.V_drew)); exact HO_9.out) (Kd.R_base ho0) hb); have n1_ := Aside0.mk (Kd.V_elder' (by (with_reducible repeat (first | apply Kd.V_alloc | apply Kd.V_drewN | apply Kd.V_drew)); exact HO_11.out) (Kd.R_base ho0) hb); have n2_ := Aside0.mk (Kd.V_elder' (by (with_reducible repeat (first | apply Kd.V_alloc | apply Kd.V_drewN | apply Kd.V_drew)); exact HO_13.out) (Kd.R_base ho0) hb); have n3_ := Aside0.mk (Kd.V_elder' (by (with_reducible repeat (first | apply Kd.V_alloc | apply Kd.V_drewN | apply Kd.V_drew)); exact HO_15.out) (Kd.R_base ho0) hb); have n4_ := Aside0.mk (Kd.R_lower ho0 bsz_); have n5_ := Aside0.mk (bst_ hb); clear HO_9; clear HO_11; clear HO_13; clear HO_15; clear HB; have HO_9 := n0_; have HO_11 := n1_; have HO_13 := n2_; have HO_15 := n3_; have HO334 := n4_; have HB := n5_; clear n0_ n1_ n2_ n3_ n4_ n5_; (try clear hb); (try clear hb2); (try clear hk); (try clear hi); (try clear ho0)) | (go_at_call 39; (with_reducible refine (handshakerref03_Of.calls kj14 _ _ l0 _ _ l3 t335 _ ?side1 ?side2 ?side3 ?side4 A79.out).mono ?_); (case side1 => repeat (first | exact (Kd.C_below HR0.out HB.out) | with_reducible first | refine Kd.C_alloc ?_ _ | refine Kd.C_drewN ?_ _ | refine Kd.C_drew ?_)); (case side2 => exact HC0.out); (case side3 => repeat (first | exact (Kd.C_below HR3.out HB.out) | with_reducible first | refine Kd.C_alloc ?_ _ | refine Kd.C_drewN ?_ _ | refine Kd.C_drew ?_)); (case side4 => exact HC3.out); rintro e w99 ⟨v336, rfl, ho0, hb⟩; have n0_ := Aside0.mk (Kd.V_elder' (by (with_reducible repeat (first | apply Kd.V_alloc | apply Kd.V_drewN | apply Kd.V_drew)); exact HO_9.out) (Kd.R_base ho0) hb); have n1_ := Aside0.mk (Kd.V_elder' (by (with_reducible repeat (first | apply Kd.V_alloc | apply Kd.V_drewN | apply Kd.V_drew)); exact HO_11.out) (Kd.R_base ho0) hb); have n2_ := Aside0.mk (Kd.V_elder' (by (with_reducible repeat (first | apply Kd.V_alloc | apply Kd.V_drewN | apply Kd.V_drew)); exact HO_13.out) (Kd.R_base ho0) hb); have n3_ := Aside0.mk (Kd.V_elder' (by (with_reducible repeat (first | apply Kd.V_alloc | apply Kd.V_drewN | apply Kd.V_drew)); exact HO_15.out) (Kd.R_base ho0) hb); have n4_ := Aside0.mk (Kd.R_elder' (by (with_reducible repeat (first | apply Kd.R_alloc | apply Kd.R_drewN | apply Kd.R_drew)); exact HO334.out) (Kd.R_base ho0) hb); have n5_ := Aside0.mk (Kd.R_lower (Kd.R_new' ho0 (Kd.R_lt (by (with_reducible repeat (first | apply Kd.R_alloc | apply Kd.R_drewN | apply Kd.R_drew)); exact HO334.out))) bsz_); have n6_ := Aside0.mk (bst_ hb); clear HO_9; clear HO_11; clear HO_13; clear HO_15; clear HO334; clear HB; have HO_9 := n0_; have HO_11 := n1_; have HO_13 := n2_; have HO_15 := n3_; have HO334 := n4_; have HO337 := n5_; have HB := n6_; clear n0_ n1_ n2_ n3_ n4_ n5_ n6_; (try clear hb); (try clear hb2); (try clear hk); (try clear hi); (try clear ho0); obtain ⟨Ao100, co100, eo100⟩ := Kd.R_slice HO334.out; subst eo100; obtain ⟨Ao101, co101, eo101⟩ := Kd.R_slice HO337.out; subst eo101) | (go_at_call 24; (with_reducible refine (handshakerref03_Numbers.calls kj14 _ _ t332 _ _ t335 true _ ?side1 ?side2 ?side3 ?side4 A80.out).mono ?_); (case side1 => repeat (first | exact (Kd.R_reads' HO334.out).2.2 | with_reducible first | refine Kd.C_alloc ?_ _ | refine Kd.C_drewN ?_ _ | refine Kd.C_drew ?_)); (case side2 => exact (Kd.R_reads' HO334.out).2.1); (case side3 => repeat (first | exact (Kd.R_reads' HO337.out).2.2 | with_reducible first | refine Kd.C_alloc ?_ _ | refine Kd.C_drewN ?_ _ | refine Kd.C_drew ?_)); (case side4 => exact (Kd.R_reads' HO337.out).2.1); rintro e w' ⟨rfl, ⟨nd, rfl⟩⟩) | (go_at_call 40; (with_reducible refine (stripe_Held.calls kj14 _ _ l0 a1 t339 _ ?side1 ?side2 A82.out).mono ?_); (case side1 => repeat (first | exact (Kd.C_below HR0.out (by repeat (with_reducible first | exact HB.out | apply below_alloc | apply pw_below_drewN | apply below_drew1))) | with_reducible first | refine Kd.C_alloc ?_ _ | refine Kd.C_drewN ?_ _ | refine Kd.C_drew ?_)); (case side2 => exact HC0.out); rintro e w102 ⟨v340, rfl, ho0, hb⟩; have n0_ := Aside0.mk (Kd.V_elder' (by (with_reducible repeat (first | apply Kd.V_alloc | apply Kd.V_drewN | apply Kd.V_drew)); exact HO_9.out) (Kd.R_base ho0) hb); have n1_ := Aside0.mk (Kd.V_elder' (by (with_reducible repeat (first | apply Kd.V_alloc | apply Kd.V_drewN | apply Kd.V_drew)); exact HO_11.out) (Kd.R_base ho0) hb); have n2_ := Aside0.mk (Kd.V_elder' (by (with_reducible repeat (first | apply Kd.V_alloc | apply Kd.V_drewN | apply Kd.V_drew)); exact HO_13.out) (Kd.R_base ho0) hb); have n3_ := Aside0.mk (Kd.V_elder' (by (with_reducible repeat (first | apply Kd.V_alloc | apply Kd.V_drewN | apply Kd.V_drew)); exact HO_15.out) (Kd.R_base ho0) hb); have n4_ := Aside0.mk (Kd.R_elder' (by (with_reducible repeat (first | apply Kd.R_alloc | apply Kd.R_drewN | apply Kd.R_drew)); exact HO334.out) (Kd.R_base ho0) hb); have n5_ := Aside0.mk (Kd.R_elder' (by (with_reducible repeat (first | apply Kd.R_alloc | apply Kd.R_drewN | apply Kd.R_drew)); exact HO337.out) (Kd.R_base ho0) hb); have n6_ := Aside0.mk (Kd.R_lower (Kd.R_new' (Kd.R_new' ho0 (Kd.R_lt (by (with_reducible repeat (first | apply Kd.R_alloc | apply Kd.R_drewN | apply Kd.R_drew)); exact HO334.out))) (Kd.R_lt (by (with_reducible repeat (first | apply Kd.R_alloc | apply Kd.R_drewN | apply Kd.R_drew)); exact HO337.out))) bsz_); have n7_ := Aside0.mk (bst_ hb); clear HO_9; clear HO_11; clear HO_13; clear HO_15; clear HO334; clear HO337; clear HB; have HO_9 := n0_; have HO_11 := n1_; have HO_13 := n2_; have HO_15 := n3_; have HO334 := n4_; have HO337 := n5_; have HO341 := n6_; have HB := n7_; clear n0_ n1_ n2_ n3_ n4_ n5_ n6_ n7_; (try clear hb); (try clear hb2); (try clear hk); (try clear hi); (try clear ho0)) | (go_at_call 41; (with_reducible refine (handshakerref03_Held.calls kj14 _ _ l0 a1 t342 _ ?side1 ?side2 A83.out).mono ?_); (case side1 => repeat (first | exact (Kd.C_below HR0.out HB.out) | with_reducible first | refine Kd.C_alloc ?_ _ | refine Kd.C_drewN ?_ _ | refine Kd.C_drew ?_)); (case side2 => exact HC0.out); rintro e w103 ⟨v343, rfl, ho0, hb⟩; have n0_ := Aside0.mk (Kd.V_elder' (by (with_reducible repeat (first | apply Kd.V_alloc | apply Kd.V_drewN | apply Kd.V_drew)); exact HO_9.out) (Kd.R_base ho0) hb); have n1_ := Aside0.mk (Kd.V_elder' (by (with_reducible repeat (first | apply Kd.V_alloc | apply Kd.V_drewN | apply Kd.V_drew)); exact HO_11.out) (Kd.R_base ho0) hb); have n2_ := Aside0.mk (Kd.V_elder' (by (with_reducible repeat (first | apply Kd.V_alloc | apply Kd.V_drewN | apply Kd.V_drew)); exact HO_13.out) (Kd.R_base ho0) hb); have n3_ := Aside0.mk (Kd.V_elder' (by (with_reducible repeat (first | apply Kd.V_alloc | apply Kd.V_drewN | apply Kd.V_drew)); exact HO_15.out) (Kd.R_base ho0) hb); have n4_ := Aside0.mk (Kd.R_elder' (by (with_reducible repeat (first | apply Kd.R_alloc | apply Kd.R_drewN | apply Kd.R_drew)); exact HO334.out) (Kd.R_base ho0) hb); have n5_ := Aside0.mk (Kd.R_elder' (by (with_reducible repeat (first | apply Kd.R_alloc | apply Kd.R_drewN | apply Kd.R_drew)); exact HO337.out) (Kd.R_base ho0) hb); have n6_ := Aside0.mk (Kd.R_elder' (by (with_reducible repeat (first | apply Kd.R_alloc | apply Kd.R_drewN | apply Kd.R_drew)); exact HO341.out) (Kd.R_base ho0) hb); have n7_ := Aside0.mk (Kd.R_lower (Kd.R_new' (Kd.R_new' (Kd.R_new' ho0 (Kd.R_lt (by (with_reducible repeat (first | apply Kd.R_alloc | apply Kd.R_drewN | apply Kd.R_drew)); exact HO334.out))) (Kd.R_lt (by (with_reducible repeat (first | apply Kd.R_alloc | apply Kd.R_drewN | apply Kd.R_drew)); exact HO337.out))) (Kd.R_lt (by (with_reducible repeat (first | apply Kd.R_alloc | apply Kd.R_drewN | apply Kd.R_drew)); exact HO341.out))) bsz_); have n8_ := Aside0.mk (bst_ hb); clear HO_9; clear HO_11; clear HO_13; clear HO_15; clear HO334; clear HO337; clear HO341; clear HB; have HO_9 := n0_; have HO_11 := n1_; have HO_13 := n2_; have HO_15 := n3_; have HO334 := n4_; have HO337 := n5_; have HO341 := n6_; have HO344 := n7_; have HB := n8_; clear n0_ n1_ n2_ n3_ n4_ n5_ n6_ n7_ n8_; (try clear hb); (try clear hb2); (try clear hk); (try clear hi); (try clear ho0); obtain ⟨Ao104, co104, eo104⟩ := Kd.R_slice HO341.out; subst eo104; obtain ⟨Ao105, co105, eo105⟩ := Kd.R_slice HO344.out; subst eo105) | (go_at_call 24; (with_reducible refine (handshakerref03_Numbers.calls kj14 _ _ t339 _ _ t342 true _ ?side1 ?side2 ?side3 ?side4 A84.out).mono ?_); (case side1 => repeat (first | exact (Kd.R_reads' HO341.out).2.2 | with_reducible first | refine Kd.C_alloc ?_ _ | refine Kd.C_drewN ?_ _ | refine Kd.C_drew ?_)); (case side2 => exact (Kd.R_reads' HO341.out).2.1); (case side3 => repeat (first | exact (Kd.R_reads' HO344.out).2.2 | with_reducible first | refine Kd.C_alloc ?_ _ | refine Kd.C_drewN ?_ _ | refine Kd.C_drew ?_)); (case side4 => exact (Kd.R_reads' HO344.out).2.1); rintro e w' ⟨rfl, ⟨nd, rfl⟩⟩; obtain ⟨Ao106, co106, eo106⟩ := Kd.V_slice HO_9.out; subst eo106; obtain ⟨Ao107, co107, eo107⟩ := Kd.V_slice HO_11.out; subst eo107) | (go_at_call 42; (with_reducible refine (handshakerref03_Same.calls kj14 _ _ t286 _ _ t290 true _ ?side1 ?side2 ?side3 ?side4 A86.out).mono ?_); (case side1 => repeat (first | exact (Kd.V_reads' HO_9.out).2.2 | with_reducible first | refine Kd.C_alloc ?_ _ | refine Kd.C_drewN ?_ _ | refine Kd.C_drew ?_)); (case side2 => exact (Kd.V_reads' HO_9.out).2.1); (case side3 => repeat (first | exact (Kd.V_reads' HO_11.out).2.2 | with_reducible first | refine Kd.C_alloc ?_ _ | refine Kd.C_drewN ?_ _ | refine Kd.C_drew ?_)); (case side4 => exact (Kd.V_reads' HO_11.out).2.1); rintro e w' ⟨rfl, ⟨nd, rfl⟩⟩; obtain ⟨Ao108, co108, eo108⟩ := Kd.V_slice HO_13.out; subst eo108; obtain ⟨Ao109, co109, eo109⟩ := Kd.V_slice HO_15.out; subst eo109) | (go_at_call 42; (with_reducible refine (handshakerref03_Same.calls kj14 _ _ t294 _ _ t298 true _ ?side1 ?side2 ?side3 ?side4 A89.out).mono ?_); (case side1 => repeat (first | exact (Kd.V_reads' HO_13.out).2.2 | with_reducible first | refine Kd.C_alloc ?_ _ | refine Kd.C_drewN ?_ _ | refine Kd.C_drew ?_)); (case side2 => exact (Kd.V_reads' HO_13.out).2.1); (case side3 => repeat (first | exact (Kd.V_reads' HO_15.out).2.2 | with_reducible first | refine Kd.C_alloc ?_ _ | refine Kd.C_drewN ?_ _ | refine Kd.C_drew ?_)); (case side4 => exact (Kd.V_reads' HO_15.out).2.1); rintro e w' ⟨rfl, ⟨nd, rfl⟩⟩) | (go_at_call 43; (with_reducible refine (stripe_Let.calls kj14 _ _ l0 a1 t348 _ ?side1 ?side2 A92.out).mono ?_); (case side1 => repeat (first | exact (Kd.C_below HR0.out (by repeat (with_reducible first | exact HB.out | apply below_alloc | apply pw_below_drewN | apply below_drew1))) | with_reducible first | refine Kd.C_alloc ?_ _ | refine Kd.C_drewN ?_ _ | refine Kd.C_drew ?_)); (case side2 => exact HC0.out); rintro e w110 ⟨v349, rfl, ho0, hb⟩; have n0_ := Aside0.mk (Kd.V_elder' (by (with_reducible repeat (first | apply Kd.V_alloc | apply Kd.V_drewN | apply Kd.V_drew)); exact HO_9.out) (Kd.R_base ho0) hb); have n1_ := Aside0.mk (Kd.V_elder' (by (with_reducible repeat (first | apply Kd.V_alloc | apply Kd.V_drewN | apply Kd.V_drew)); exact HO_11.out) (Kd.R_base ho0) hb); have n2_ := Aside0.mk (Kd.V_elder' (by (with_reducible repeat (first | apply Kd.V_alloc | apply Kd.V_drewN | apply Kd.V_drew)); exact HO_13.out) (Kd.R_base ho0) hb); have n3_ := Aside0.mk (Kd.V_elder' (by (with_reducible repeat (first | apply Kd.V_alloc | apply Kd.V_drewN | apply Kd.V_drew)); exact HO_15.out) (Kd.R_base ho0) hb); have n4_ := Aside0.mk (Kd.R_below (by (with_reducible repeat (first | apply Kd.R_alloc | apply Kd.R_drewN | apply Kd.R_drew)); exact HO334.out) hb); have n5_ := Aside0.mk (Kd.R_below (by (with_reducible repeat (first | apply Kd.R_alloc | apply Kd.R_drewN | apply Kd.R_drew)); exact HO337.out) hb); have n6_ := Aside0.mk (Kd.R_below (by (with_reducible repeat (first | apply Kd.R_alloc | apply Kd.R_drewN | apply Kd.R_drew)); exact HO341.out) hb); have n7_ := Aside0.mk (Kd.R_below (by (with_reducible repeat (first | apply Kd.R_alloc | apply Kd.R_drewN | apply Kd.R_drew)); exact HO344.out) hb); have n8_ := Aside0.mk (Kd.R_lower ho0 bsz_); have n9_ := Aside0.mk (bst_ hb); clear HO_9; clear HO_11; clear HO_13; clear HO_15; clear HO334; clear HO337; clear HO341; clear HO344; clear HB; have HO_9 := n0_; have HO_11 := n1_; have HO_13 := n2_; have HO_15 := n3_; have HO334 := n4_; have HO337 := n5_; have HO341 := n6_; have HO344 := n7_; have HO350 := n8_; have HB := n9_; clear n0_ n1_ n2_ n3_ n4_ n5_ n6_ n7_ n8_ n9_; (try clear hb); (try clear hb2); (try clear hk); (try clear hi); (try clear ho0)) | (go_at_call 44; (with_reducible refine (handshakerref03_Let.calls kj14 _ _ l0 a1 t351 _ ?side1 ?side2 A93.out).mono ?_); (case side1 => repeat (first | exact (Kd.C_below HR0.out HB.out) | with_reducible first | refine Kd.C_alloc ?_ _ | refine Kd.C_drewN ?_ _ | refine Kd.C_drew ?_)); (case side2 => exact HC0.out); rintro e w111 ⟨v352, rfl, ho0, hb⟩; have n0_ := Aside0.mk (Kd.V_elder' (by (with_reducible repeat (first | apply Kd.V_alloc | apply Kd.V_drewN | apply Kd.V_drew)); exact HO_9.out) (Kd.R_base ho0) hb); have n1_ := Aside0.mk (Kd.V_elder' (by (with_reducible repeat (first | apply Kd.V_alloc | apply Kd.V_drewN | apply Kd.V_drew)); exact HO_11.out) (Kd.R_base ho0) hb); have n2_ := Aside0.mk (Kd.V_elder' (by (with_reducible repeat (first | apply Kd.V_alloc | apply Kd.V_drewN | apply Kd.V_drew)); exact HO_13.out) (Kd.R_base ho0) hb); have n3_ := Aside0.mk (Kd.V_elder' (by (with_reducible repeat (first | apply Kd.V_alloc | apply Kd.V_drewN | apply Kd.V_drew)); exact HO_15.out) (Kd.R_base ho0) hb); have n4_ := Aside0.mk (Kd.R_below (by (with_reducible repeat (first | apply Kd.R_alloc | apply Kd.R_drewN | apply Kd.R_drew)); exact HO334.out) hb); have n5_ := Aside0.mk (Kd.R_below (by (with_reducible repeat (first | apply Kd.R_alloc | apply Kd.R_drewN | apply Kd.R_drew)); exact HO337.out) hb); have n6_ := Aside0.mk (Kd.R_below (by (with_reducible repeat (first | apply Kd.R_alloc | apply Kd.R_drewN | apply Kd.R_drew)); exact HO341.out) hb); have n7_ := Aside0.mk (Kd.R_below (by (with_reducible repeat (first | apply Kd.R_alloc | apply Kd.R_drewN | apply Kd.R_drew)); exact HO344.out) hb); have n8_ := Aside0.mk (Kd.R_elder' (by (with_reducible repeat (first | apply Kd.R_alloc | apply Kd.R_drewN | apply Kd.R_drew)); exact HO350.out) (Kd.R_base ho0) hb); have n9_ := Aside0.mk (Kd.R_lower (Kd.R_new' ho0 (Kd.R_lt (by (with_reducible repeat (first | apply Kd.R_alloc | apply Kd.R_drewN | apply Kd.R_drew)); exact HO350.out))) bsz_); have n10_ := Aside0.mk (bst_ hb); clear HO_9; clear HO_11; clear HO_13; clear HO_15; clear HO334; clear HO337; clear HO341; clear HO344; clear HO350; clear HB; have HO_9 := n0_; have HO_11 := n1_; have HO_13 := n2_; have HO_15 := n3_; have HO334 := n4_; have HO337 := n5_; have HO341 := n6_; have HO344 := n7_; have HO350 := n8_; have HO353 := n9_; have HB := n10_; clear n0_ n1_ n2_ n3_ n4_ n5_ n6_ n7_ n8_ n9_ n10_; (try clear hb); (try clear hb2); (try clear hk); (try clear hi); (try clear ho0); obtain ⟨Ao112, co112, eo112⟩ := Kd.R_slice HO350.out; subst eo112; obtain ⟨Ao113, co113, eo113⟩ := Kd.R_slice HO353.out; subst eo113) | (go_at_call 42; (with_reducible refine (handshakerref03_Same.calls kj14 _ _ t348 _ _ t351 true _ ?side1 ?side2 ?side3 ?side4 A94.out).mono ?_); (case side1 => repeat (first | exact (Kd.R_reads' HO350.out).2.2 | with_reducible first | refine Kd.C_alloc ?_ _ | refine Kd.C_drewN ?_ _ | refine Kd.C_drew ?_)); (case side2 => exact (Kd.R_reads' HO350.out).2.1); (case side3 => repeat (first | exact (Kd.R_reads' HO353.out).2.2 | with_reducible first | refine Kd.C_alloc ?_ _ | refine Kd.C_drewN ?_ _ | refine Kd.C_drew ?_)); (case side4 => exact (Kd.R_reads' HO353.out).2.1); rintro e w' ⟨rfl, ⟨nd, rfl⟩⟩) | (go_at_call 33; (with_reducible refine (handshakerlaw03_awake.calls kj14  t355 _ A96.out).mono ?_); rintro e w114 ⟨rfl, hb⟩; have n0_ := Aside0.mk (Kd.V_below (by (with_reducible repeat (first | apply Kd.V_alloc | apply Kd.V_drewN | apply Kd.V_drew)); exact HO_9.out) hb); have n1_ := Aside0.mk (Kd.V_below (by (with_reducible repeat (first | apply Kd.V_alloc | apply Kd.V_drewN | apply Kd.V_drew)); exact HO_11.out) hb); have n2_ := Aside0.mk (Kd.V_below (by (with_reducible repeat (first | apply Kd.V_alloc | apply Kd.V_drewN | apply Kd.V_drew)); exact HO_13.out) hb); have n3_ := Aside0.mk (Kd.V_below (by (with_reducible repeat (first | apply Kd.V_alloc | apply Kd.V_drewN | apply Kd.V_drew)); exact HO_15.out) hb); have n4_ := Aside0.mk (Kd.R_below (by (with_reducible repeat (first | apply Kd.R_alloc | apply Kd.R_drewN | apply Kd.R_drew)); exact HO334.out) hb); have n5_ := Aside0.mk (Kd.R_below (by (with_reducible repeat (first | apply Kd.R_alloc | apply Kd.R_drewN | apply Kd.R_drew)); exact HO337.out) hb); have n6_ := Aside0.mk (Kd.R_below (by (with_reducible repeat (first | apply Kd.R_alloc | apply Kd.R_drewN | apply Kd.R_drew)); exact HO341.out) hb); have n7_ := Aside0.mk (Kd.R_below (by (with_reducible repeat (first | apply Kd.R_alloc | apply Kd.R_drewN | apply Kd.R_drew)); exact HO344.out) hb); have n8_ := Aside0.mk (Kd.R_below (by (with_reducible repeat (first | apply Kd.R_alloc | apply Kd.R_drewN | apply Kd.R_drew)); exact HO350.out) hb); have n9_ := Aside0.mk (Kd.R_below (by (with_reducible repeat (first | apply Kd.R_alloc | apply Kd.R_drewN | apply Kd.R_drew)); exact HO353.out) hb); have n10_ := Aside0.mk (bst_ hb); clear HO_9; clear HO_11; clear HO_13; clear HO_15; clear HO334; clear HO337; clear HO341; clear HO344; clear HO350; clear HO353; clear HB; have HO_9 := n0_; have HO_11 := n1_; have HO_13 := n2_; have HO_15 := n3_; have HO334 := n4_; have HO337 := n5_; have HO341 := n6_; have HO344 := n7_; have HO350 := n8_; have HO353 := n9_; have HB := n10_; clear n0_ n1_ n2_ n3_ n4_ n5_ n6_ n7_ n8_ n9_ n10_; (try clear hb); (try clear hb2); (try clear hk); (try clear hi)))
                           go_ret
                           exact ⟨by first | rfl | (simp [errW_none, errW_some] <;> rfl) | (simp [*, errW_none, errW_some] <;> rfl), by repeat (with_reducible first | exact HB.out | apply below_alloc | apply pw_below_drewN | apply below_drew1)⟩
                         · replace c95 := Bool.eq_false_iff.mpr c95
                           subst c95
                           have H1 : (some false) = some r := by rw [if_neg (show ¬ (false = true) by decide)] at H; exact H
                           clear H
                           have H := H1
                           clear H1
                           exact absurd (Option.some.inj H) (by rw [HT.out]; decide)
                       · rw [if_neg c91] at H
                         have c91b0 : (t297 == t301) = false := beq_eq_false_iff_ne.mpr c91
                         have c91b1 : (t297 != t301) = true := bne_iff_ne.mpr c91
                         exact absurd (Option.some.inj H) (by rw [HT.out]; decide)
                     · replace c90 := Bool.eq_false_iff.mpr c90
                       subst c90
                       have H1 : (some false) = some r := by rw [if_neg (show ¬ (false = true) by decide)] at H; exact H
                       clear H
                       have H := H1
                       clear H1
                       exact absurd (Option.some.inj H) (by rw [HT.out]; decide)
                   · rw [if_neg c88] at H
                     have c88b0 : (t289 == t293) = false := beq_eq_false_iff_ne.mpr c88
                     have c88b1 : (t289 != t293) = true := bne_iff_ne.mpr c88
                     exact absurd (Option.some.inj H) (by rw [HT.out]; decide)
                 · replace c87 := Bool.eq_false_iff.mpr c87
                   subst c87
                   have H1 : (some false) = some r := by rw [if_neg (show ¬ (false = true) by decide)] at H; exact H
                   clear H
                   have H := H1
                   clear H1
                   exact absurd (Option.some.inj H) (by rw [HT.out]; decide)
               · replace c85 := Bool.eq_false_iff.mpr c85
                 subst c85
                 have H1 : (some false) = some r := by rw [if_neg (show ¬ (false = true) by decide)] at H; exact H
                 clear H
                 have H := H1
                 clear H1
                 exact absurd (Option.some.inj H) (by rw [HT.out]; decide)
             · replace c81 := Bool.eq_false_iff.mpr c81
               subst c81
               have H1 : (some false) = some r := by rw [if_neg (show ¬ (false = true) by decide)] at H; exact H
               clear H
               have H := H1
               clear H1
               exact absurd (Option.some.inj H) (by rw [HT.out]; decide)

/-- THE ONE PURE STATEMENT of handshakerlaw03_StripeTells. -/
def handshakerlaw03_StripeTells.Pure : Prop := ∀ (l0 : List (S67)) (a1 : Int) (a2 : Int) (l3 : List Int), l0.length ≤ maxLen → l0.length * 16 ≤ 140737488351232 → (∀ y ∈ l0, wfS67 y) → (Lit.int .i64 a1).wf = true → (Lit.int .i64 a2).wf = true → l3.length ≤ maxLen → l3.length * 8 ≤ 140737488351232 → (∀ y ∈ l3, (Lit.int .i64 y).wf = true) → ∃ k, handshakerlaw03_StripeTells.f k l0 a1 a2 l3 = some true

end Go.Proofs.Ytlfmobnmohnjmaa.T
