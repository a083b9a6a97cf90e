-- PRINTED by print.py (a twelfth state) out of the translation. Not trusted: Lean checks it.
import Derived.Test.YtihcnbhcemkncaaOx0
import Derived.Test.YtihcnbhcemkncaaOx2
import Derived.Test.YtihcnbhcemkncaaOx3
import Derived.Test.YtihcnbhcemkncaaOx5
import Derived.Test.YtihcnbhcemkncaaOx6
namespace Go.Proofs.Ytihcnbhcemkncaa.O
open Go.Proofs.Ytihcnbhcemkncaa.Ho
open Go.RowKit Go.Proofs.YtihcnbhcemkncaaW.PrintWords Go.Proofs.YtihcnbhcemkncaaW.PrintLast Go.Proofs.YtihcnbhcemkncaaW.PrintMore
attribute [local go_sem] max2_int min2_int max_two min_two max_three min_three max_four min_four   -- for this text's walks alone
set_option linter.unusedVariables false
set_option linter.unusedSimpArgs false

/-! ### handshakerlaw13_OpaqueNone: function 10 -/
mutual
def handshakerlaw13_OpaqueNone.j0 : Nat → List (S80) → Int → Bool → Option (Bool)
 | 0, _, _, _ => none
 | k + 1, x0, x1, x16 => if x16 = true then ((handshakerlaw13_awake.f k).bind fun t252 => (some t252)) else (handshakerlaw13_OpaqueNone.l0 k x0 x1 ([] : List Int) ([] : List Int) x0 (x0.length : Int) 0)
def handshakerlaw13_OpaqueNone.l0 : Nat → List (S80) → Int → List Int → List Int → List (S80) → Int → Int → Option (Bool)
 | 0, _, _, _, _, _, _, _ => none
 | k + 1, x0, x1, x5, x6, x18, x19, x20 => if x20 < x19 then (if 0 ≤ x20 then (if x20 < (x18.length : Int) then (if x5.length < 17592186044416 then ((some (x5 ++ [(rd_T80 x18 x20).f0] : List Int)).bind fun y255 => (if x1 ≥ 0 then (if x1 < (((rd_T80 x18 x20).f1).length : Int) then (if 0 ≤ x1 then (if (rd_T66 ((rd_T80 x18 x20).f1) x1).f0 = true then (if ((rd_T66 ((rd_T80 x18 x20).f1) x1).f1) = 5 then (if x6.length < 17592186044416 then (handshakerlaw13_OpaqueNone.l0 k x0 x1 y255 (x6 ++ [(rd_T80 x18 x20).f0]) x18 x19 (wrap64 (x20 + 1))) else (none)) else (handshakerlaw13_OpaqueNone.l0 k x0 x1 y255 x6 x18 x19 (wrap64 (x20 + 1)))) else (handshakerlaw13_OpaqueNone.l0 k x0 x1 y255 x6 x18 x19 (wrap64 (x20 + 1)))) else (none)) else (handshakerlaw13_OpaqueNone.l0 k x0 x1 y255 x6 x18 x19 (wrap64 (x20 + 1)))) else (handshakerlaw13_OpaqueNone.l0 k x0 x1 y255 x6 x18 x19 (wrap64 (x20 + 1))))) else (none)) else (none)) else (none)) else ((opaque_Span.f k x0 ([] : List (S84))).bind fun t263 => ((handshakerref03_Numbers.f k t263 x5).bind fun t266 => (if t266 = true then ((opaque_Span.f k x0 (([(⟨x1, 0, 5⟩ : S84)] : List (S84)))).bind fun t270 => ((handshakerref03_Numbers.f k t270 x6).bind fun t273 => (if t273 = true then ((handshakerlaw13_awake.f k).bind fun t274 => (some t274)) else (some false)))) else (some false))))
end
def handshakerlaw13_OpaqueNone.f (k : Nat) (l0 : List (S80)) (a1 : Int) : Option (Bool) := (handshakerlaw13_small.f k l0).bind fun t250 => (if t250 = true then ((opaque_Right.f k l0).bind fun t251 => (handshakerlaw13_OpaqueNone.j0 k l0 a1 (!t251))) else (handshakerlaw13_OpaqueNone.j0 k l0 a1 true))
theorem handshakerlaw13_OpaqueNone.mono_l : ∀ k, (∀ y0 y1 y2, LeO (handshakerlaw13_OpaqueNone.j0 k y0 y1 y2) (handshakerlaw13_OpaqueNone.j0 (k + 1) y0 y1 y2)) ∧ (∀ y0 y1 y2 y3 y4 y5 y6, LeO (handshakerlaw13_OpaqueNone.l0 k y0 y1 y2 y3 y4 y5 y6) (handshakerlaw13_OpaqueNone.l0 (k + 1) y0 y1 y2 y3 y4 y5 y6))
 | 0 => ⟨fun _ _ _ r h => by simp [handshakerlaw13_OpaqueNone.j0] at h, fun _ _ _ _ _ _ _ r h => by simp [handshakerlaw13_OpaqueNone.l0] at h⟩
 | k + 1 => by
  obtain ⟨ih0, ih1⟩ := handshakerlaw13_OpaqueNone.mono_l k
  refine ⟨?_, ?_⟩
  · intro y0 y1 y2
    unfold handshakerlaw13_OpaqueNone.j0
    repeat' first
    | (with_reducible exact ih0 _ _ _)
    | (with_reducible exact ih1 _ _ _ _ _ _ _)
    | (with_reducible exact handshakerlaw13_awake.mono _)
    | (with_reducible exact handshakerlaw13_small.mono _ _)
    | (with_reducible exact handshakerref03_Numbers.mono _ _ _)
    | (with_reducible exact opaque_Right.mono _ _)
    | (with_reducible exact opaque_Span.mono _ _ _)
    | (with_reducible exact LeO.refl _)
    | (with_reducible exact LeO.none _)
    | (with_reducible refine LeO.ite ?_ ?_)
    | (with_reducible refine LeO.bind ?_ (fun _ => ?_))
    | exact ih0 _ _ _
    | exact ih1 _ _ _ _ _ _ _
    | exact handshakerlaw13_awake.mono _
    | exact handshakerlaw13_small.mono _ _
    | exact handshakerref03_Numbers.mono _ _ _
    | exact opaque_Right.mono _ _
    | exact opaque_Span.mono _ _ _
    | exact LeO.none _
    | refine LeO.ite ?_ ?_
    | refine LeO.bind ?_ (fun _ => ?_)
  · intro y0 y1 y2 y3 y4 y5 y6
    unfold handshakerlaw13_OpaqueNone.l0
    repeat' first
    | (with_reducible exact ih0 _ _ _)
    | (with_reducible exact ih1 _ _ _ _ _ _ _)
    | (with_reducible exact handshakerlaw13_awake.mono _)
    | (with_reducible exact handshakerlaw13_small.mono _ _)
    | (with_reducible exact handshakerref03_Numbers.mono _ _ _)
    | (with_reducible exact opaque_Right.mono _ _)
    | (with_reducible exact opaque_Span.mono _ _ _)
    | (with_reducible exact LeO.refl _)
    | (with_reducible exact LeO.none _)
    | (with_reducible refine LeO.ite ?_ ?_)
    | (with_reducible refine LeO.bind ?_ (fun _ => ?_))
    | exact ih0 _ _ _
    | exact ih1 _ _ _ _ _ _ _
    | exact handshakerlaw13_awake.mono _
    | exact handshakerlaw13_small.mono _ _
    | exact handshakerref03_Numbers.mono _ _ _
    | exact opaque_Right.mono _ _
    | exact opaque_Span.mono _ _ _
    | exact LeO.none _
    | refine LeO.ite ?_ ?_
    | refine LeO.bind ?_ (fun _ => ?_)
theorem handshakerlaw13_OpaqueNone.mono : ∀ a0 a1 k, LeO (handshakerlaw13_OpaqueNone.f k a0 a1) (handshakerlaw13_OpaqueNone.f (k + 1) a0 a1) := by
 intro a0 a1 k
 obtain ⟨ih0, ih1⟩ := handshakerlaw13_OpaqueNone.mono_l k
 unfold handshakerlaw13_OpaqueNone.f
 repeat' first
  | (with_reducible exact ih0 _ _ _)
  | (with_reducible exact ih1 _ _ _ _ _ _ _)
  | (with_reducible exact handshakerlaw13_awake.mono _)
  | (with_reducible exact handshakerlaw13_small.mono _ _)
  | (with_reducible exact handshakerref03_Numbers.mono _ _ _)
  | (with_reducible exact opaque_Right.mono _ _)
  | (with_reducible exact opaque_Span.mono _ _ _)
  | (with_reducible exact LeO.refl _)
  | (with_reducible exact LeO.none _)
  | (with_reducible refine LeO.ite ?_ ?_)
  | (with_reducible refine LeO.bind ?_ (fun _ => ?_))
  | exact ih0 _ _ _
  | exact ih1 _ _ _ _ _ _ _
  | exact handshakerlaw13_awake.mono _
  | exact handshakerlaw13_small.mono _ _
  | exact handshakerref03_Numbers.mono _ _ _
  | exact opaque_Right.mono _ _
  | exact opaque_Span.mono _ _ _
  | exact LeO.none _
  | refine LeO.ite ?_ ?_
  | refine LeO.bind ?_ (fun _ => ?_)
set_option maxHeartbeats 8000000 in
set_option maxRecDepth 100000 in
theorem handshakerlaw13_OpaqueNone.calls (k : Nat) (A0 : Option Addr) (c0 : Nat) (l0 : List (S80)) (a1 : Int) (r : Bool) (w : World) (HT : Aside0 (r = true)) (hr0 : Kd.C k80 w A0 l0.length l0) (hc0 : l0.length ≤ c0) (h : handshakerlaw13_OpaqueNone.f k l0 a1 = some r) :
 Calls Try.prog 10 #[.slice A0 l0.length c0, .int .i64 a1] w fun e w' => e = .returned (.bool r) ∧ Below w.heap.size w w' := by
 have hu80 := Try.underlying80
 have hu84 := Try.underlying84
 have HR0 := Aside0.mk hr0
 have HC0 := Aside0.mk hc0
 clear hr0 hc0
 have HB := Aside0.mk (Below.refl w.heap.size w)
 have H : ((handshakerlaw13_small.f k l0).bind fun t250 => (if t250 = true then ((opaque_Right.f k l0).bind fun t251 => (handshakerlaw13_OpaqueNone.j0 k l0 a1 (!t251))) else (handshakerlaw13_OpaqueNone.j0 k l0 a1 true))) = some r := h
 clear h
 have HC3 := Aside0.mk H
 clear H
 go_enter Try.func10, Try.ntmps10
 go_upto_region 1 with (fail)
 go_cut [16] (fun v16 wc => ∃ (kq : Nat) (x16_2 : Bool), v16 = .bool x16_2 ∧ Aside0 (handshakerlaw13_OpaqueNone.j0 kq l0 a1 x16_2 = some r) ∧ Aside0 (kq ≤ k) ∧ Aside0 (Below w.heap.size w wc))
 case first =>
  have H := HC3.out
  clear HC3
  replace H := Option.bind_eq_some_iff.mp H
  obtain ⟨t250, A40, H⟩ := H
  replace H : (if t250 = true then ((opaque_Right.f k l0).bind fun t251 => (handshakerlaw13_OpaqueNone.j0 k l0 a1 (!t251))) else (handshakerlaw13_OpaqueNone.j0 k l0 a1 true)) = some r := H
  have A4 := Aside0.mk A40
  clear A40
  by_cases c5 : t250 = true
  · subst c5
    have H1 : ((opaque_Right.f k l0).bind fun t251 => (handshakerlaw13_OpaqueNone.j0 k l0 a1 (!t251))) = some r := by rw [if_pos rfl] at H; exact H
    clear H
    have H := H1
    clear H1
    replace H := Option.bind_eq_some_iff.mp H
    obtain ⟨t251, A60, H⟩ := H
    replace H : (handshakerlaw13_OpaqueNone.j0 k l0 a1 (!t251)) = some r := H
    have A6 := Aside0.mk A60
    clear A60
    have H' := Aside0.mk H
    clear H
    go_wp2_with (first | ((with_reducible refine gate_callee (f := 30) rfl ?_); refine goesL_ (some 10) rfl rfl Try.func30 (by kernel_rfl) rfl #[.slice A0 l0.length c0] rfl (by (try simp only [List.map_toArray, List.map_cons, List.map_nil]); first | done | rfl) ?_; (with_reducible refine (handshakerlaw13_small.calls k _ _ l0 true _ ?side1 ?side2 A4.out).mono ?_); (case side1 => repeat (first | exact (Kd.C_below HR0.out HB.out) | with_reducible first | refine Kd.C_alloc ?_ _ | refine Kd.C_drewN ?_ _ | refine Kd.C_drew ?_)); (case side2 => exact HC0.out); rintro e w7 ⟨rfl, hb⟩; refine ⟨_, rfl, ?_⟩; have n0_ := Aside0.mk (bst_ hb); clear HB; have HB := n0_; clear n0_; (try clear hb); (try clear hb2); (try clear hk); (try clear hi)) | (go_at_call 34; (with_reducible refine (opaque_Right.calls k _ _ l0 t251 _ ?side1 ?side2 A6.out).mono ?_); (case side1 => repeat (first | exact (Kd.C_below HR0.out HB.out) | with_reducible first | refine Kd.C_alloc ?_ _ | refine Kd.C_drewN ?_ _ | refine Kd.C_drew ?_)); (case side2 => exact HC0.out); rintro e w8 ⟨rfl, hb⟩; have n0_ := Aside0.mk (bst_ hb); clear HB; have HB := n0_; clear n0_; (try clear hb); (try clear hb2); (try clear hk); (try clear hi)))
    go_meet
    case rel => exact ⟨_, (!t251), (by first | rfl | (simp; done) | (simp [*]; done)), H', ⟨by first | omega | exact Nat.le_refl _⟩, ⟨by repeat (with_reducible first | exact HB.out | apply below_alloc | apply pw_below_drewN | apply below_drew1)⟩⟩
  · replace c5 := Bool.eq_false_iff.mpr c5
    subst c5
    have H1 : (handshakerlaw13_OpaqueNone.j0 k l0 a1 true) = some r := by rw [if_neg (show ¬ (false = true) by decide)] at H; exact H
    clear H
    have H := H1
    clear H1
    have H' := Aside0.mk H
    clear H
    go_wp2_with (first | ((with_reducible refine gate_callee (f := 30) rfl ?_); refine goesL_ (some 10) rfl rfl Try.func30 (by kernel_rfl) rfl #[.slice A0 l0.length c0] rfl (by (try simp only [List.map_toArray, List.map_cons, List.map_nil]); first | done | rfl) ?_; (with_reducible refine (handshakerlaw13_small.calls k _ _ l0 false _ ?side1 ?side2 A4.out).mono ?_); (case side1 => repeat (first | exact (Kd.C_below HR0.out HB.out) | with_reducible first | refine Kd.C_alloc ?_ _ | refine Kd.C_drewN ?_ _ | refine Kd.C_drew ?_)); (case side2 => exact HC0.out); rintro e w9 ⟨rfl, hb⟩; refine ⟨_, rfl, ?_⟩; have n0_ := Aside0.mk (bst_ hb); clear HB; have HB := n0_; clear n0_; (try clear hb); (try clear hb2); (try clear hk); (try clear hi)))
    go_meet
    case rel => exact ⟨_, (true), (by first | rfl | (simp; done) | (simp [*]; done)), H', ⟨by first | omega | exact Nat.le_refl _⟩, ⟨by repeat (with_reducible first | exact HB.out | apply below_alloc | apply pw_below_drewN | apply below_drew1)⟩⟩
 case rest =>
  clear HC3
  try clear c1
  try clear p2
  try clear c3
  try clear c5
  obtain ⟨kq, x16_2, rfl, HA, HJ2, HB⟩ := hcut
  cases kq with
  | zero => exact absurd HA.out (by simp [handshakerlaw13_OpaqueNone.j0])
  | succ kj2 =>
   have H := HA.out
   clear HA
   simp only [handshakerlaw13_OpaqueNone.j0] at H
   by_cases c10 : x16_2 = true
   · subst c10
     have H1 : ((handshakerlaw13_awake.f kj2).bind fun t252 => (some t252)) = some r := by rw [if_pos rfl] at H; exact H
     clear H
     have H := H1
     clear H1
     replace H := Option.bind_eq_some_iff.mp H
     obtain ⟨t252, A110, H⟩ := H
     replace H : (some t252) = some r := H
     have A11 := Aside0.mk A110
     clear A110
     obtain rfl := Option.some.inj H
     go_wp2_with (first | ((with_reducible refine gate_callee (f := 31) rfl ?_); refine goesL_ (some 17) rfl rfl Try.func31 (by kernel_rfl) rfl #[] rfl (by (try simp only [List.map_toArray, List.map_cons, List.map_nil]); first | done | rfl) ?_; (with_reducible refine (handshakerlaw13_awake.calls kj2  t252 _ A11.out).mono ?_); rintro e w12 ⟨rfl, hb⟩; refine ⟨_, rfl, ?_⟩; have n0_ := Aside0.mk (bst_ hb); clear HB; have HB := n0_; clear n0_; (try clear hb); (try clear hb2); (try clear hk); (try clear hi)))
     go_ret
     exact ⟨by first | rfl | (simp [errW_none, errW_some] <;> rfl) | (simp [*, errW_none, errW_some] <;> rfl), by repeat (with_reducible first | exact HB.out | apply below_alloc | apply pw_below_drewN | apply below_drew1)⟩
   · replace c10 := Bool.eq_false_iff.mpr c10
     subst c10
     have H1 : (handshakerlaw13_OpaqueNone.l0 kj2 l0 a1 ([] : List Int) ([] : List Int) l0 (l0.length : Int) 0) = some r := by rw [if_neg (show ¬ (false = true) by decide)] at H; exact H
     clear H
     have H := H1
     clear H1
     have H' := Aside0.mk H
     clear H
     go_wp2
     go_loopg [5, 6, 20] kj2 (fun kq v5 v6 v20 w' => ∃ (x5_2 : List Int) (x6_2 : List Int) (x20_2 : Int), v20 = .int .i64 x20_2 ∧ Aside0 (handshakerlaw13_OpaqueNone.l0 kq l0 a1 x5_2 x6_2 l0 (l0.length : Int) x20_2 = some r) ∧ Aside0 (kq ≤ kj2) ∧ Aside0 (Kd.R (Kd.int .i64) 3 w' w.heap.size (fun k_ => some k_ ≠ (v6 : Value).ownBlock) v5 x5_2) ∧ Aside0 (Kd.R (Kd.int .i64) 3 w' w.heap.size (fun k_ => some k_ ≠ (v5 : Value).ownBlock) v6 x6_2) ∧ Aside0 (Below w.heap.size w w'))
     case atStart => exact ⟨(([] : List Int)), (([] : List Int)), (0), (by first | rfl | (simp; done) | (simp [*]; done)), H', ⟨Nat.le_refl _⟩, ⟨by first | exact Kd.R_nil _ _ _ _ _ | exact Kd.N_nil _ _ _ _ _ | exact Kd.V_nil _ _ _ _ _ | exact Kd.Q_nil _ _ _ _ _ | exact Kd.S_nil _ _ _ _ _⟩, ⟨by first | exact Kd.R_nil _ _ _ _ _ | exact Kd.N_nil _ _ _ _ _ | exact Kd.V_nil _ _ _ _ _ | exact Kd.Q_nil _ _ _ _ _ | exact Kd.S_nil _ _ _ _ _⟩, ⟨by repeat (with_reducible first | exact HB.out | apply below_alloc | apply pw_below_drewN | apply below_drew1)⟩⟩
     case round =>
      clear H'
      try clear c1
      try clear p2
      try clear c3
      try clear c5
      try clear c10
      try clear p2
      obtain ⟨x5_2, x6_2, x20_2, rfl, HA, HK2, HO_5, HO_6, HB⟩ := hrel
      cases gk with
      | zero => exact absurd HA.out (by simp [handshakerlaw13_OpaqueNone.l0])
      | succ k2 =>
       have H := HA.out
       clear HA
       simp only [handshakerlaw13_OpaqueNone.l0] at H
       by_cases c13 : x20_2 < (l0.length : Int)
       · rw [if_pos c13] at H
         have c13b0 : decide (x20_2 < (l0.length : Int)) = true := decide_eq_true c13
         clear c13
         by_cases c14 : 0 ≤ x20_2
         · rw [if_pos c14] at H
           have c14b0 : decide (0 ≤ x20_2) = true := decide_eq_true c14
           clear c14
           by_cases c15 : x20_2 < (l0.length : Int)
           · rw [if_pos c15] at H
             have c15b0 : decide (x20_2 < (l0.length : Int)) = true := decide_eq_true c15
             clear c15
             by_cases c16 : x5_2.length < 17592186044416
             · rw [if_pos c16] at H
               have LMc16 := Aside0.mk c16
               clear c16
               obtain ⟨y255, hy255⟩ : ∃ y_ : List Int, y_ = (x5_2 ++ [(rd_T80 l0 x20_2).f0]) := ⟨_, rfl⟩
               replace H : (if a1 ≥ 0 then (if a1 < (((rd_T80 l0 x20_2).f1).length : Int) then (if 0 ≤ a1 then (if (rd_T66 ((rd_T80 l0 x20_2).f1) a1).f0 = true then (if ((rd_T66 ((rd_T80 l0 x20_2).f1) a1).f1) = 5 then (if x6_2.length < 17592186044416 then (handshakerlaw13_OpaqueNone.l0 k2 l0 a1 y255 (x6_2 ++ [(rd_T80 l0 x20_2).f0]) l0 (l0.length : Int) (wrap64 (x20_2 + 1))) else (none)) else (handshakerlaw13_OpaqueNone.l0 k2 l0 a1 y255 x6_2 l0 (l0.length : Int) (wrap64 (x20_2 + 1)))) else (handshakerlaw13_OpaqueNone.l0 k2 l0 a1 y255 x6_2 l0 (l0.length : Int) (wrap64 (x20_2 + 1)))) else (none)) else (handshakerlaw13_OpaqueNone.l0 k2 l0 a1 y255 x6_2 l0 (l0.length : Int) (wrap64 (x20_2 + 1)))) else (handshakerlaw13_OpaqueNone.l0 k2 l0 a1 y255 x6_2 l0 (l0.length : Int) (wrap64 (x20_2 + 1)))) = some r := by first | (rw [hy255]; with_reducible exact H) | (have H2_ := (Option.bind_some _ _).symm.trans H; rw [hy255]; with_reducible exact H2_) | (have H2_ := (Option.bind_some _ _).symm.trans H; with_reducible exact H2_) | with_reducible exact H | (rw [hy255]; exact H) | exact H
               have Ny255 := Aside0.mk hy255
               clear hy255
               by_cases c17 : a1 ≥ 0
               · rw [if_pos c17] at H
                 have c17b0 : decide (0 ≤ a1) = true := decide_eq_true c17
                 clear c17
                 by_cases c18 : a1 < (((rd_T80 l0 x20_2).f1).length : Int)
                 · rw [if_pos c18] at H
                   have c18b0 : decide (a1 < (((rd_T80 l0 x20_2).f1).length : Int)) = true := decide_eq_true c18
                   clear c18
                   by_cases c19 : 0 ≤ a1
                   · rw [if_pos c19] at H
                     have c19b0 : decide (0 ≤ a1) = true := decide_eq_true c19
                     clear c19
                     obtain ⟨bq20, hbq20⟩ : ∃ b_ : Bool, b_ = ((rd_T66 ((rd_T80 l0 x20_2).f1) a1).f0) := ⟨_, rfl⟩
                     replace H : (if bq20 = true then (if ((rd_T66 ((rd_T80 l0 x20_2).f1) a1).f1) = 5 then (if x6_2.length < 17592186044416 then (handshakerlaw13_OpaqueNone.l0 k2 l0 a1 y255 (x6_2 ++ [(rd_T80 l0 x20_2).f0]) l0 (l0.length : Int) (wrap64 (x20_2 + 1))) else (none)) else (handshakerlaw13_OpaqueNone.l0 k2 l0 a1 y255 x6_2 l0 (l0.length : Int) (wrap64 (x20_2 + 1)))) else (handshakerlaw13_OpaqueNone.l0 k2 l0 a1 y255 x6_2 l0 (l0.length : Int) (wrap64 (x20_2 + 1)))) = some r := by rw [← hbq20] at H; exact H
                     have Nbq20 := Aside0.mk hbq20
                     clear hbq20
                     by_cases c21 : bq20 = true
                     · subst c21
                       have H1 : (if ((rd_T66 ((rd_T80 l0 x20_2).f1) a1).f1) = 5 then (if x6_2.length < 17592186044416 then (handshakerlaw13_OpaqueNone.l0 k2 l0 a1 y255 (x6_2 ++ [(rd_T80 l0 x20_2).f0]) l0 (l0.length : Int) (wrap64 (x20_2 + 1))) else (none)) else (handshakerlaw13_OpaqueNone.l0 k2 l0 a1 y255 x6_2 l0 (l0.length : Int) (wrap64 (x20_2 + 1)))) = some r := by rw [if_pos rfl] at H; exact H
                       clear H
                       have H := H1
                       clear H1
                       by_cases c22 : ((rd_T66 ((rd_T80 l0 x20_2).f1) a1).f1) = 5
                       · rw [if_pos c22] at H
                         have c22b0 : (((rd_T66 ((rd_T80 l0 x20_2).f1) a1).f1) == 5) = true := beq_iff_eq.mpr c22
                         have c22b1 : (((rd_T66 ((rd_T80 l0 x20_2).f1) a1).f1) != 5) = false := bne_eq_false_iff_eq.mpr c22
                         clear c22
                         by_cases c23 : x6_2.length < 17592186044416
                         · rw [if_pos c23] at H
                           have LMc23 := Aside0.mk c23
                           clear c23
                           obtain ⟨y260, hy260⟩ : ∃ y_ : List Int, y_ = (x6_2 ++ [(rd_T80 l0 x20_2).f0]) := ⟨_, rfl⟩
                           replace H : (handshakerlaw13_OpaqueNone.l0 k2 l0 a1 y255 y260 l0 (l0.length : Int) (wrap64 (x20_2 + 1))) = some r := by first | (rw [hy260]; with_reducible exact H) | (have H2_ := (Option.bind_some _ _).symm.trans H; rw [hy260]; with_reducible exact H2_) | (have H2_ := (Option.bind_some _ _).symm.trans H; with_reducible exact H2_) | with_reducible exact H | (rw [hy260]; exact H) | exact H
                           have Ny260 := Aside0.mk hy260
                           clear hy260
                           have H' := Aside0.mk H
                           clear H
                           have p253 : 0 ≤ (x20_2 : Int) := of_decide_eq_true (by first | (with_reducible assumption) | assumption)
                           have q253 : x20_2 < (l0.length : Int) := of_decide_eq_true (by first | (with_reducible assumption) | assumption)
                           obtain ⟨ad253, A253_1, c253_1, e253, hx253_0, hx253_1, hl253_1, hi253_1⟩ := at_T80 HR0.out x20_2 p253 q253
                           cases e253
                           replace hx253_0 := (HB.out.cell (World.block_lt_of_cell? w _ hx253_0)).trans hx253_0
                           replace hx253_1 := (HB.out.cell (World.block_lt_of_cell? w _ hx253_1)).trans hx253_1
                           have HR253_1 := Aside0.mk hi253_1
                           have HC253_1 := Aside0.mk hl253_1
                           clear hi253_1 hl253_1
                           replace p253 := eq_true p253
                           replace q253 := eq_true q253
                           go_wp2_with (first | ((with_reducible refine gate_dst (N := 8) rfl ?_); (try (refine gate_guard (by rfl) ?_; dsimp only)); refine box_event ?hg (N := 8) ?hd (cs := #[.int .i64 0, .slice none 0 0]) (t := 80) ?hr ?_; (case hd => rfl); (case hg => rfl); (case hr => first | (go_simp; done) | (go_simp; rfl)); intro gb254 hg w24 hbox hb; have n0_ := Aside0.mk (Kd.R_below (by (with_reducible repeat (first | apply Kd.R_alloc | apply Kd.R_drewN | apply Kd.R_drew)); exact HO_5.out) hb); have n1_ := Aside0.mk (Kd.R_below (by (with_reducible repeat (first | apply Kd.R_alloc | apply Kd.R_drewN | apply Kd.R_drew)); exact HO_6.out) hb); have n2_ := Aside0.mk (bst_ hb); have n3_ := Aside0.mk (hbox); have n4_ := Aside0.mk ((by rw [hg]; exact bsz_ : w.heap.size ≤ gb254)); have n5_ := n4_; clear HO_5; clear HO_6; clear HB; have HO_5 := n0_; have HO_6 := n1_; have HB := n2_; have BK254 := n3_; have GW254 := n4_; have GE254 := n5_; clear n0_ n1_ n2_ n3_ n4_ n5_; clear hb hbox hg; have hcz25_0 : w24.cell? ⟨gb254, 0, none⟩ = some (.int .i64 0) := (blk_cell BK254.out 0).trans rfl; have hcz25_1 : w24.cell? ⟨gb254, 1, none⟩ = some (.slice none 0 0) := (blk_cell BK254.out 1).trans rfl; have hfz25_0 := blk_frozen BK254.out 0; have hfz25_1 := blk_frozen BK254.out 1) | ((with_reducible refine gate_builtin (b := .append) (xs := #[.tmp 24, .tmp 27]) rfl ?_); (try (refine gate_guard (by rfl) ?_; dsimp only)); at_builtin; refine Kd.R_append (Kd.int .i64) (w0 := w) w.heap.size rfl (.tmp 24) (.tmp 27) 27 3 (.int .i64 0) 8 rfl Try.underlying27 info3 rfl (by decide) (by omega) u5 x5_2 ((rd_T80 l0 x20_2).f0) [.int .i64 ((rd_T80 l0 x20_2).f0)] (fun k_ => some k_ ≠ (u6 : Value).ownBlock) (fun _ => False) rfl (by first | (go_simp; done) | (go_simp; rfl)) ?aP (fun _ hk => hk.elim) ?aF ?aO ?aB ?aS ?aL ?_; (case aP => exact rfl); (case aB => exact (by repeat (with_reducible first | exact HB.out | apply below_alloc | apply pw_below_drewN | apply below_drew1 | refine below_set ?_ GE254.out))); (case aF => exact (fun k_ hk => Kd.fresh' (Kd.R_lt (by (with_reducible repeat (first | apply Kd.R_alloc | apply Kd.R_drewN | apply Kd.R_drew)); exact (Kd.R_mono (Kd.R_far (p := ⟨gb254, 1, none⟩) (Kd.R_far (p := ⟨gb254, 0, none⟩) (Kd.R_types HO_6.out BK254.out (by decide)) (fun _ hk => hk.2) (.int .i64 ((rd_T80 l0 x20_2).f0))) (fun _ hk => hk.2) (.slice A253_1 ((rd_T80 l0 x20_2).f1).length c253_1)) (fun _ h_ => h_.1)))) k_ hk)); (case aO => exact (by (with_reducible repeat (first | apply Kd.R_alloc | apply Kd.R_drewN | apply Kd.R_drew)); exact Kd.R_mono (Kd.R_far (p := ⟨gb254, 1, none⟩) (Kd.R_far (p := ⟨gb254, 0, none⟩) (Kd.R_types HO_5.out BK254.out (by decide)) (fun _ hk => hk.2) (.int .i64 ((rd_T80 l0 x20_2).f0))) (fun _ hk => hk.2) (.slice A253_1 ((rd_T80 l0 x20_2).f1).length c253_1)) (fun _ hk => hk.1))); (case aS => exact (below_size (by repeat (with_reducible first | exact HB.out | apply below_alloc | apply pw_below_drewN | apply below_drew1 | refine below_set ?_ GE254.out)))); (case aL => have := LMc16.out; omega); intro v256 w26 ho hb hg hat; rw [← Ny255.out] at ho; have n0_ := Aside0.mk (Kd.R_after (ok := (fun _ => True)) (by (with_reducible repeat (first | apply Kd.R_alloc | apply Kd.R_drewN | apply Kd.R_drew)); exact Kd.R_mono (Kd.R_far (p := ⟨gb254, 1, none⟩) (Kd.R_far (p := ⟨gb254, 0, none⟩) (Kd.R_types HO_6.out BK254.out (by decide)) (fun _ hk => hk.2) (.int .i64 ((rd_T80 l0 x20_2).f0))) (fun _ hk => hk.2) (.slice A253_1 ((rd_T80 l0 x20_2).f1).length c253_1)) (fun _ hk => ⟨trivial, hk.1⟩)) hg hat); have n1_ := Aside0.mk (blk_grown (g := gb254) (o := .cells #[.int .i64 ((rd_T80 l0 x20_2).f0), .slice A253_1 ((rd_T80 l0 x20_2).f1).length c253_1] 80 (0, 0)) (by (with_reducible repeat (first | refine blk_drewN ?_ _ | refine blk_drew ?_ | refine blk_alloc ?_ _)); refine blk_put (cs := #[.int .i64 ((rd_T80 l0 x20_2).f0), .slice none 0 0]) ?_ 1 _ rfl; (with_reducible repeat (first | refine blk_drewN ?_ _ | refine blk_drew ?_ | refine blk_alloc ?_ _)); refine blk_put (cs := #[.int .i64 0, .slice none 0 0]) ?_ 0 _ rfl; (with_reducible repeat (first | refine blk_drewN ?_ _ | refine blk_drew ?_ | refine blk_alloc ?_ _)); exact BK254.out) hg (Kd.R_ne HO_5.out BK254.out (by decide))); have n2_ := Aside0.mk (hb); have n3_ := Aside0.mk (ho); clear HO_6; clear BK254; clear HB; clear HO_5; have HO_6 := n0_; have BK254 := n1_; have HB := n2_; have HO257 := n3_; clear n0_ n1_ n2_ n3_; clear ho hb hg hat; have hcz27_0 : w26.cell? ⟨gb254, 0, none⟩ = some (.int .i64 ((rd_T80 l0 x20_2).f0)) := (blk_cell BK254.out 0).trans rfl; have hcz27_1 : w26.cell? ⟨gb254, 1, none⟩ = some (.slice A253_1 ((rd_T80 l0 x20_2).f1).length c253_1) := (blk_cell BK254.out 1).trans rfl; have hfz27_0 := blk_frozen BK254.out 0; have hfz27_1 := blk_frozen BK254.out 1; have p258 : 0 ≤ (a1 : Int) := of_decide_eq_true (by first | (with_reducible assumption) | assumption); have q258 : a1 < (((rd_T80 l0 x20_2).f1).length : Int) := of_decide_eq_true (by first | (with_reducible assumption) | assumption); obtain ⟨ad258, e258, hx258_0, hx258_1⟩ := at_T66 HR253_1.out a1 p258 q258; (try rw [← Nbq20.out] at hx258_0); cases e258; replace hx258_0 := (HB.out.cell (World.block_lt_of_cell? w _ hx258_0)).trans hx258_0; replace hx258_1 := (HB.out.cell (World.block_lt_of_cell? w _ hx258_1)).trans hx258_1; replace p258 := eq_true p258; replace q258 := eq_true q258; have p259 : 0 ≤ (a1 : Int) := of_decide_eq_true (by first | (with_reducible assumption) | assumption); have q259 : a1 < (((rd_T80 l0 x20_2).f1).length : Int) := of_decide_eq_true (by first | (with_reducible assumption) | assumption); obtain ⟨ad259, e259, hx259_0, hx259_1⟩ := at_T66 HR253_1.out a1 p259 q259; (try rw [← Nbq20.out] at hx259_0); obtain rfl : ad258 = ad259 := (by injection e259); replace hx259_0 := (HB.out.cell (World.block_lt_of_cell? w _ hx259_0)).trans hx259_0; replace hx259_1 := (HB.out.cell (World.block_lt_of_cell? w _ hx259_1)).trans hx259_1; replace p259 := eq_true p259; replace q259 := eq_true q259) | ((with_reducible refine gate_builtin (b := .append) (xs := #[.tmp 55, .tmp 58]) rfl ?_); (try (refine gate_guard (by rfl) ?_; dsimp only)); at_builtin; refine Kd.R_append (Kd.int .i64) (w0 := w) w.heap.size rfl (.tmp 55) (.tmp 58) 27 3 (.int .i64 0) 8 rfl Try.underlying27 info3 rfl (by decide) (by omega) u6 x6_2 ((rd_T80 l0 x20_2).f0) [.int .i64 ((rd_T80 l0 x20_2).f0)] (fun k_ => some k_ ≠ (v256 : Value).ownBlock) (fun _ => False) rfl rfl ?aP (fun _ hk => hk.elim) ?aF ?aO ?aB ?aS ?aL ?_; (case aP => exact rfl); (case aB => exact (by repeat (with_reducible first | exact HB.out | apply below_alloc | apply pw_below_drewN | apply below_drew1 | refine below_set ?_ GE254.out))); (case aF => exact (fun k_ hk => Kd.fresh' (Kd.R_lt (by (with_reducible repeat (first | apply Kd.R_alloc | apply Kd.R_drewN | apply Kd.R_drew)); exact HO257.out)) k_ hk)); (case aO => exact (by (with_reducible repeat (first | apply Kd.R_alloc | apply Kd.R_drewN | apply Kd.R_drew)); exact Kd.R_mono HO_6.out (fun _ hk => hk.2))); (case aS => exact (below_size (by repeat (with_reducible first | exact HB.out | apply below_alloc | apply pw_below_drewN | apply below_drew1 | refine below_set ?_ GE254.out)))); (case aL => have := LMc23.out; omega); intro v261 w28 ho hb hg hat; rw [← Ny260.out] at ho; have n0_ := Aside0.mk (blk_grown (g := gb254) (o := .cells #[.int .i64 ((rd_T80 l0 x20_2).f0), .slice (some ad258) ((rd_T80 l0 x20_2).f1).length c253_1] 80 (0, 0)) (by (with_reducible repeat (first | refine blk_drewN ?_ _ | refine blk_drew ?_ | refine blk_alloc ?_ _)); exact BK254.out) hg (Kd.R_ne HO_6.out BK254.out (by decide))); have n1_ := Aside0.mk (Kd.R_after (ok := (fun _ => True)) (by (with_reducible repeat (first | apply Kd.R_alloc | apply Kd.R_drewN | apply Kd.R_drew)); exact Kd.R_mono HO257.out (fun _ hk => ⟨trivial, hk⟩)) hg hat); have n2_ := Aside0.mk (hb); have n3_ := Aside0.mk (ho); clear BK254; clear HO257; clear HB; clear HO_6; have BK254 := n0_; have HO257 := n1_; have HB := n2_; have HO262 := n3_; clear n0_ n1_ n2_ n3_; clear ho hb hg hat))
                           go_roundg k2
                           case measure => have := HJ2.out; have := HK2.out; omega
                           case rel => exact ⟨(y255), (y260), (wrap64 (x20_2 + 1)), (by first | rfl | (simp; done) | (simp [*]; done)), H', ⟨by have := HJ2.out; have := HK2.out; omega⟩, ⟨by (with_reducible repeat (first | apply Kd.R_alloc | apply Kd.R_drewN | apply Kd.R_drew)); exact Kd.R_mono HO257.out (fun _ hk => hk.2)⟩, ⟨by (with_reducible repeat (first | apply Kd.R_alloc | apply Kd.R_drewN | apply Kd.R_drew)); exact HO262.out⟩, ⟨by repeat (with_reducible first | exact HB.out | apply below_alloc | apply pw_below_drewN | apply below_drew1 | refine below_set ?_ GE254.out)⟩⟩
                         · rw [if_neg c23] at H
                           exact absurd H (by simp)
                       · rw [if_neg c22] at H
                         have c22b0 : (((rd_T66 ((rd_T80 l0 x20_2).f1) a1).f1) == 5) = false := beq_eq_false_iff_ne.mpr c22
                         have c22b1 : (((rd_T66 ((rd_T80 l0 x20_2).f1) a1).f1) != 5) = true := bne_iff_ne.mpr c22
                         have H' := Aside0.mk H
                         clear H
                         have p253 : 0 ≤ (x20_2 : Int) := of_decide_eq_true (by first | (with_reducible assumption) | assumption)
                         have q253 : x20_2 < (l0.length : Int) := of_decide_eq_true (by first | (with_reducible assumption) | assumption)
                         obtain ⟨ad253, A253_1, c253_1, e253, hx253_0, hx253_1, hl253_1, hi253_1⟩ := at_T80 HR0.out x20_2 p253 q253
                         cases e253
                         replace hx253_0 := (HB.out.cell (World.block_lt_of_cell? w _ hx253_0)).trans hx253_0
                         replace hx253_1 := (HB.out.cell (World.block_lt_of_cell? w _ hx253_1)).trans hx253_1
                         have HR253_1 := Aside0.mk hi253_1
                         have HC253_1 := Aside0.mk hl253_1
                         clear hi253_1 hl253_1
                         replace p253 := eq_true p253
                         replace q253 := eq_true q253
                         go_wp2_with (first | ((with_reducible refine gate_dst (N := 8) rfl ?_); (try (refine gate_guard (by rfl) ?_; dsimp only)); refine box_event ?hg (N := 8) ?hd (cs := #[.int .i64 0, .slice none 0 0]) (t := 80) ?hr ?_; (case hd => rfl); (case hg => rfl); (case hr => first | (go_simp; done) | (go_simp; rfl)); intro gb254 hg w29 hbox hb; have n0_ := Aside0.mk (Kd.R_below (by (with_reducible repeat (first | apply Kd.R_alloc | apply Kd.R_drewN | apply Kd.R_drew)); exact HO_5.out) hb); have n1_ := Aside0.mk (Kd.R_below (by (with_reducible repeat (first | apply Kd.R_alloc | apply Kd.R_drewN | apply Kd.R_drew)); exact HO_6.out) hb); have n2_ := Aside0.mk (bst_ hb); have n3_ := Aside0.mk (hbox); have n4_ := Aside0.mk ((by rw [hg]; exact bsz_ : w.heap.size ≤ gb254)); have n5_ := n4_; clear HO_5; clear HO_6; clear HB; have HO_5 := n0_; have HO_6 := n1_; have HB := n2_; have BK254 := n3_; have GW254 := n4_; have GE254 := n5_; clear n0_ n1_ n2_ n3_ n4_ n5_; clear hb hbox hg; have hcz30_0 : w29.cell? ⟨gb254, 0, none⟩ = some (.int .i64 0) := (blk_cell BK254.out 0).trans rfl; have hcz30_1 : w29.cell? ⟨gb254, 1, none⟩ = some (.slice none 0 0) := (blk_cell BK254.out 1).trans rfl; have hfz30_0 := blk_frozen BK254.out 0; have hfz30_1 := blk_frozen BK254.out 1) | ((with_reducible refine gate_builtin (b := .append) (xs := #[.tmp 24, .tmp 27]) rfl ?_); (try (refine gate_guard (by rfl) ?_; dsimp only)); at_builtin; refine Kd.R_append (Kd.int .i64) (w0 := w) w.heap.size rfl (.tmp 24) (.tmp 27) 27 3 (.int .i64 0) 8 rfl Try.underlying27 info3 rfl (by decide) (by omega) u5 x5_2 ((rd_T80 l0 x20_2).f0) [.int .i64 ((rd_T80 l0 x20_2).f0)] (fun k_ => some k_ ≠ (u6 : Value).ownBlock) (fun _ => False) rfl (by first | (go_simp; done) | (go_simp; rfl)) ?aP (fun _ hk => hk.elim) ?aF ?aO ?aB ?aS ?aL ?_; (case aP => exact rfl); (case aB => exact (by repeat (with_reducible first | exact HB.out | apply below_alloc | apply pw_below_drewN | apply below_drew1 | refine below_set ?_ GE254.out))); (case aF => exact (fun k_ hk => Kd.fresh' (Kd.R_lt (by (with_reducible repeat (first | apply Kd.R_alloc | apply Kd.R_drewN | apply Kd.R_drew)); exact (Kd.R_mono (Kd.R_far (p := ⟨gb254, 1, none⟩) (Kd.R_far (p := ⟨gb254, 0, none⟩) (Kd.R_types HO_6.out BK254.out (by decide)) (fun _ hk => hk.2) (.int .i64 ((rd_T80 l0 x20_2).f0))) (fun _ hk => hk.2) (.slice A253_1 ((rd_T80 l0 x20_2).f1).length c253_1)) (fun _ h_ => h_.1)))) k_ hk)); (case aO => exact (by (with_reducible repeat (first | apply Kd.R_alloc | apply Kd.R_drewN | apply Kd.R_drew)); exact Kd.R_mono (Kd.R_far (p := ⟨gb254, 1, none⟩) (Kd.R_far (p := ⟨gb254, 0, none⟩) (Kd.R_types HO_5.out BK254.out (by decide)) (fun _ hk => hk.2) (.int .i64 ((rd_T80 l0 x20_2).f0))) (fun _ hk => hk.2) (.slice A253_1 ((rd_T80 l0 x20_2).f1).length c253_1)) (fun _ hk => hk.1))); (case aS => exact (below_size (by repeat (with_reducible first | exact HB.out | apply below_alloc | apply pw_below_drewN | apply below_drew1 | refine below_set ?_ GE254.out)))); (case aL => have := LMc16.out; omega); intro v256 w31 ho hb hg hat; rw [← Ny255.out] at ho; have n0_ := Aside0.mk (Kd.R_after (ok := (fun _ => True)) (by (with_reducible repeat (first | apply Kd.R_alloc | apply Kd.R_drewN | apply Kd.R_drew)); exact Kd.R_mono (Kd.R_far (p := ⟨gb254, 1, none⟩) (Kd.R_far (p := ⟨gb254, 0, none⟩) (Kd.R_types HO_6.out BK254.out (by decide)) (fun _ hk => hk.2) (.int .i64 ((rd_T80 l0 x20_2).f0))) (fun _ hk => hk.2) (.slice A253_1 ((rd_T80 l0 x20_2).f1).length c253_1)) (fun _ hk => ⟨trivial, hk.1⟩)) hg hat); have n1_ := Aside0.mk (blk_grown (g := gb254) (o := .cells #[.int .i64 ((rd_T80 l0 x20_2).f0), .slice A253_1 ((rd_T80 l0 x20_2).f1).length c253_1] 80 (0, 0)) (by (with_reducible repeat (first | refine blk_drewN ?_ _ | refine blk_drew ?_ | refine blk_alloc ?_ _)); refine blk_put (cs := #[.int .i64 ((rd_T80 l0 x20_2).f0), .slice none 0 0]) ?_ 1 _ rfl; (with_reducible repeat (first | refine blk_drewN ?_ _ | refine blk_drew ?_ | refine blk_alloc ?_ _)); refine blk_put (cs := #[.int .i64 0, .slice none 0 0]) ?_ 0 _ rfl; (with_reducible repeat (first | refine blk_drewN ?_ _ | refine blk_drew ?_ | refine blk_alloc ?_ _)); exact BK254.out) hg (Kd.R_ne HO_5.out BK254.out (by decide))); have n2_ := Aside0.mk (hb); have n3_ := Aside0.mk (ho); clear HO_6; clear BK254; clear HB; clear HO_5; have HO_6 := n0_; have BK254 := n1_; have HB := n2_; have HO257 := n3_; clear n0_ n1_ n2_ n3_; clear ho hb hg hat; have hcz32_0 : w31.cell? ⟨gb254, 0, none⟩ = some (.int .i64 ((rd_T80 l0 x20_2).f0)) := (blk_cell BK254.out 0).trans rfl; have hcz32_1 : w31.cell? ⟨gb254, 1, none⟩ = some (.slice A253_1 ((rd_T80 l0 x20_2).f1).length c253_1) := (blk_cell BK254.out 1).trans rfl; have hfz32_0 := blk_frozen BK254.out 0; have hfz32_1 := blk_frozen BK254.out 1; have p258 : 0 ≤ (a1 : Int) := of_decide_eq_true (by first | (with_reducible assumption) | assumption); have q258 : a1 < (((rd_T80 l0 x20_2).f1).length : Int) := of_decide_eq_true (by first | (with_reducible assumption) | assumption); obtain ⟨ad258, e258, hx258_0, hx258_1⟩ := at_T66 HR253_1.out a1 p258 q258; (try rw [← Nbq20.out] at hx258_0); cases e258; replace hx258_0 := (HB.out.cell (World.block_lt_of_cell? w _ hx258_0)).trans hx258_0; replace hx258_1 := (HB.out.cell (World.block_lt_of_cell? w _ hx258_1)).trans hx258_1; replace p258 := eq_true p258; replace q258 := eq_true q258; have p259 : 0 ≤ (a1 : Int) := of_decide_eq_true (by first | (with_reducible assumption) | assumption); have q259 : a1 < (((rd_T80 l0 x20_2).f1).length : Int) := of_decide_eq_true (by first | (with_reducible assumption) | assumption); obtain ⟨ad259, e259, hx259_0, hx259_1⟩ := at_T66 HR253_1.out a1 p259 q259; (try rw [← Nbq20.out] at hx259_0); obtain rfl : ad258 = ad259 := (by injection e259); replace hx259_0 := (HB.out.cell (World.block_lt_of_cell? w _ hx259_0)).trans hx259_0; replace hx259_1 := (HB.out.cell (World.block_lt_of_cell? w _ hx259_1)).trans hx259_1; replace p259 := eq_true p259; replace q259 := eq_true q259))
                         go_roundg k2
                         case measure => have := HJ2.out; have := HK2.out; omega
                         case rel => exact ⟨(y255), (x6_2), (wrap64 (x20_2 + 1)), (by first | rfl | (simp; done) | (simp [*]; done)), H', ⟨by have := HJ2.out; have := HK2.out; omega⟩, ⟨by (with_reducible repeat (first | apply Kd.R_alloc | apply Kd.R_drewN | apply Kd.R_drew)); exact HO257.out⟩, ⟨by (with_reducible repeat (first | apply Kd.R_alloc | apply Kd.R_drewN | apply Kd.R_drew)); exact Kd.R_mono HO_6.out (fun _ hk => hk.2)⟩, ⟨by repeat (with_reducible first | exact HB.out | apply below_alloc | apply pw_below_drewN | apply below_drew1 | refine below_set ?_ GE254.out)⟩⟩
                     · replace c21 := Bool.eq_false_iff.mpr c21
                       subst c21
                       have H1 : (handshakerlaw13_OpaqueNone.l0 k2 l0 a1 y255 x6_2 l0 (l0.length : Int) (wrap64 (x20_2 + 1))) = some r := by rw [if_neg (show ¬ (false = true) by decide)] at H; exact H
                       clear H
                       have H := H1
                       clear H1
                       have H' := Aside0.mk H
                       clear H
                       have p253 : 0 ≤ (x20_2 : Int) := of_decide_eq_true (by first | (with_reducible assumption) | assumption)
                       have q253 : x20_2 < (l0.length : Int) := of_decide_eq_true (by first | (with_reducible assumption) | assumption)
                       obtain ⟨ad253, A253_1, c253_1, e253, hx253_0, hx253_1, hl253_1, hi253_1⟩ := at_T80 HR0.out x20_2 p253 q253
                       cases e253
                       replace hx253_0 := (HB.out.cell (World.block_lt_of_cell? w _ hx253_0)).trans hx253_0
                       replace hx253_1 := (HB.out.cell (World.block_lt_of_cell? w _ hx253_1)).trans hx253_1
                       have HR253_1 := Aside0.mk hi253_1
                       have HC253_1 := Aside0.mk hl253_1
                       clear hi253_1 hl253_1
                       replace p253 := eq_true p253
                       replace q253 := eq_true q253
                       go_wp2_with (first | ((with_reducible refine gate_dst (N := 8) rfl ?_); (try (refine gate_guard (by rfl) ?_; dsimp only)); refine box_event ?hg (N := 8) ?hd (cs := #[.int .i64 0, .slice none 0 0]) (t := 80) ?hr ?_; (case hd => rfl); (case hg => rfl); (case hr => first | (go_simp; done) | (go_simp; rfl)); intro gb254 hg w33 hbox hb; have n0_ := Aside0.mk (Kd.R_below (by (with_reducible repeat (first | apply Kd.R_alloc | apply Kd.R_drewN | apply Kd.R_drew)); exact HO_5.out) hb); have n1_ := Aside0.mk (Kd.R_below (by (with_reducible repeat (first | apply Kd.R_alloc | apply Kd.R_drewN | apply Kd.R_drew)); exact HO_6.out) hb); have n2_ := Aside0.mk (bst_ hb); have n3_ := Aside0.mk (hbox); have n4_ := Aside0.mk ((by rw [hg]; exact bsz_ : w.heap.size ≤ gb254)); have n5_ := n4_; clear HO_5; clear HO_6; clear HB; have HO_5 := n0_; have HO_6 := n1_; have HB := n2_; have BK254 := n3_; have GW254 := n4_; have GE254 := n5_; clear n0_ n1_ n2_ n3_ n4_ n5_; clear hb hbox hg; have hcz34_0 : w33.cell? ⟨gb254, 0, none⟩ = some (.int .i64 0) := (blk_cell BK254.out 0).trans rfl; have hcz34_1 : w33.cell? ⟨gb254, 1, none⟩ = some (.slice none 0 0) := (blk_cell BK254.out 1).trans rfl; have hfz34_0 := blk_frozen BK254.out 0; have hfz34_1 := blk_frozen BK254.out 1) | ((with_reducible refine gate_builtin (b := .append) (xs := #[.tmp 24, .tmp 27]) rfl ?_); (try (refine gate_guard (by rfl) ?_; dsimp only)); at_builtin; refine Kd.R_append (Kd.int .i64) (w0 := w) w.heap.size rfl (.tmp 24) (.tmp 27) 27 3 (.int .i64 0) 8 rfl Try.underlying27 info3 rfl (by decide) (by omega) u5 x5_2 ((rd_T80 l0 x20_2).f0) [.int .i64 ((rd_T80 l0 x20_2).f0)] (fun k_ => some k_ ≠ (u6 : Value).ownBlock) (fun _ => False) rfl (by first | (go_simp; done) | (go_simp; rfl)) ?aP (fun _ hk => hk.elim) ?aF ?aO ?aB ?aS ?aL ?_; (case aP => exact rfl); (case aB => exact (by repeat (with_reducible first | exact HB.out | apply below_alloc | apply pw_below_drewN | apply below_drew1 | refine below_set ?_ GE254.out))); (case aF => exact (fun k_ hk => Kd.fresh' (Kd.R_lt (by (with_reducible repeat (first | apply Kd.R_alloc | apply Kd.R_drewN | apply Kd.R_drew)); exact (Kd.R_mono (Kd.R_far (p := ⟨gb254, 1, none⟩) (Kd.R_far (p := ⟨gb254, 0, none⟩) (Kd.R_types HO_6.out BK254.out (by decide)) (fun _ hk => hk.2) (.int .i64 ((rd_T80 l0 x20_2).f0))) (fun _ hk => hk.2) (.slice A253_1 ((rd_T80 l0 x20_2).f1).length c253_1)) (fun _ h_ => h_.1)))) k_ hk)); (case aO => exact (by (with_reducible repeat (first | apply Kd.R_alloc | apply Kd.R_drewN | apply Kd.R_drew)); exact Kd.R_mono (Kd.R_far (p := ⟨gb254, 1, none⟩) (Kd.R_far (p := ⟨gb254, 0, none⟩) (Kd.R_types HO_5.out BK254.out (by decide)) (fun _ hk => hk.2) (.int .i64 ((rd_T80 l0 x20_2).f0))) (fun _ hk => hk.2) (.slice A253_1 ((rd_T80 l0 x20_2).f1).length c253_1)) (fun _ hk => hk.1))); (case aS => exact (below_size (by repeat (with_reducible first | exact HB.out | apply below_alloc | apply pw_below_drewN | apply below_drew1 | refine below_set ?_ GE254.out)))); (case aL => have := LMc16.out; omega); intro v256 w35 ho hb hg hat; rw [← Ny255.out] at ho; have n0_ := Aside0.mk (Kd.R_after (ok := (fun _ => True)) (by (with_reducible repeat (first | apply Kd.R_alloc | apply Kd.R_drewN | apply Kd.R_drew)); exact Kd.R_mono (Kd.R_far (p := ⟨gb254, 1, none⟩) (Kd.R_far (p := ⟨gb254, 0, none⟩) (Kd.R_types HO_6.out BK254.out (by decide)) (fun _ hk => hk.2) (.int .i64 ((rd_T80 l0 x20_2).f0))) (fun _ hk => hk.2) (.slice A253_1 ((rd_T80 l0 x20_2).f1).length c253_1)) (fun _ hk => ⟨trivial, hk.1⟩)) hg hat); have n1_ := Aside0.mk (blk_grown (g := gb254) (o := .cells #[.int .i64 ((rd_T80 l0 x20_2).f0), .slice A253_1 ((rd_T80 l0 x20_2).f1).length c253_1] 80 (0, 0)) (by (with_reducible repeat (first | refine blk_drewN ?_ _ | refine blk_drew ?_ | refine blk_alloc ?_ _)); refine blk_put (cs := #[.int .i64 ((rd_T80 l0 x20_2).f0), .slice none 0 0]) ?_ 1 _ rfl; (with_reducible repeat (first | refine blk_drewN ?_ _ | refine blk_drew ?_ | refine blk_alloc ?_ _)); refine blk_put (cs := #[.int .i64 0, .slice none 0 0]) ?_ 0 _ rfl; (with_reducible repeat (first | refine blk_drewN ?_ _ | refine blk_drew ?_ | refine blk_alloc ?_ _)); exact BK254.out) hg (Kd.R_ne HO_5.out BK254.out (by decide))); have n2_ := Aside0.mk (hb); have n3_ := Aside0.mk (ho); clear HO_6; clear BK254; clear HB; clear HO_5; have HO_6 := n0_; have BK254 := n1_; have HB := n2_; have HO257 := n3_; clear n0_ n1_ n2_ n3_; clear ho hb hg hat; have hcz36_0 : w35.cell? ⟨gb254, 0, none⟩ = some (.int .i64 ((rd_T80 l0 x20_2).f0)) := (blk_cell BK254.out 0).trans rfl; have hcz36_1 : w35.cell? ⟨gb254, 1, none⟩ = some (.slice A253_1 ((rd_T80 l0 x20_2).f1).length c253_1) := (blk_cell BK254.out 1).trans rfl; have hfz36_0 := blk_frozen BK254.out 0; have hfz36_1 := blk_frozen BK254.out 1; have p258 : 0 ≤ (a1 : Int) := of_decide_eq_true (by first | (with_reducible assumption) | assumption); have q258 : a1 < (((rd_T80 l0 x20_2).f1).length : Int) := of_decide_eq_true (by first | (with_reducible assumption) | assumption); obtain ⟨ad258, e258, hx258_0, hx258_1⟩ := at_T66 HR253_1.out a1 p258 q258; (try rw [← Nbq20.out] at hx258_0); cases e258; replace hx258_0 := (HB.out.cell (World.block_lt_of_cell? w _ hx258_0)).trans hx258_0; replace hx258_1 := (HB.out.cell (World.block_lt_of_cell? w _ hx258_1)).trans hx258_1; replace p258 := eq_true p258; replace q258 := eq_true q258))
                       go_roundg k2
                       case measure => have := HJ2.out; have := HK2.out; omega
                       case rel => exact ⟨(y255), (x6_2), (wrap64 (x20_2 + 1)), (by first | rfl | (simp; done) | (simp [*]; done)), H', ⟨by have := HJ2.out; have := HK2.out; omega⟩, ⟨by (with_reducible repeat (first | apply Kd.R_alloc | apply Kd.R_drewN | apply Kd.R_drew)); exact HO257.out⟩, ⟨by (with_reducible repeat (first | apply Kd.R_alloc | apply Kd.R_drewN | apply Kd.R_drew)); exact Kd.R_mono HO_6.out (fun _ hk => hk.2)⟩, ⟨by repeat (with_reducible first | exact HB.out | apply below_alloc | apply pw_below_drewN | apply below_drew1 | refine below_set ?_ GE254.out)⟩⟩
                   · rw [if_neg c19] at H
                     exact absurd H (by simp)
                 · rw [if_neg c18] at H
                   have c18b0 : decide (a1 < (((rd_T80 l0 x20_2).f1).length : Int)) = false := decide_eq_false c18
                   clear c18
                   have H' := Aside0.mk H
                   clear H
                   have p253 : 0 ≤ (x20_2 : Int) := of_decide_eq_true (by first | (with_reducible assumption) | assumption)
                   have q253 : x20_2 < (l0.length : Int) := of_decide_eq_true (by first | (with_reducible assumption) | assumption)
                   obtain ⟨ad253, A253_1, c253_1, e253, hx253_0, hx253_1, hl253_1, hi253_1⟩ := at_T80 HR0.out x20_2 p253 q253
                   cases e253
                   replace hx253_0 := (HB.out.cell (World.block_lt_of_cell? w _ hx253_0)).trans hx253_0
                   replace hx253_1 := (HB.out.cell (World.block_lt_of_cell? w _ hx253_1)).trans hx253_1
                   have HR253_1 := Aside0.mk hi253_1
                   have HC253_1 := Aside0.mk hl253_1
                   clear hi253_1 hl253_1
                   replace p253 := eq_true p253
                   replace q253 := eq_true q253
                   go_wp2_with (first | ((with_reducible refine gate_dst (N := 8) rfl ?_); (try (refine gate_guard (by rfl) ?_; dsimp only)); refine box_event ?hg (N := 8) ?hd (cs := #[.int .i64 0, .slice none 0 0]) (t := 80) ?hr ?_; (case hd => rfl); (case hg => rfl); (case hr => first | (go_simp; done) | (go_simp; rfl)); intro gb254 hg w37 hbox hb; have n0_ := Aside0.mk (Kd.R_below (by (with_reducible repeat (first | apply Kd.R_alloc | apply Kd.R_drewN | apply Kd.R_drew)); exact HO_5.out) hb); have n1_ := Aside0.mk (Kd.R_below (by (with_reducible repeat (first | apply Kd.R_alloc | apply Kd.R_drewN | apply Kd.R_drew)); exact HO_6.out) hb); have n2_ := Aside0.mk (bst_ hb); have n3_ := Aside0.mk (hbox); have n4_ := Aside0.mk ((by rw [hg]; exact bsz_ : w.heap.size ≤ gb254)); have n5_ := n4_; clear HO_5; clear HO_6; clear HB; have HO_5 := n0_; have HO_6 := n1_; have HB := n2_; have BK254 := n3_; have GW254 := n4_; have GE254 := n5_; clear n0_ n1_ n2_ n3_ n4_ n5_; clear hb hbox hg; have hcz38_0 : w37.cell? ⟨gb254, 0, none⟩ = some (.int .i64 0) := (blk_cell BK254.out 0).trans rfl; have hcz38_1 : w37.cell? ⟨gb254, 1, none⟩ = some (.slice none 0 0) := (blk_cell BK254.out 1).trans rfl; have hfz38_0 := blk_frozen BK254.out 0; have hfz38_1 := blk_frozen BK254.out 1) | ((with_reducible refine gate_builtin (b := .append) (xs := #[.tmp 24, .tmp 27]) rfl ?_); (try (refine gate_guard (by rfl) ?_; dsimp only)); at_builtin; refine Kd.R_append (Kd.int .i64) (w0 := w) w.heap.size rfl (.tmp 24) (.tmp 27) 27 3 (.int .i64 0) 8 rfl Try.underlying27 info3 rfl (by decide) (by omega) u5 x5_2 ((rd_T80 l0 x20_2).f0) [.int .i64 ((rd_T80 l0 x20_2).f0)] (fun k_ => some k_ ≠ (u6 : Value).ownBlock) (fun _ => False) rfl (by first | (go_simp; done) | (go_simp; rfl)) ?aP (fun _ hk => hk.elim) ?aF ?aO ?aB ?aS ?aL ?_; (case aP => exact rfl); (case aB => exact (by repeat (with_reducible first | exact HB.out | apply below_alloc | apply pw_below_drewN | apply below_drew1 | refine below_set ?_ GE254.out))); (case aF => exact (fun k_ hk => Kd.fresh' (Kd.R_lt (by (with_reducible repeat (first | apply Kd.R_alloc | apply Kd.R_drewN | apply Kd.R_drew)); exact (Kd.R_mono (Kd.R_far (p := ⟨gb254, 1, none⟩) (Kd.R_far (p := ⟨gb254, 0, none⟩) (Kd.R_types HO_6.out BK254.out (by decide)) (fun _ hk => hk.2) (.int .i64 ((rd_T80 l0 x20_2).f0))) (fun _ hk => hk.2) (.slice A253_1 ((rd_T80 l0 x20_2).f1).length c253_1)) (fun _ h_ => h_.1)))) k_ hk)); (case aO => exact (by (with_reducible repeat (first | apply Kd.R_alloc | apply Kd.R_drewN | apply Kd.R_drew)); exact Kd.R_mono (Kd.R_far (p := ⟨gb254, 1, none⟩) (Kd.R_far (p := ⟨gb254, 0, none⟩) (Kd.R_types HO_5.out BK254.out (by decide)) (fun _ hk => hk.2) (.int .i64 ((rd_T80 l0 x20_2).f0))) (fun _ hk => hk.2) (.slice A253_1 ((rd_T80 l0 x20_2).f1).length c253_1)) (fun _ hk => hk.1))); (case aS => exact (below_size (by repeat (with_reducible first | exact HB.out | apply below_alloc | apply pw_below_drewN | apply below_drew1 | refine below_set ?_ GE254.out)))); (case aL => have := LMc16.out; omega); intro v256 w39 ho hb hg hat; rw [← Ny255.out] at ho; have n0_ := Aside0.mk (Kd.R_after (ok := (fun _ => True)) (by (with_reducible repeat (first | apply Kd.R_alloc | apply Kd.R_drewN | apply Kd.R_drew)); exact Kd.R_mono (Kd.R_far (p := ⟨gb254, 1, none⟩) (Kd.R_far (p := ⟨gb254, 0, none⟩) (Kd.R_types HO_6.out BK254.out (by decide)) (fun _ hk => hk.2) (.int .i64 ((rd_T80 l0 x20_2).f0))) (fun _ hk => hk.2) (.slice A253_1 ((rd_T80 l0 x20_2).f1).length c253_1)) (fun _ hk => ⟨trivial, hk.1⟩)) hg hat); have n1_ := Aside0.mk (blk_grown (g := gb254) (o := .cells #[.int .i64 ((rd_T80 l0 x20_2).f0), .slice A253_1 ((rd_T80 l0 x20_2).f1).length c253_1] 80 (0, 0)) (by (with_reducible repeat (first | refine blk_drewN ?_ _ | refine blk_drew ?_ | refine blk_alloc ?_ _)); refine blk_put (cs := #[.int .i64 ((rd_T80 l0 x20_2).f0), .slice none 0 0]) ?_ 1 _ rfl; (with_reducible repeat (first | refine blk_drewN ?_ _ | refine blk_drew ?_ | refine blk_alloc ?_ _)); refine blk_put (cs := #[.int .i64 0, .slice none 0 0]) ?_ 0 _ rfl; (with_reducible repeat (first | refine blk_drewN ?_ _ | refine blk_drew ?_ | refine blk_alloc ?_ _)); exact BK254.out) hg (Kd.R_ne HO_5.out BK254.out (by decide))); have n2_ := Aside0.mk (hb); have n3_ := Aside0.mk (ho); clear HO_6; clear BK254; clear HB; clear HO_5; have HO_6 := n0_; have BK254 := n1_; have HB := n2_; have HO257 := n3_; clear n0_ n1_ n2_ n3_; clear ho hb hg hat; have hcz40_0 : w39.cell? ⟨gb254, 0, none⟩ = some (.int .i64 ((rd_T80 l0 x20_2).f0)) := (blk_cell BK254.out 0).trans rfl; have hcz40_1 : w39.cell? ⟨gb254, 1, none⟩ = some (.slice A253_1 ((rd_T80 l0 x20_2).f1).length c253_1) := (blk_cell BK254.out 1).trans rfl; have hfz40_0 := blk_frozen BK254.out 0; have hfz40_1 := blk_frozen BK254.out 1))
                   go_roundg k2
                   case measure => have := HJ2.out; have := HK2.out; omega
                   case rel => exact ⟨(y255), (x6_2), (wrap64 (x20_2 + 1)), (by first | rfl | (simp; done) | (simp [*]; done)), H', ⟨by have := HJ2.out; have := HK2.out; omega⟩, ⟨by (with_reducible repeat (first | apply Kd.R_alloc | apply Kd.R_drewN | apply Kd.R_drew)); exact HO257.out⟩, ⟨by (with_reducible repeat (first | apply Kd.R_alloc | apply Kd.R_drewN | apply Kd.R_drew)); exact Kd.R_mono HO_6.out (fun _ hk => hk.2)⟩, ⟨by repeat (with_reducible first | exact HB.out | apply below_alloc | apply pw_below_drewN | apply below_drew1 | refine below_set ?_ GE254.out)⟩⟩
               · rw [if_neg c17] at H
                 have c17b0 : decide (0 ≤ a1) = false := decide_eq_false c17
                 clear c17
                 have H' := Aside0.mk H
                 clear H
                 have p253 : 0 ≤ (x20_2 : Int) := of_decide_eq_true (by first | (with_reducible assumption) | assumption)
                 have q253 : x20_2 < (l0.length : Int) := of_decide_eq_true (by first | (with_reducible assumption) | assumption)
                 obtain ⟨ad253, A253_1, c253_1, e253, hx253_0, hx253_1, hl253_1, hi253_1⟩ := at_T80 HR0.out x20_2 p253 q253
                 cases e253
                 replace hx253_0 := (HB.out.cell (World.block_lt_of_cell? w _ hx253_0)).trans hx253_0
                 replace hx253_1 := (HB.out.cell (World.block_lt_of_cell? w _ hx253_1)).trans hx253_1
                 have HR253_1 := Aside0.mk hi253_1
                 have HC253_1 := Aside0.mk hl253_1
                 clear hi253_1 hl253_1
                 replace p253 := eq_true p253
                 replace q253 := eq_true q253
                 go_wp2_with (first | ((with_reducible refine gate_dst (N := 8) rfl ?_); (try (refine gate_guard (by rfl) ?_; dsimp only)); refine box_event ?hg (N := 8) ?hd (cs := #[.int .i64 0, .slice none 0 0]) (t := 80) ?hr ?_; (case hd => rfl); (case hg => rfl); (case hr => first | (go_simp; done) | (go_simp; rfl)); intro gb254 hg w41 hbox hb; have n0_ := Aside0.mk (Kd.R_below (by (with_reducible repeat (first | apply Kd.R_alloc | apply Kd.R_drewN | apply Kd.R_drew)); exact HO_5.out) hb); have n1_ := Aside0.mk (Kd.R_below (by (with_reducible repeat (first | apply Kd.R_alloc | apply Kd.R_drewN | apply Kd.R_drew)); exact HO_6.out) hb); have n2_ := Aside0.mk (bst_ hb); have n3_ := Aside0.mk (hbox); have n4_ := Aside0.mk ((by rw [hg]; exact bsz_ : w.heap.size ≤ gb254)); have n5_ := n4_; clear HO_5; clear HO_6; clear HB; have HO_5 := n0_; have HO_6 := n1_; have HB := n2_; have BK254 := n3_; have GW254 := n4_; have GE254 := n5_; clear n0_ n1_ n2_ n3_ n4_ n5_; clear hb hbox hg; have hcz42_0 : w41.cell? ⟨gb254, 0, none⟩ = some (.int .i64 0) := (blk_cell BK254.out 0).trans rfl; have hcz42_1 : w41.cell? ⟨gb254, 1, none⟩ = some (.slice none 0 0) := (blk_cell BK254.out 1).trans rfl; have hfz42_0 := blk_frozen BK254.out 0; have hfz42_1 := blk_frozen BK254.out 1) | ((with_reducible refine gate_builtin (b := .append) (xs := #[.tmp 24, .tmp 27]) rfl ?_); (try (refine gate_guard (by rfl) ?_; dsimp only)); at_builtin; refine Kd.R_append (Kd.int .i64) (w0 := w) w.heap.size rfl (.tmp 24) (.tmp 27) 27 3 (.int .i64 0) 8 rfl Try.underlying27 info3 rfl (by decide) (by omega) u5 x5_2 ((rd_T80 l0 x20_2).f0) [.int .i64 ((rd_T80 l0 x20_2).f0)] (fun k_ => some k_ ≠ (u6 : Value).ownBlock) (fun _ => False) rfl (by first | (go_simp; done) | (go_simp; rfl)) ?aP (fun _ hk => hk.elim) ?aF ?aO ?aB ?aS ?aL ?_; (case aP => exact rfl); (case aB => exact (by repeat (with_reducible first | exact HB.out | apply below_alloc | apply pw_below_drewN | apply below_drew1 | refine below_set ?_ GE254.out))); (case aF => exact (fun k_ hk => Kd.fresh' (Kd.R_lt (by (with_reducible repeat (first | apply Kd.R_alloc | apply Kd.R_drewN | apply Kd.R_drew)); exact (Kd.R_mono (Kd.R_far (p := ⟨gb254, 1, none⟩) (Kd.R_far (p := ⟨gb254, 0, none⟩) (Kd.R_types HO_6.out BK254.out (by decide)) (fun _ hk => hk.2) (.int .i64 ((rd_T80 l0 x20_2).f0))) (fun _ hk => hk.2) (.slice A253_1 ((rd_T80 l0 x20_2).f1).length c253_1)) (fun _ h_ => h_.1)))) k_ hk)); (case aO => exact (by (with_reducible repeat (first | apply Kd.R_alloc | apply Kd.R_drewN | apply Kd.R_drew)); exact Kd.R_mono (Kd.R_far (p := ⟨gb254, 1, none⟩) (Kd.R_far (p := ⟨gb254, 0, none⟩) (Kd.R_types HO_5.out BK254.out (by decide)) (fun _ hk => hk.2) (.int .i64 ((rd_T80 l0 x20_2).f0))) (fun _ hk => hk.2) (.slice A253_1 ((rd_T80 l0 x20_2).f1).length c253_1)) (fun _ hk => hk.1))); (case aS => exact (below_size (by repeat (with_reducible first | exact HB.out | apply below_alloc | apply pw_below_drewN | apply below_drew1 | refine below_set ?_ GE254.out)))); (case aL => have := LMc16.out; omega); intro v256 w43 ho hb hg hat; rw [← Ny255.out] at ho; have n0_ := Aside0.mk (Kd.R_after (ok := (fun _ => True)) (by (with_reducible repeat (first | apply Kd.R_alloc | apply Kd.R_drewN | apply Kd.R_drew)); exact Kd.R_mono (Kd.R_far (p := ⟨gb254, 1, none⟩) (Kd.R_far (p := ⟨gb254, 0, none⟩) (Kd.R_types HO_6.out BK254.out (by decide)) (fun _ hk => hk.2) (.int .i64 ((rd_T80 l0 x20_2).f0))) (fun _ hk => hk.2) (.slice A253_1 ((rd_T80 l0 x20_2).f1).length c253_1)) (fun _ hk => ⟨trivial, hk.1⟩)) hg hat); have n1_ := Aside0.mk (blk_grown (g := gb254) (o := .cells #[.int .i64 ((rd_T80 l0 x20_2).f0), .slice A253_1 ((rd_T80 l0 x20_2).f1).length c253_1] 80 (0, 0)) (by (with_reducible repeat (first | refine blk_drewN ?_ _ | refine blk_drew ?_ | refine blk_alloc ?_ _)); refine blk_put (cs := #[.int .i64 ((rd_T80 l0 x20_2).f0), .slice none 0 0]) ?_ 1 _ rfl; (with_reducible repeat (first | refine blk_drewN ?_ _ | refine blk_drew ?_ | refine blk_alloc ?_ _)); refine blk_put (cs := #[.int .i64 0, .slice none 0 0]) ?_ 0 _ rfl; (with_reducible repeat (first | refine blk_drewN ?_ _ | refine blk_drew ?_ | refine blk_alloc ?_ _)); exact BK254.out) hg (Kd.R_ne HO_5.out BK254.out (by decide))); have n2_ := Aside0.mk (hb); have n3_ := Aside0.mk (ho); clear HO_6; clear BK254; clear HB; clear HO_5; have HO_6 := n0_; have BK254 := n1_; have HB := n2_; have HO257 := n3_; clear n0_ n1_ n2_ n3_; clear ho hb hg hat))
                 go_roundg k2
                 case measure => have := HJ2.out; have := HK2.out; omega
                 case rel => exact ⟨(y255), (x6_2), (wrap64 (x20_2 + 1)), (by first | rfl | (simp; done) | (simp [*]; done)), H', ⟨by have := HJ2.out; have := HK2.out; omega⟩, ⟨by (with_reducible repeat (first | apply Kd.R_alloc | apply Kd.R_drewN | apply Kd.R_drew)); exact HO257.out⟩, ⟨by (with_reducible repeat (first | apply Kd.R_alloc | apply Kd.R_drewN | apply Kd.R_drew)); exact Kd.R_mono HO_6.out (fun _ hk => hk.2)⟩, ⟨by repeat (with_reducible first | exact HB.out | apply below_alloc | apply pw_below_drewN | apply below_drew1 | refine below_set ?_ GE254.out)⟩⟩
             · rw [if_neg c16] at H
               exact absurd H (by simp)
           · rw [if_neg c15] at H
             exact absurd H (by simp)
         · rw [if_neg c14] at H
           exact absurd H (by simp)
       · rw [if_neg c13] at H
         have c13b0 : decide (x20_2 < (l0.length : Int)) = false := decide_eq_false c13
         clear c13
         replace H := Option.bind_eq_some_iff.mp H
         obtain ⟨t263, A440, H⟩ := H
         replace H : ((handshakerref03_Numbers.f k2 t263 x5_2).bind fun t266 => (if t266 = true then ((opaque_Span.f k2 l0 (([(⟨a1, 0, 5⟩ : S84)] : List (S84)))).bind fun t270 => ((handshakerref03_Numbers.f k2 t270 x6_2).bind fun t273 => (if t273 = true then ((handshakerlaw13_awake.f k2).bind fun t274 => (some t274)) else (some false)))) else (some false))) = some r := H
         have A44 := Aside0.mk A440
         clear A440
         replace H := Option.bind_eq_some_iff.mp H
         obtain ⟨t266, A450, H⟩ := H
         replace H : (if t266 = true then ((opaque_Span.f k2 l0 (([(⟨a1, 0, 5⟩ : S84)] : List (S84)))).bind fun t270 => ((handshakerref03_Numbers.f k2 t270 x6_2).bind fun t273 => (if t273 = true then ((handshakerlaw13_awake.f k2).bind fun t274 => (some t274)) else (some false)))) else (some false)) = some r := H
         have A45 := Aside0.mk A450
         clear A450
         by_cases c46 : t266 = true
         · subst c46
           have H1 : ((opaque_Span.f k2 l0 (([(⟨a1, 0, 5⟩ : S84)] : List (S84)))).bind fun t270 => ((handshakerref03_Numbers.f k2 t270 x6_2).bind fun t273 => (if t273 = true then ((handshakerlaw13_awake.f k2).bind fun t274 => (some t274)) else (some false)))) = some r := by rw [if_pos rfl] at H; exact H
           clear H
           have H := H1
           clear H1
           obtain ⟨y267, hy267⟩ : ∃ y_ : List (S84), y_ = (([(⟨a1, 0, 5⟩ : S84)] : List (S84))) := ⟨_, rfl⟩
           replace H : ((opaque_Span.f k2 l0 y267).bind fun t270 => ((handshakerref03_Numbers.f k2 t270 x6_2).bind fun t273 => (if t273 = true then ((handshakerlaw13_awake.f k2).bind fun t274 => (some t274)) else (some false)))) = some r := by first | (rw [hy267]; with_reducible exact H) | (have H2_ := (Option.bind_some _ _).symm.trans H; rw [hy267]; with_reducible exact H2_) | (have H2_ := (Option.bind_some _ _).symm.trans H; with_reducible exact H2_) | with_reducible exact H | (rw [hy267]; exact H) | exact H
           have Ny267 := Aside0.mk hy267
           clear hy267
           replace H := Option.bind_eq_some_iff.mp H
           obtain ⟨t270, A470, H⟩ := H
           replace H : ((handshakerref03_Numbers.f k2 t270 x6_2).bind fun t273 => (if t273 = true then ((handshakerlaw13_awake.f k2).bind fun t274 => (some t274)) else (some false))) = some r := H
           have A47 := Aside0.mk A470
           clear A470
           replace H := Option.bind_eq_some_iff.mp H
           obtain ⟨t273, A480, H⟩ := H
           replace H : (if t273 = true then ((handshakerlaw13_awake.f k2).bind fun t274 => (some t274)) else (some false)) = some r := H
           have A48 := Aside0.mk A480
           clear A480
           by_cases c49 : t273 = true
           · subst c49
             have H1 : ((handshakerlaw13_awake.f k2).bind fun t274 => (some t274)) = some r := by rw [if_pos rfl] at H; exact H
             clear H
             have H := H1
             clear H1
             replace H := Option.bind_eq_some_iff.mp H
             obtain ⟨t274, A500, H⟩ := H
             replace H : (some t274) = some r := H
             have A50 := Aside0.mk A500
             clear A500
             obtain rfl := Option.some.inj H
             go_wp2_with (first | ((with_reducible refine gate_callee (f := 36) rfl ?_); refine goesL_ (some 62) rfl rfl Try.func36 (by kernel_rfl) rfl #[.slice A0 l0.length c0, .slice none 0 0] rfl (by (try simp only [List.map_toArray, List.map_cons, List.map_nil]); first | done | rfl) ?_; (refine (opaque_Span.calls k2 _ _ l0 _ _ ([] : List (S84)) t263 _ ?side1 ?side2 ?side3 ?side4 A44.out).mono ?_); (case side1 => repeat (first | exact (Kd.C_below HR0.out HB.out) | with_reducible first | refine Kd.C_alloc ?_ _ | refine Kd.C_drewN ?_ _ | refine Kd.C_drew ?_)); (case side2 => exact HC0.out); (case side3 => exact Kd.C_nil _ _); (case side4 => exact Nat.le_refl _); rintro e w51 ⟨v264, rfl, ho0, hb⟩; refine ⟨_, rfl, ?_⟩; have n0_ := Aside0.mk (Kd.R_elder' (by (with_reducible repeat (first | apply Kd.R_alloc | apply Kd.R_drewN | apply Kd.R_drew)); exact HO_5.out) (Kd.R_base ho0) hb); have n1_ := Aside0.mk (Kd.R_elder' (by (with_reducible repeat (first | apply Kd.R_alloc | apply Kd.R_drewN | apply Kd.R_drew)); exact HO_6.out) (Kd.R_base ho0) hb); have n2_ := Aside0.mk (Kd.R_lower (Kd.R_new' (Kd.R_new' ho0 (Kd.R_lt (by (with_reducible repeat (first | apply Kd.R_alloc | apply Kd.R_drewN | apply Kd.R_drew)); exact HO_5.out))) (Kd.R_lt (by (with_reducible repeat (first | apply Kd.R_alloc | apply Kd.R_drewN | apply Kd.R_drew)); exact HO_6.out))) bsz_); have n3_ := Aside0.mk (bst_ hb); clear HO_5; clear HO_6; clear HB; have HO_5 := n0_; have HO_6 := n1_; have HO265 := n2_; have HB := n3_; clear n0_ n1_ n2_ n3_; (try clear hb); (try clear hb2); (try clear hk); (try clear hi); (try clear ho0); obtain ⟨Ao52, co52, eo52⟩ := Kd.R_slice HO265.out; subst eo52; obtain ⟨Ao53, co53, eo53⟩ := Kd.R_slice HO_5.out; subst eo53) | ((with_reducible refine gate_callee (f := 35) rfl ?_); refine goesL_ (some 64) rfl rfl Try.func35 (by kernel_rfl) rfl #[.slice Ao52 t263.length co52, .slice Ao53 x5_2.length co53] rfl (by (try simp only [List.map_toArray, List.map_cons, List.map_nil]); first | done | rfl) ?_; (with_reducible refine (handshakerref03_Numbers.calls k2 _ _ t263 _ _ x5_2 true _ ?side1 ?side2 ?side3 ?side4 A45.out).mono ?_); (case side1 => repeat (first | exact (Kd.R_reads' HO265.out).2.2 | with_reducible first | refine Kd.C_alloc ?_ _ | refine Kd.C_drewN ?_ _ | refine Kd.C_drew ?_)); (case side2 => exact (Kd.R_reads' HO265.out).2.1); (case side3 => repeat (first | exact (Kd.R_reads' HO_5.out).2.2 | with_reducible first | refine Kd.C_alloc ?_ _ | refine Kd.C_drewN ?_ _ | refine Kd.C_drew ?_)); (case side4 => exact (Kd.R_reads' HO_5.out).2.1); rintro e w' ⟨rfl, ⟨nd, rfl⟩⟩; refine ⟨_, rfl, ?_⟩) | ((with_reducible refine gate_dst (N := 69) rfl ?_); (try (refine gate_guard (by rfl) ?_; dsimp only)); refine Kd.R_lit k84 _ 84 ?hg (N := 69) ?hd (xs := ([(⟨a1, 0, 5⟩ : S84)] : List (S84))) (inner := [.int .i64 a1, .int .i64 0, .int .i64 5]) (ok := fun _ => True) (okp := fun _ => True) ?hr ?hp (fun _ hk => hk) trivial (Below.refl _ _) (Nat.le_refl _) (by simp) ?_; (case hd => rfl); (case hg => rfl); (case hr => first | (go_simp; done) | (go_simp; rfl)); (case hp => exact (Reps.c3 (show Kd.M k84 _ _ _ (⟨a1, 0, 5⟩ : S84) [.int .i64 a1, .int .i64 0, .int .i64 5] from (k84_mkM _ _ _ (⟨a1, 0, 5⟩ : S84) )) (Reps.none _ _))); intro v268 w54 ho55 hb hg_ hnew_; clear hg_ hnew_; (first | rw [← Ny267.out] at ho55 | (simp only [Int.reduceToNat] at ho55; rw [← Ny267.out] at ho55)); have n0_ := Aside0.mk (Kd.R_below (by (with_reducible repeat (first | apply Kd.R_alloc | apply Kd.R_drewN | apply Kd.R_drew)); exact HO_5.out) hb); have n1_ := Aside0.mk (Kd.R_below (by (with_reducible repeat (first | apply Kd.R_alloc | apply Kd.R_drewN | apply Kd.R_drew)); exact HO_6.out) hb); have n2_ := Aside0.mk (Kd.R_below (by (with_reducible repeat (first | apply Kd.R_alloc | apply Kd.R_drewN | apply Kd.R_drew)); exact HO265.out) hb); have n3_ := Aside0.mk (Kd.R_lower ho55 bsz_); have n4_ := Aside0.mk (bst_ hb); clear HO_5; clear HO_6; clear HO265; clear HB; have HO_5 := n0_; have HO_6 := n1_; have HO265 := n2_; have HO269 := n3_; have HB := n4_; clear n0_ n1_ n2_ n3_ n4_; clear hb ho55; obtain ⟨Ao56, co56, eo56⟩ := Kd.R_slice HO269.out; subst eo56) | (go_at_call 36; (with_reducible refine (opaque_Span.calls k2 _ _ l0 _ _ y267 t270 _ ?side1 ?side2 ?side3 ?side4 A47.out).mono ?_); (case side1 => repeat (first | exact (Kd.C_below HR0.out HB.out) | with_reducible first | refine Kd.C_alloc ?_ _ | refine Kd.C_drewN ?_ _ | refine Kd.C_drew ?_)); (case side2 => exact HC0.out); (case side3 => repeat (first | exact (Kd.R_reads' HO269.out).2.2 | with_reducible first | refine Kd.C_alloc ?_ _ | refine Kd.C_drewN ?_ _ | refine Kd.C_drew ?_)); (case side4 => exact (Kd.R_reads' HO269.out).2.1); rintro e w57 ⟨v271, rfl, ho0, hb⟩; have n0_ := Aside0.mk (Kd.R_elder' (by (with_reducible repeat (first | apply Kd.R_alloc | apply Kd.R_drewN | apply Kd.R_drew)); exact HO_5.out) (Kd.R_base ho0) hb); have n1_ := Aside0.mk (Kd.R_elder' (by (with_reducible repeat (first | apply Kd.R_alloc | apply Kd.R_drewN | apply Kd.R_drew)); exact HO_6.out) (Kd.R_base ho0) hb); have n2_ := Aside0.mk (Kd.R_elder' (by (with_reducible repeat (first | apply Kd.R_alloc | apply Kd.R_drewN | apply Kd.R_drew)); exact HO265.out) (Kd.R_base ho0) hb); have n3_ := Aside0.mk (Kd.R_below (by (with_reducible repeat (first | apply Kd.R_alloc | apply Kd.R_drewN | apply Kd.R_drew)); exact HO269.out) hb); have n4_ := Aside0.mk (Kd.R_lower (Kd.R_new' (Kd.R_new' (Kd.R_new' ho0 (Kd.R_lt (by (with_reducible repeat (first | apply Kd.R_alloc | apply Kd.R_drewN | apply Kd.R_drew)); exact HO_5.out))) (Kd.R_lt (by (with_reducible repeat (first | apply Kd.R_alloc | apply Kd.R_drewN | apply Kd.R_drew)); exact HO_6.out))) (Kd.R_lt (by (with_reducible repeat (first | apply Kd.R_alloc | apply Kd.R_drewN | apply Kd.R_drew)); exact HO265.out))) bsz_); have n5_ := Aside0.mk (bst_ hb); clear HO_5; clear HO_6; clear HO265; clear HO269; clear HB; have HO_5 := n0_; have HO_6 := n1_; have HO265 := n2_; have HO269 := n3_; have HO272 := n4_; have HB := n5_; clear n0_ n1_ n2_ n3_ n4_ n5_; (try clear hb); (try clear hb2); (try clear hk); (try clear hi); (try clear ho0); obtain ⟨Ao58, co58, eo58⟩ := Kd.R_slice HO272.out; subst eo58; obtain ⟨Ao59, co59, eo59⟩ := Kd.R_slice HO_6.out; subst eo59) | (go_at_call 35; (with_reducible refine (handshakerref03_Numbers.calls k2 _ _ t270 _ _ x6_2 true _ ?side1 ?side2 ?side3 ?side4 A48.out).mono ?_); (case side1 => repeat (first | exact (Kd.R_reads' HO272.out).2.2 | with_reducible first | refine Kd.C_alloc ?_ _ | refine Kd.C_drewN ?_ _ | refine Kd.C_drew ?_)); (case side2 => exact (Kd.R_reads' HO272.out).2.1); (case side3 => repeat (first | exact (Kd.R_reads' HO_6.out).2.2 | with_reducible first | refine Kd.C_alloc ?_ _ | refine Kd.C_drewN ?_ _ | refine Kd.C_drew ?_)); (case side4 => exact (Kd.R_reads' HO_6.out).2.1); rintro e w' ⟨rfl, ⟨nd, rfl⟩⟩) | (go_at_call 31; (with_reducible refine (handshakerlaw13_awake.calls k2  t274 _ A50.out).mono ?_); rintro e w60 ⟨rfl, hb⟩; have n0_ := Aside0.mk (Kd.R_below (by (with_reducible repeat (first | apply Kd.R_alloc | apply Kd.R_drewN | apply Kd.R_drew)); exact HO_5.out) hb); have n1_ := Aside0.mk (Kd.R_below (by (with_reducible repeat (first | apply Kd.R_alloc | apply Kd.R_drewN | apply Kd.R_drew)); exact HO_6.out) hb); have n2_ := Aside0.mk (Kd.R_below (by (with_reducible repeat (first | apply Kd.R_alloc | apply Kd.R_drewN | apply Kd.R_drew)); exact HO265.out) hb); have n3_ := Aside0.mk (Kd.R_below (by (with_reducible repeat (first | apply Kd.R_alloc | apply Kd.R_drewN | apply Kd.R_drew)); exact HO269.out) hb); have n4_ := Aside0.mk (Kd.R_below (by (with_reducible repeat (first | apply Kd.R_alloc | apply Kd.R_drewN | apply Kd.R_drew)); exact HO272.out) hb); have n5_ := Aside0.mk (bst_ hb); clear HO_5; clear HO_6; clear HO265; clear HO269; clear HO272; clear HB; have HO_5 := n0_; have HO_6 := n1_; have HO265 := n2_; have HO269 := n3_; have HO272 := n4_; have HB := n5_; clear n0_ n1_ n2_ n3_ n4_ n5_; (try clear hb); (try clear hb2); (try clear hk); (try clear hi)))
             go_ret
             exact ⟨by first | rfl | (simp [errW_none, errW_some] <;> rfl) | (simp [*, errW_none, errW_some] <;> rfl), by repeat (with_reducible first | exact HB.out | apply below_alloc | apply pw_below_drewN | apply below_drew1)⟩
           · replace c49 := Bool.eq_false_iff.mpr c49
             subst c49
             have H1 : (some false) = some r := by rw [if_neg (show ¬ (false = true) by decide)] at H; exact H
             clear H
             have H := H1
             clear H1
             exact absurd (Option.some.inj H) (by rw [HT.out]; decide)
         · replace c46 := Bool.eq_false_iff.mpr c46
           subst c46
           have H1 : (some false) = some r := by rw [if_neg (show ¬ (false = true) by decide)] at H; exact H
           clear H
           have H := H1
           clear H1
           exact absurd (Option.some.inj H) (by rw [HT.out]; decide)

/-- THE ONE PURE STATEMENT of handshakerlaw13_OpaqueNone. -/
def handshakerlaw13_OpaqueNone.Pure : Prop := ∀ (l0 : List (S80)) (a1 : Int), l0.length ≤ maxLen → l0.length * 32 ≤ 140737488351232 → (∀ y ∈ l0, wfS80 y) → (Lit.int .i64 a1).wf = true → ∃ k, handshakerlaw13_OpaqueNone.f k l0 a1 = some true

end Go.Proofs.Ytihcnbhcemkncaa.O
