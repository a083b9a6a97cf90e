-- PRINTED by print.py (a twelfth state) out of the translation. Not trusted: Lean checks it.
import Derived.Test.YtbcpnbmegaodbaaCtx0
import Derived.Test.YtbcpnbmegaodbaaCtx1
import Derived.Test.YtbcpnbmegaodbaaCtx4
import Derived.Test.YtbcpnbmegaodbaaCtx5
import Derived.Test.YtbcpnbmegaodbaaCtx8
namespace Go.Proofs.Ytbcpnbmegaodbaa.Ct
open Go.Proofs.Ytbcpnbmegaodbaa.Ho
open Go.RowKit Go.Proofs.YtbcpnbmegaodbaaW.PrintWords Go.Proofs.YtbcpnbmegaodbaaW.PrintLast Go.Proofs.YtbcpnbmegaodbaaW.PrintMore
attribute [local go_sem] max2_int min2_int max_two min_two max_three min_three max_four min_four   -- for this text's walks alone
set_option linter.unusedVariables false
set_option linter.unusedSimpArgs false

/-! ### handshakerlaw08_CodeTells: function 3 -/
def handshakerlaw08_CodeTells.f (k : Nat) (l0 : List (S37)) : Option (Bool) := (handshakerlaw08_Small.f k l0).bind fun t270 => (if t270 < 0 then ((handshakerlaw08_awake.f k).bind fun t271 => (some t271)) else ((handshakerlaw08_Ref.f k l0).bind fun t272 => ((code_Check.f k l0).bind fun t275 => ((handshakerref08_Check.f k t272).bind fun t276 => (if t275 = t276 then ((code_Deep.f k l0).bind fun t277 => ((handshakerref08_Deep.f k t272).bind fun t278 => (if t277 = t278 then ((code_Cells.f k l0).bind fun t279 => ((handshakerref08_Cells.f k t272).bind fun t282 => ((handshakerref03_Numbers.f k t279 t282).bind fun t285 => (if t285 = true then ((handshakerlaw08_awake.f k).bind fun t286 => (some t286)) else (some false))))) else (some false)))) else (some false))))))
theorem handshakerlaw08_CodeTells.mono : ∀ a0 k, LeO (handshakerlaw08_CodeTells.f k a0) (handshakerlaw08_CodeTells.f (k + 1) a0) := by
 intro a0 k
 unfold handshakerlaw08_CodeTells.f
 repeat' first
  | (with_reducible exact code_Cells.mono _ _)
  | (with_reducible exact code_Check.mono _ _)
  | (with_reducible exact code_Deep.mono _ _)
  | (with_reducible exact handshakerlaw08_Ref.mono _ _)
  | (with_reducible exact handshakerlaw08_Small.mono _ _)
  | (with_reducible exact handshakerlaw08_awake.mono _)
  | (with_reducible exact handshakerref03_Numbers.mono _ _ _)
  | (with_reducible exact handshakerref08_Cells.mono _ _)
  | (with_reducible exact handshakerref08_Check.mono _ _)
  | (with_reducible exact handshakerref08_Deep.mono _ _)
  | (with_reducible exact LeO.refl _)
  | (with_reducible exact LeO.none _)
  | (with_reducible refine LeO.ite ?_ ?_)
  | (with_reducible refine LeO.bind ?_ (fun _ => ?_))
  | exact code_Cells.mono _ _
  | exact code_Check.mono _ _
  | exact code_Deep.mono _ _
  | exact handshakerlaw08_Ref.mono _ _
  | exact handshakerlaw08_Small.mono _ _
  | exact handshakerlaw08_awake.mono _
  | exact handshakerref03_Numbers.mono _ _ _
  | exact handshakerref08_Cells.mono _ _
  | exact handshakerref08_Check.mono _ _
  | exact handshakerref08_Deep.mono _ _
  | exact LeO.none _
  | refine LeO.ite ?_ ?_
  | refine LeO.bind ?_ (fun _ => ?_)
set_option maxHeartbeats 8000000 in
set_option maxRecDepth 100000 in
theorem handshakerlaw08_CodeTells.calls (k : Nat) (A0 : Option Addr) (c0 : Nat) (l0 : List (S37)) (r : Bool) (w : World) (HT : Aside0 (r = true)) (hr0 : Kd.C k37 w A0 l0.length l0) (hc0 : l0.length ≤ c0) (h : handshakerlaw08_CodeTells.f k l0 = some r) :
 Calls Try.prog 3 #[.slice A0 l0.length c0] w fun e w' => e = .returned (.bool r) ∧ Below w.heap.size w w' := by
 have HR0 := Aside0.mk hr0
 have HC0 := Aside0.mk hc0
 clear hr0 hc0
 have HB := Aside0.mk (Below.refl w.heap.size w)
 have H : ((handshakerlaw08_Small.f k l0).bind fun t270 => (if t270 < 0 then ((handshakerlaw08_awake.f k).bind fun t271 => (some t271)) else ((handshakerlaw08_Ref.f k l0).bind fun t272 => ((code_Check.f k l0).bind fun t275 => ((handshakerref08_Check.f k t272).bind fun t276 => (if t275 = t276 then ((code_Deep.f k l0).bind fun t277 => ((handshakerref08_Deep.f k t272).bind fun t278 => (if t277 = t278 then ((code_Cells.f k l0).bind fun t279 => ((handshakerref08_Cells.f k t272).bind fun t282 => ((handshakerref03_Numbers.f k t279 t282).bind fun t285 => (if t285 = true then ((handshakerlaw08_awake.f k).bind fun t286 => (some t286)) else (some false))))) else (some false)))) else (some false))))))) = some r := h
 clear h
 replace H := Option.bind_eq_some_iff.mp H
 obtain ⟨t270, A20, H⟩ := H
 replace H : (if t270 < 0 then ((handshakerlaw08_awake.f k).bind fun t271 => (some t271)) else ((handshakerlaw08_Ref.f k l0).bind fun t272 => ((code_Check.f k l0).bind fun t275 => ((handshakerref08_Check.f k t272).bind fun t276 => (if t275 = t276 then ((code_Deep.f k l0).bind fun t277 => ((handshakerref08_Deep.f k t272).bind fun t278 => (if t277 = t278 then ((code_Cells.f k l0).bind fun t279 => ((handshakerref08_Cells.f k t272).bind fun t282 => ((handshakerref03_Numbers.f k t279 t282).bind fun t285 => (if t285 = true then ((handshakerlaw08_awake.f k).bind fun t286 => (some t286)) else (some false))))) else (some false)))) else (some false)))))) = some r := H
 have A2 := Aside0.mk A20
 clear A20
 by_cases c3 : t270 < 0
 · rw [if_pos c3] at H
   have c3b0 : decide (t270 < 0) = true := decide_eq_true c3
   clear c3
   replace H := Option.bind_eq_some_iff.mp H
   obtain ⟨t271, A40, H⟩ := H
   replace H : (some t271) = some r := H
   have A4 := Aside0.mk A40
   clear A40
   obtain rfl := Option.some.inj H
   go_enter Try.func3, Try.ntmps3
   go_wp2_with (first | ((with_reducible refine gate_callee (f := 15) rfl ?_); refine goesL_ (some 5) rfl rfl Try.func15 (by kernel_rfl) rfl #[.slice A0 l0.length c0] rfl (by (try simp only [List.map_toArray, List.map_cons, List.map_nil]); first | done | rfl) ?_; (with_reducible refine (handshakerlaw08_Small.calls k _ _ l0 t270 _ ?side1 ?side2 A2.out).mono ?_); (case side1 => repeat (first | exact HR0.out | with_reducible first | refine Kd.C_alloc ?_ _ | refine Kd.C_drewN ?_ _ | refine Kd.C_drew ?_)); (case side2 => exact HC0.out); rintro e w5 ⟨rfl, hb⟩; refine ⟨_, rfl, ?_⟩; have n0_ := Aside0.mk (bst_ hb); clear HB; have HB := n0_; clear n0_; (try clear hb); (try clear hb2); (try clear hk); (try clear hi)) | ((with_reducible refine gate_callee (f := 16) rfl ?_); refine goesL_ (some 7) rfl rfl Try.func16 (by kernel_rfl) rfl #[] rfl (by (try simp only [List.map_toArray, List.map_cons, List.map_nil]); first | done | rfl) ?_; (with_reducible refine (handshakerlaw08_awake.calls k  t271 _ A4.out).mono ?_); rintro e w6 ⟨rfl, hb⟩; refine ⟨_, rfl, ?_⟩; have n0_ := Aside0.mk (bst_ hb); clear HB; have HB := n0_; clear n0_; (try clear hb); (try clear hb2); (try clear hk); (try clear hi)))
   go_ret
   exact ⟨by first | rfl | (simp [errW_none, errW_some] <;> rfl) | (simp [*, errW_none, errW_some] <;> rfl), by repeat (with_reducible first | exact HB.out | apply below_alloc | apply pw_below_drewN | apply below_drew1)⟩
 · rw [if_neg c3] at H
   have c3b0 : decide (t270 < 0) = false := decide_eq_false c3
   clear c3
   replace H := Option.bind_eq_some_iff.mp H
   obtain ⟨t272, A70, H⟩ := H
   replace H : ((code_Check.f k l0).bind fun t275 => ((handshakerref08_Check.f k t272).bind fun t276 => (if t275 = t276 then ((code_Deep.f k l0).bind fun t277 => ((handshakerref08_Deep.f k t272).bind fun t278 => (if t277 = t278 then ((code_Cells.f k l0).bind fun t279 => ((handshakerref08_Cells.f k t272).bind fun t282 => ((handshakerref03_Numbers.f k t279 t282).bind fun t285 => (if t285 = true then ((handshakerlaw08_awake.f k).bind fun t286 => (some t286)) else (some false))))) else (some false)))) else (some false)))) = some r := H
   have A7 := Aside0.mk A70
   clear A70
   replace H := Option.bind_eq_some_iff.mp H
   obtain ⟨t275, A80, H⟩ := H
   replace H : ((handshakerref08_Check.f k t272).bind fun t276 => (if t275 = t276 then ((code_Deep.f k l0).bind fun t277 => ((handshakerref08_Deep.f k t272).bind fun t278 => (if t277 = t278 then ((code_Cells.f k l0).bind fun t279 => ((handshakerref08_Cells.f k t272).bind fun t282 => ((handshakerref03_Numbers.f k t279 t282).bind fun t285 => (if t285 = true then ((handshakerlaw08_awake.f k).bind fun t286 => (some t286)) else (some false))))) else (some false)))) else (some false))) = some r := H
   have A8 := Aside0.mk A80
   clear A80
   replace H := Option.bind_eq_some_iff.mp H
   obtain ⟨t276, A90, H⟩ := H
   replace H : (if t275 = t276 then ((code_Deep.f k l0).bind fun t277 => ((handshakerref08_Deep.f k t272).bind fun t278 => (if t277 = t278 then ((code_Cells.f k l0).bind fun t279 => ((handshakerref08_Cells.f k t272).bind fun t282 => ((handshakerref03_Numbers.f k t279 t282).bind fun t285 => (if t285 = true then ((handshakerlaw08_awake.f k).bind fun t286 => (some t286)) else (some false))))) else (some false)))) else (some false)) = some r := H
   have A9 := Aside0.mk A90
   clear A90
   by_cases c10 : t275 = t276
   · rw [if_pos c10] at H
     have c10b0 : (t275 == t276) = true := beq_iff_eq.mpr c10
     have c10b1 : (t275 != t276) = false := bne_eq_false_iff_eq.mpr c10
     clear c10
     replace H := Option.bind_eq_some_iff.mp H
     obtain ⟨t277, A110, H⟩ := H
     replace H : ((handshakerref08_Deep.f k t272).bind fun t278 => (if t277 = t278 then ((code_Cells.f k l0).bind fun t279 => ((handshakerref08_Cells.f k t272).bind fun t282 => ((handshakerref03_Numbers.f k t279 t282).bind fun t285 => (if t285 = true then ((handshakerlaw08_awake.f k).bind fun t286 => (some t286)) else (some false))))) else (some false))) = some r := H
     have A11 := Aside0.mk A110
     clear A110
     replace H := Option.bind_eq_some_iff.mp H
     obtain ⟨t278, A120, H⟩ := H
     replace H : (if t277 = t278 then ((code_Cells.f k l0).bind fun t279 => ((handshakerref08_Cells.f k t272).bind fun t282 => ((handshakerref03_Numbers.f k t279 t282).bind fun t285 => (if t285 = true then ((handshakerlaw08_awake.f k).bind fun t286 => (some t286)) else (some false))))) else (some false)) = some r := H
     have A12 := Aside0.mk A120
     clear A120
     by_cases c13 : t277 = t278
     · rw [if_pos c13] at H
       have c13b0 : (t277 == t278) = true := beq_iff_eq.mpr c13
       have c13b1 : (t277 != t278) = false := bne_eq_false_iff_eq.mpr c13
       clear c13
       replace H := Option.bind_eq_some_iff.mp H
       obtain ⟨t279, A140, H⟩ := H
       replace H : ((handshakerref08_Cells.f k t272).bind fun t282 => ((handshakerref03_Numbers.f k t279 t282).bind fun t285 => (if t285 = true then ((handshakerlaw08_awake.f k).bind fun t286 => (some t286)) else (some false)))) = some r := H
       have A14 := Aside0.mk A140
       clear A140
       replace H := Option.bind_eq_some_iff.mp H
       obtain ⟨t282, A150, H⟩ := H
       replace H : ((handshakerref03_Numbers.f k t279 t282).bind fun t285 => (if t285 = true then ((handshakerlaw08_awake.f k).bind fun t286 => (some t286)) else (some false))) = some r := H
       have A15 := Aside0.mk A150
       clear A150
       replace H := Option.bind_eq_some_iff.mp H
       obtain ⟨t285, A160, H⟩ := H
       replace H : (if t285 = true then ((handshakerlaw08_awake.f k).bind fun t286 => (some t286)) else (some false)) = some r := H
       have A16 := Aside0.mk A160
       clear A160
       by_cases c17 : t285 = true
       · subst c17
         have H1 : ((handshakerlaw08_awake.f k).bind fun t286 => (some t286)) = some r := by rw [if_pos rfl] at H; exact H
         clear H
         have H := H1
         clear H1
         replace H := Option.bind_eq_some_iff.mp H
         obtain ⟨t286, A180, H⟩ := H
         replace H : (some t286) = some r := H
         have A18 := Aside0.mk A180
         clear A180
         obtain rfl := Option.some.inj H
         go_enter Try.func3, Try.ntmps3
         go_wp2_with (first | ((with_reducible refine gate_callee (f := 15) rfl ?_); refine goesL_ (some 5) rfl rfl Try.func15 (by kernel_rfl) rfl #[.slice A0 l0.length c0] rfl (by (try simp only [List.map_toArray, List.map_cons, List.map_nil]); first | done | rfl) ?_; (with_reducible refine (handshakerlaw08_Small.calls k _ _ l0 t270 _ ?side1 ?side2 A2.out).mono ?_); (case side1 => repeat (first | exact HR0.out | with_reducible first | refine Kd.C_alloc ?_ _ | refine Kd.C_drewN ?_ _ | refine Kd.C_drew ?_)); (case side2 => exact HC0.out); rintro e w19 ⟨rfl, hb⟩; refine ⟨_, rfl, ?_⟩; have n0_ := Aside0.mk (bst_ hb); clear HB; have HB := n0_; clear n0_; (try clear hb); (try clear hb2); (try clear hk); (try clear hi)) | ((with_reducible refine gate_callee (f := 17) rfl ?_); refine goesL_ (some 9) rfl rfl Try.func17 (by kernel_rfl) rfl #[.slice A0 l0.length c0] rfl (by (try simp only [List.map_toArray, List.map_cons, List.map_nil]); first | done | rfl) ?_; (with_reducible refine (handshakerlaw08_Ref.calls k _ _ l0 t272 _ ?side1 ?side2 A7.out).mono ?_); (case side1 => repeat (first | exact (Kd.C_below HR0.out HB.out) | with_reducible first | refine Kd.C_alloc ?_ _ | refine Kd.C_drewN ?_ _ | refine Kd.C_drew ?_)); (case side2 => exact HC0.out); rintro e w20 ⟨v273, rfl, ho0, hb⟩; refine ⟨_, rfl, ?_⟩; have n0_ := Aside0.mk (Kd.S_lower ho0 bsz_); have n1_ := Aside0.mk (bst_ hb); clear HB; have HO274 := n0_; have HB := n1_; clear n0_ n1_; (try clear hb); (try clear hb2); (try clear hk); (try clear hi); (try clear ho0)) | ((with_reducible refine gate_callee (f := 18) rfl ?_); refine goesL_ (some 11) rfl rfl Try.func18 (by kernel_rfl) rfl #[.slice A0 l0.length c0] rfl (by (try simp only [List.map_toArray, List.map_cons, List.map_nil]); first | done | rfl) ?_; (with_reducible refine (code_Check.calls k _ _ l0 t275 _ ?side1 ?side2 A8.out).mono ?_); (case side1 => repeat (first | exact (Kd.C_below HR0.out HB.out) | with_reducible first | refine Kd.C_alloc ?_ _ | refine Kd.C_drewN ?_ _ | refine Kd.C_drew ?_)); (case side2 => exact HC0.out); rintro e w21 ⟨rfl, hb⟩; refine ⟨_, rfl, ?_⟩; have n0_ := Aside0.mk (Kd.S_below (by (with_reducible repeat (first | apply Kd.S_alloc | apply Kd.S_drewN | apply Kd.S_drew)); exact HO274.out) hb); have n1_ := Aside0.mk (bst_ hb); clear HO274; clear HB; have HO274 := n0_; have HB := n1_; clear n0_ n1_; (try clear hb); (try clear hb2); (try clear hk); (try clear hi); obtain ⟨Ao22, co22, eo22⟩ := Kd.S_slice HO274.out; subst eo22) | ((with_reducible refine gate_callee (f := 19) rfl ?_); refine goesL_ (some 13) rfl rfl Try.func19 (by kernel_rfl) rfl #[.slice Ao22 t272.length co22] rfl (by (try simp only [List.map_toArray, List.map_cons, List.map_nil]); first | done | rfl) ?_; (with_reducible refine (handshakerref08_Check.calls k _ _ t272 t276 _ ?side1 ?side2 A9.out).mono ?_); (case side1 => repeat (first | exact (Kd.S_reads' HO274.out).2.2 | with_reducible first | refine Kd.C_alloc ?_ _ | refine Kd.C_drewN ?_ _ | refine Kd.C_drew ?_)); (case side2 => exact (Kd.S_reads' HO274.out).2.1); rintro e w23 ⟨rfl, hb⟩; refine ⟨_, rfl, ?_⟩; have n0_ := Aside0.mk (Kd.S_below (by (with_reducible repeat (first | apply Kd.S_alloc | apply Kd.S_drewN | apply Kd.S_drew)); exact HO274.out) hb); have n1_ := Aside0.mk (bst_ hb); clear HO274; clear HB; have HO274 := n0_; have HB := n1_; clear n0_ n1_; (try clear hb); (try clear hb2); (try clear hk); (try clear hi)) | (go_at_call 20; (with_reducible refine (code_Deep.calls k _ _ l0 t277 _ ?side1 ?side2 A11.out).mono ?_); (case side1 => repeat (first | exact (Kd.C_below HR0.out HB.out) | with_reducible first | refine Kd.C_alloc ?_ _ | refine Kd.C_drewN ?_ _ | refine Kd.C_drew ?_)); (case side2 => exact HC0.out); rintro e w24 ⟨rfl, hb⟩; have n0_ := Aside0.mk (Kd.S_below (by (with_reducible repeat (first | apply Kd.S_alloc | apply Kd.S_drewN | apply Kd.S_drew)); exact HO274.out) hb); have n1_ := Aside0.mk (bst_ hb); clear HO274; clear HB; have HO274 := n0_; have HB := n1_; clear n0_ n1_; (try clear hb); (try clear hb2); (try clear hk); (try clear hi)) | (go_at_call 21; (with_reducible refine (handshakerref08_Deep.calls k _ _ t272 t278 _ ?side1 ?side2 A12.out).mono ?_); (case side1 => repeat (first | exact (Kd.S_reads' HO274.out).2.2 | with_reducible first | refine Kd.C_alloc ?_ _ | refine Kd.C_drewN ?_ _ | refine Kd.C_drew ?_)); (case side2 => exact (Kd.S_reads' HO274.out).2.1); rintro e w25 ⟨rfl, hb⟩; have n0_ := Aside0.mk (Kd.S_below (by (with_reducible repeat (first | apply Kd.S_alloc | apply Kd.S_drewN | apply Kd.S_drew)); exact HO274.out) hb); have n1_ := Aside0.mk (bst_ hb); clear HO274; clear HB; have HO274 := n0_; have HB := n1_; clear n0_ n1_; (try clear hb); (try clear hb2); (try clear hk); (try clear hi)) | (go_at_call 23; (with_reducible refine (code_Cells.calls k _ _ l0 t279 _ ?side1 ?side2 A14.out).mono ?_); (case side1 => repeat (first | exact (Kd.C_below HR0.out HB.out) | with_reducible first | refine Kd.C_alloc ?_ _ | refine Kd.C_drewN ?_ _ | refine Kd.C_drew ?_)); (case side2 => exact HC0.out); rintro e w26 ⟨v280, rfl, ho0, hb⟩; have n0_ := Aside0.mk (Kd.S_below (by (with_reducible repeat (first | apply Kd.S_alloc | apply Kd.S_drewN | apply Kd.S_drew)); exact HO274.out) hb); have n1_ := Aside0.mk (Kd.R_lower ho0 bsz_); have n2_ := Aside0.mk (bst_ hb); clear HO274; clear HB; have HO274 := n0_; have HO281 := n1_; have HB := n2_; clear n0_ n1_ n2_; (try clear hb); (try clear hb2); (try clear hk); (try clear hi); (try clear ho0)) | (go_at_call 24; (with_reducible refine (handshakerref08_Cells.calls k _ _ t272 t282 _ ?side1 ?side2 A15.out).mono ?_); (case side1 => repeat (first | exact (Kd.S_reads' HO274.out).2.2 | with_reducible first | refine Kd.C_alloc ?_ _ | refine Kd.C_drewN ?_ _ | refine Kd.C_drew ?_)); (case side2 => exact (Kd.S_reads' HO274.out).2.1); rintro e w27 ⟨v283, rfl, ho0, hb⟩; have n0_ := Aside0.mk (Kd.S_below (by (with_reducible repeat (first | apply Kd.S_alloc | apply Kd.S_drewN | apply Kd.S_drew)); exact HO274.out) hb); have n1_ := Aside0.mk (Kd.R_elder' (by (with_reducible repeat (first | apply Kd.R_alloc | apply Kd.R_drewN | apply Kd.R_drew)); exact HO281.out) (Kd.R_base ho0) hb); have n2_ := Aside0.mk (Kd.R_lower (Kd.R_new' ho0 (Kd.R_lt (by (with_reducible repeat (first | apply Kd.R_alloc | apply Kd.R_drewN | apply Kd.R_drew)); exact HO281.out))) bsz_); have n3_ := Aside0.mk (bst_ hb); clear HO274; clear HO281; clear HB; have HO274 := n0_; have HO281 := n1_; have HO284 := n2_; have HB := n3_; clear n0_ n1_ n2_ n3_; (try clear hb); (try clear hb2); (try clear hk); (try clear hi); (try clear ho0); obtain ⟨Ao28, co28, eo28⟩ := Kd.R_slice HO281.out; subst eo28; obtain ⟨Ao29, co29, eo29⟩ := Kd.R_slice HO284.out; subst eo29) | (go_at_call 22; (with_reducible refine (handshakerref03_Numbers.calls k _ _ t279 _ _ t282 true _ ?side1 ?side2 ?side3 ?side4 A16.out).mono ?_); (case side1 => repeat (first | exact (Kd.R_reads' HO281.out).2.2 | with_reducible first | refine Kd.C_alloc ?_ _ | refine Kd.C_drewN ?_ _ | refine Kd.C_drew ?_)); (case side2 => exact (Kd.R_reads' HO281.out).2.1); (case side3 => repeat (first | exact (Kd.R_reads' HO284.out).2.2 | with_reducible first | refine Kd.C_alloc ?_ _ | refine Kd.C_drewN ?_ _ | refine Kd.C_drew ?_)); (case side4 => exact (Kd.R_reads' HO284.out).2.1); rintro e w' ⟨rfl, ⟨nd, rfl⟩⟩) | (go_at_call 16; (with_reducible refine (handshakerlaw08_awake.calls k  t286 _ A18.out).mono ?_); rintro e w30 ⟨rfl, hb⟩; have n0_ := Aside0.mk (Kd.S_below (by (with_reducible repeat (first | apply Kd.S_alloc | apply Kd.S_drewN | apply Kd.S_drew)); exact HO274.out) hb); have n1_ := Aside0.mk (Kd.R_below (by (with_reducible repeat (first | apply Kd.R_alloc | apply Kd.R_drewN | apply Kd.R_drew)); exact HO281.out) hb); have n2_ := Aside0.mk (Kd.R_below (by (with_reducible repeat (first | apply Kd.R_alloc | apply Kd.R_drewN | apply Kd.R_drew)); exact HO284.out) hb); have n3_ := Aside0.mk (bst_ hb); clear HO274; clear HO281; clear HO284; clear HB; have HO274 := n0_; have HO281 := n1_; have HO284 := n2_; have HB := n3_; clear n0_ n1_ n2_ n3_; (try clear hb); (try clear hb2); (try clear hk); (try clear hi)))
         go_ret
         exact ⟨by first | rfl | (simp [errW_none, errW_some] <;> rfl) | (simp [*, errW_none, errW_some] <;> rfl), by repeat (with_reducible first | exact HB.out | apply below_alloc | apply pw_below_drewN | apply below_drew1)⟩
       · replace c17 := Bool.eq_false_iff.mpr c17
         subst c17
         have H1 : (some false) = some r := by rw [if_neg (show ¬ (false = true) by decide)] at H; exact H
         clear H
         have H := H1
         clear H1
         exact absurd (Option.some.inj H) (by rw [HT.out]; decide)
     · rw [if_neg c13] at H
       have c13b0 : (t277 == t278) = false := beq_eq_false_iff_ne.mpr c13
       have c13b1 : (t277 != t278) = true := bne_iff_ne.mpr c13
       exact absurd (Option.some.inj H) (by rw [HT.out]; decide)
   · rw [if_neg c10] at H
     have c10b0 : (t275 == t276) = false := beq_eq_false_iff_ne.mpr c10
     have c10b1 : (t275 != t276) = true := bne_iff_ne.mpr c10
     exact absurd (Option.some.inj H) (by rw [HT.out]; decide)

/-- THE ONE PURE STATEMENT of handshakerlaw08_CodeTells. -/
def handshakerlaw08_CodeTells.Pure : Prop := ∀ (l0 : List (S37)), l0.length ≤ maxLen → l0.length * 48 ≤ 140737488351232 → (∀ y ∈ l0, wfS37 y) → ∃ k, handshakerlaw08_CodeTells.f k l0 = some true

end Go.Proofs.Ytbcpnbmegaodbaa.Ct
