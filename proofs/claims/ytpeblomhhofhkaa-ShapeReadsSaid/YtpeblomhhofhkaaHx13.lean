-- PRINTED by print.py (a twelfth state) out of the translation. Not trusted: Lean checks it.
import Derived.Test.YtpeblomhhofhkaaHx0
import Derived.Test.YtpeblomhhofhkaaHx12
namespace Go.Proofs.Ytpeblomhhofhkaa.H
open Go.Proofs.Ytpeblomhhofhkaa.Ho
open Go.RowKit Go.Proofs.YtpeblomhhofhkaaW.PrintWords Go.Proofs.YtpeblomhhofhkaaW.PrintLast Go.Proofs.YtpeblomhhofhkaaW.PrintMore
attribute [local go_sem] max2_int min2_int max_two min_two max_three min_three max_four min_four   -- for this text's walks alone
set_option linter.unusedVariables false
set_option linter.unusedSimpArgs false

/-! ### handshakerref08_one: function 25 -/
def handshakerref08_one.f (k : Nat) (a0_0 : Int) (a0_1 : Int) (a0_2 : Int) (l0_3 : List (S66)) : Option (Bool) := (handshakerref08_reckons.f k l0_3).bind fun t274 => (if a0_0 = 1 then (if (l0_3.length : Int) = 0 then (if a0_1 ≥ 0 then (if a0_1 ≤ 7 then (if a0_2 ≥ 0 then (some (decide (a0_2 ≤ 63))) else (some false)) else (some false)) else (some false)) else (some false)) else (if a0_0 = 2 then (if t274 = true then (if a0_1 ≥ 0 then (if a0_1 ≤ 7 then (some (a0_2 == 0)) else (some false)) else (some false)) else (some false)) else (if a0_0 = 3 then (if t274 = true then (if a0_1 ≥ 0 then (if a0_1 ≤ 63 then (some (a0_2 == 0)) else (some false)) else (some false)) else (some false)) else (if a0_0 = 4 then (if t274 = true then (if a0_1 ≥ 1 then (if a0_1 ≤ 24 then (some (a0_2 == 0)) else (some false)) else (some false)) else (some false)) else (if a0_0 = 5 then (if (l0_3.length : Int) = 0 then (if a0_1 = 0 then (some (a0_2 == 0)) else (some false)) else (some false)) else (if a0_0 = 6 then (if (l0_3.length : Int) = 0 then (if a0_1 ≥ 0 then (if a0_1 ≤ 255 then (some (a0_2 == 0)) else (some false)) else (some false)) else (some false)) else (if a0_0 = 7 then (if (l0_3.length : Int) = 0 then (if a0_1 ≥ 1 then (if a0_1 ≤ 24 then (if a0_2 ≥ 1 then (some (decide (a0_2 ≤ 24))) else (some false)) else (some false)) else (some false)) else (some false)) else (some false))))))))
theorem handshakerref08_one.mono : ∀ a0 a1 a2 a3 k, LeO (handshakerref08_one.f k a0 a1 a2 a3) (handshakerref08_one.f (k + 1) a0 a1 a2 a3) := by
 intro a0 a1 a2 a3 k
 unfold handshakerref08_one.f
 repeat' first
  | (with_reducible exact handshakerref08_reckons.mono _ _)
  | (with_reducible exact LeO.refl _)
  | (with_reducible exact LeO.none _)
  | (with_reducible refine LeO.ite ?_ ?_)
  | (with_reducible refine LeO.bind ?_ (fun _ => ?_))
  | exact handshakerref08_reckons.mono _ _
  | exact LeO.none _
  | refine LeO.ite ?_ ?_
  | refine LeO.bind ?_ (fun _ => ?_)
set_option maxHeartbeats 8000000 in
set_option maxRecDepth 100000 in
theorem handshakerref08_one.calls (k : Nat) (a0_0 : Int) (a0_1 : Int) (a0_2 : Int) (A0_3 : Option Addr) (c0_3 : Nat) (l0_3 : List (S66)) (r : Bool) (w : World) (hr0_3 : Kd.C k66 w A0_3 l0_3.length l0_3) (hc0_3 : l0_3.length ≤ c0_3) (h : handshakerref08_one.f k a0_0 a0_1 a0_2 l0_3 = some r) :
 Calls Try.prog 25 #[.agg #[.int .i64 a0_0, .int .i64 a0_1, .int .i64 a0_2, .slice A0_3 l0_3.length c0_3]] w fun e w' => e = .returned (.bool r) ∧ Below w.heap.size w w' := by
 have hu62 := Try.underlying62
 have HR0_3 := ak hr0_3
 have HC0_3 := ak hc0_3
 clear hr0_3 hc0_3
 have HB := ak (Below.refl w.heap.size w)
 have H : ((handshakerref08_reckons.f k l0_3).bind fun t274 => (if a0_0 = 1 then (if (l0_3.length : Int) = 0 then (if a0_1 ≥ 0 then (if a0_1 ≤ 7 then (if a0_2 ≥ 0 then (some (decide (a0_2 ≤ 63))) else (some false)) else (some false)) else (some false)) else (some false)) else (if a0_0 = 2 then (if t274 = true then (if a0_1 ≥ 0 then (if a0_1 ≤ 7 then (some (a0_2 == 0)) else (some false)) else (some false)) else (some false)) else (if a0_0 = 3 then (if t274 = true then (if a0_1 ≥ 0 then (if a0_1 ≤ 63 then (some (a0_2 == 0)) else (some false)) else (some false)) else (some false)) else (if a0_0 = 4 then (if t274 = true then (if a0_1 ≥ 1 then (if a0_1 ≤ 24 then (some (a0_2 == 0)) else (some false)) else (some false)) else (some false)) else (if a0_0 = 5 then (if (l0_3.length : Int) = 0 then (if a0_1 = 0 then (some (a0_2 == 0)) else (some false)) else (some false)) else (if a0_0 = 6 then (if (l0_3.length : Int) = 0 then (if a0_1 ≥ 0 then (if a0_1 ≤ 255 then (some (a0_2 == 0)) else (some false)) else (some false)) else (some false)) else (if a0_0 = 7 then (if (l0_3.length : Int) = 0 then (if a0_1 ≥ 1 then (if a0_1 ≤ 24 then (if a0_2 ≥ 1 then (some (decide (a0_2 ≤ 24))) else (some false)) else (some false)) else (some false)) else (some false)) else (some false))))))))) = some r := h
 clear h
 obtain ⟨t274, A2, H⟩ := bd_ H
 by_cases c3 : a0_0 = 1
 · rw [if_pos c3] at H
   have c3b0 : (a0_0 == 1) = true := beq_iff_eq.mpr c3
   have c3b1 : (a0_0 != 1) = false := bne_eq_false_iff_eq.mpr c3
   clear c3
   by_cases c4 : (l0_3.length : Int) = 0
   rotate_left
   · rw [if_neg c4] at H
     have c4b0 : ((l0_3.length : Int) == 0) = false := beq_eq_false_iff_ne.mpr c4
     have c4b1 : ((l0_3.length : Int) != 0) = true := bne_iff_ne.mpr c4
     have c4b2 : ¬ (l0_3 = []) := fun h_ => c4 (by rw [h_]; rfl)
     obtain rfl := Option.some.inj H
     go_enter Try.func25, Try.ntmps25
     go_wp2_with (first | ((with_reducible refine gate_dst (N := 1) rfl ?_); refine box_event ?hg (N := 1) ?hd (cs := #[.int .i64 a0_0, .int .i64 a0_1, .int .i64 a0_2, .slice A0_3 l0_3.length c0_3]) (t := 62) ?hr ?_; (case hd => rfl); (case hg => rfl); (case hr => first | (go_simp; done) | (go_simp; rfl)); intro gb273 hg w24 hbox hb; replace BK273 := ak (hbox); replace GW273 := ak ((by rw [hg]; exact bsz_ : w.heap.size ≤ gb273)); replace HB := ak (bst_ hb); replace GE273 := GW273; clear hb hbox hg; obtain ⟨hcz25_0, hcz25_1, hcz25_2, hcz25_3, hfz25_0, hfz25_1, hfz25_2, hfz25_3⟩ := bz4_ BK273) | ((with_reducible refine gate_callee (f := 39) rfl ?_); refine goesL_ (some 7) rfl rfl Try.func39 (by kernel_rfl) rfl #[.slice A0_3 l0_3.length c0_3] rfl mp_ ?_; (with_reducible refine (handshakerref08_reckons.calls k _ _ l0_3 t274 _ ?side1 ?side2 A2.out).mono ?_); (case side1 => exact cb_ HR0_3 HB); (case side2 => exact HC0_3.out); rintro e w26 ⟨rfl, hb⟩; refine ⟨_, rfl, ?_⟩; replace BK273 := bb_ BK273 hb; replace HB := ak (below_step bsw_ hb); (try clear hb); obtain ⟨hcz27_0, hcz27_1, hcz27_2, hcz27_3, hfz27_0, hfz27_1, hfz27_2, hfz27_3⟩ := bz4_ BK273))
     go_ret
     exact ⟨by first | rfl | (simp [errW_none, errW_some] <;> rfl) | (simp [*, errW_none, errW_some] <;> rfl), bsw_⟩
   rw [if_pos c4] at H
   have c4b0 : ((l0_3.length : Int) == 0) = true := beq_iff_eq.mpr c4
   have c4b1 : ((l0_3.length : Int) != 0) = false := bne_eq_false_iff_eq.mpr c4
   clear c4
   by_cases c5 : a0_1 ≥ 0
   rotate_left
   · rw [if_neg c5] at H
     have c5b0 : decide (0 ≤ a0_1) = false := decide_eq_false c5
     clear c5
     obtain rfl := Option.some.inj H
     go_enter Try.func25, Try.ntmps25
     go_wp2_with (first | ((with_reducible refine gate_dst (N := 1) rfl ?_); refine box_event ?hg (N := 1) ?hd (cs := #[.int .i64 a0_0, .int .i64 a0_1, .int .i64 a0_2, .slice A0_3 l0_3.length c0_3]) (t := 62) ?hr ?_; (case hd => rfl); (case hg => rfl); (case hr => first | (go_simp; done) | (go_simp; rfl)); intro gb273 hg w20 hbox hb; replace BK273 := ak (hbox); replace GW273 := ak ((by rw [hg]; exact bsz_ : w.heap.size ≤ gb273)); replace HB := ak (bst_ hb); replace GE273 := GW273; clear hb hbox hg; obtain ⟨hcz21_0, hcz21_1, hcz21_2, hcz21_3, hfz21_0, hfz21_1, hfz21_2, hfz21_3⟩ := bz4_ BK273) | ((with_reducible refine gate_callee (f := 39) rfl ?_); refine goesL_ (some 7) rfl rfl Try.func39 (by kernel_rfl) rfl #[.slice A0_3 l0_3.length c0_3] rfl mp_ ?_; (with_reducible refine (handshakerref08_reckons.calls k _ _ l0_3 t274 _ ?side1 ?side2 A2.out).mono ?_); (case side1 => exact cb_ HR0_3 HB); (case side2 => exact HC0_3.out); rintro e w22 ⟨rfl, hb⟩; refine ⟨_, rfl, ?_⟩; replace BK273 := bb_ BK273 hb; replace HB := ak (below_step bsw_ hb); (try clear hb); obtain ⟨hcz23_0, hcz23_1, hcz23_2, hcz23_3, hfz23_0, hfz23_1, hfz23_2, hfz23_3⟩ := bz4_ BK273))
     go_ret
     exact ⟨by first | rfl | (simp [errW_none, errW_some] <;> rfl) | (simp [*, errW_none, errW_some] <;> rfl), bsw_⟩
   rw [if_pos c5] at H
   have c5b0 : decide (0 ≤ a0_1) = true := decide_eq_true c5
   clear c5
   by_cases c6 : a0_1 ≤ 7
   rotate_left
   · rw [if_neg c6] at H
     have c6b0 : decide (a0_1 ≤ 7) = false := decide_eq_false c6
     clear c6
     obtain rfl := Option.some.inj H
     go_enter Try.func25, Try.ntmps25
     go_wp2_with (first | ((with_reducible refine gate_dst (N := 1) rfl ?_); refine box_event ?hg (N := 1) ?hd (cs := #[.int .i64 a0_0, .int .i64 a0_1, .int .i64 a0_2, .slice A0_3 l0_3.length c0_3]) (t := 62) ?hr ?_; (case hd => rfl); (case hg => rfl); (case hr => first | (go_simp; done) | (go_simp; rfl)); intro gb273 hg w16 hbox hb; replace BK273 := ak (hbox); replace GW273 := ak ((by rw [hg]; exact bsz_ : w.heap.size ≤ gb273)); replace HB := ak (bst_ hb); replace GE273 := GW273; clear hb hbox hg; obtain ⟨hcz17_0, hcz17_1, hcz17_2, hcz17_3, hfz17_0, hfz17_1, hfz17_2, hfz17_3⟩ := bz4_ BK273) | ((with_reducible refine gate_callee (f := 39) rfl ?_); refine goesL_ (some 7) rfl rfl Try.func39 (by kernel_rfl) rfl #[.slice A0_3 l0_3.length c0_3] rfl mp_ ?_; (with_reducible refine (handshakerref08_reckons.calls k _ _ l0_3 t274 _ ?side1 ?side2 A2.out).mono ?_); (case side1 => exact cb_ HR0_3 HB); (case side2 => exact HC0_3.out); rintro e w18 ⟨rfl, hb⟩; refine ⟨_, rfl, ?_⟩; replace BK273 := bb_ BK273 hb; replace HB := ak (below_step bsw_ hb); (try clear hb); obtain ⟨hcz19_0, hcz19_1, hcz19_2, hcz19_3, hfz19_0, hfz19_1, hfz19_2, hfz19_3⟩ := bz4_ BK273))
     go_ret
     exact ⟨by first | rfl | (simp [errW_none, errW_some] <;> rfl) | (simp [*, errW_none, errW_some] <;> rfl), bsw_⟩
   rw [if_pos c6] at H
   have c6b0 : decide (a0_1 ≤ 7) = true := decide_eq_true c6
   clear c6
   by_cases c7 : a0_2 ≥ 0
   rotate_left
   · rw [if_neg c7] at H
     have c7b0 : decide (0 ≤ a0_2) = false := decide_eq_false c7
     clear c7
     obtain rfl := Option.some.inj H
     go_enter Try.func25, Try.ntmps25
     go_wp2_with (first | ((with_reducible refine gate_dst (N := 1) rfl ?_); refine box_event ?hg (N := 1) ?hd (cs := #[.int .i64 a0_0, .int .i64 a0_1, .int .i64 a0_2, .slice A0_3 l0_3.length c0_3]) (t := 62) ?hr ?_; (case hd => rfl); (case hg => rfl); (case hr => first | (go_simp; done) | (go_simp; rfl)); intro gb273 hg w12 hbox hb; replace BK273 := ak (hbox); replace GW273 := ak ((by rw [hg]; exact bsz_ : w.heap.size ≤ gb273)); replace HB := ak (bst_ hb); replace GE273 := GW273; clear hb hbox hg; obtain ⟨hcz13_0, hcz13_1, hcz13_2, hcz13_3, hfz13_0, hfz13_1, hfz13_2, hfz13_3⟩ := bz4_ BK273) | ((with_reducible refine gate_callee (f := 39) rfl ?_); refine goesL_ (some 7) rfl rfl Try.func39 (by kernel_rfl) rfl #[.slice A0_3 l0_3.length c0_3] rfl mp_ ?_; (with_reducible refine (handshakerref08_reckons.calls k _ _ l0_3 t274 _ ?side1 ?side2 A2.out).mono ?_); (case side1 => exact cb_ HR0_3 HB); (case side2 => exact HC0_3.out); rintro e w14 ⟨rfl, hb⟩; refine ⟨_, rfl, ?_⟩; replace BK273 := bb_ BK273 hb; replace HB := ak (below_step bsw_ hb); (try clear hb); obtain ⟨hcz15_0, hcz15_1, hcz15_2, hcz15_3, hfz15_0, hfz15_1, hfz15_2, hfz15_3⟩ := bz4_ BK273))
     go_ret
     exact ⟨by first | rfl | (simp [errW_none, errW_some] <;> rfl) | (simp [*, errW_none, errW_some] <;> rfl), bsw_⟩
   rw [if_pos c7] at H
   have c7b0 : decide (0 ≤ a0_2) = true := decide_eq_true c7
   clear c7
   obtain rfl := Option.some.inj H
   go_enter Try.func25, Try.ntmps25
   go_wp2_with (first | ((with_reducible refine gate_dst (N := 1) rfl ?_); refine box_event ?hg (N := 1) ?hd (cs := #[.int .i64 a0_0, .int .i64 a0_1, .int .i64 a0_2, .slice A0_3 l0_3.length c0_3]) (t := 62) ?hr ?_; (case hd => rfl); (case hg => rfl); (case hr => first | (go_simp; done) | (go_simp; rfl)); intro gb273 hg w8 hbox hb; replace BK273 := ak (hbox); replace GW273 := ak ((by rw [hg]; exact bsz_ : w.heap.size ≤ gb273)); replace HB := ak (bst_ hb); replace GE273 := GW273; clear hb hbox hg; obtain ⟨hcz9_0, hcz9_1, hcz9_2, hcz9_3, hfz9_0, hfz9_1, hfz9_2, hfz9_3⟩ := bz4_ BK273) | ((with_reducible refine gate_callee (f := 39) rfl ?_); refine goesL_ (some 7) rfl rfl Try.func39 (by kernel_rfl) rfl #[.slice A0_3 l0_3.length c0_3] rfl mp_ ?_; (with_reducible refine (handshakerref08_reckons.calls k _ _ l0_3 t274 _ ?side1 ?side2 A2.out).mono ?_); (case side1 => exact cb_ HR0_3 HB); (case side2 => exact HC0_3.out); rintro e w10 ⟨rfl, hb⟩; refine ⟨_, rfl, ?_⟩; replace BK273 := bb_ BK273 hb; replace HB := ak (below_step bsw_ hb); (try clear hb); obtain ⟨hcz11_0, hcz11_1, hcz11_2, hcz11_3, hfz11_0, hfz11_1, hfz11_2, hfz11_3⟩ := bz4_ BK273))
   go_ret
   exact ⟨by first | rfl | (simp [errW_none, errW_some] <;> rfl) | (simp [*, errW_none, errW_some] <;> rfl), bsw_⟩
 rw [if_neg c3] at H
 have c3b0 : (a0_0 == 1) = false := beq_eq_false_iff_ne.mpr c3
 have c3b1 : (a0_0 != 1) = true := bne_iff_ne.mpr c3
 by_cases c28 : a0_0 = 2
 · rw [if_pos c28] at H
   have c28b0 : (a0_0 == 2) = true := beq_iff_eq.mpr c28
   have c28b1 : (a0_0 != 2) = false := bne_eq_false_iff_eq.mpr c28
   clear c28
   by_cases c29 : t274 = true
   rotate_left
   · replace c29 := Bool.eq_false_iff.mpr c29
     subst c29
     rw [if_neg (show ¬ (false = true) by decide)] at H
     obtain rfl := Option.some.inj H
     go_enter Try.func25, Try.ntmps25
     go_wp2_with (first | ((with_reducible refine gate_dst (N := 1) rfl ?_); refine box_event ?hg (N := 1) ?hd (cs := #[.int .i64 a0_0, .int .i64 a0_1, .int .i64 a0_2, .slice A0_3 l0_3.length c0_3]) (t := 62) ?hr ?_; (case hd => rfl); (case hg => rfl); (case hr => first | (go_simp; done) | (go_simp; rfl)); intro gb273 hg w44 hbox hb; replace BK273 := ak (hbox); replace GW273 := ak ((by rw [hg]; exact bsz_ : w.heap.size ≤ gb273)); replace HB := ak (bst_ hb); replace GE273 := GW273; clear hb hbox hg; obtain ⟨hcz45_0, hcz45_1, hcz45_2, hcz45_3, hfz45_0, hfz45_1, hfz45_2, hfz45_3⟩ := bz4_ BK273) | ((with_reducible refine gate_callee (f := 39) rfl ?_); refine goesL_ (some 7) rfl rfl Try.func39 (by kernel_rfl) rfl #[.slice A0_3 l0_3.length c0_3] rfl mp_ ?_; (with_reducible refine (handshakerref08_reckons.calls k _ _ l0_3 false _ ?side1 ?side2 A2.out).mono ?_); (case side1 => exact cb_ HR0_3 HB); (case side2 => exact HC0_3.out); rintro e w46 ⟨rfl, hb⟩; refine ⟨_, rfl, ?_⟩; replace BK273 := bb_ BK273 hb; replace HB := ak (below_step bsw_ hb); (try clear hb); obtain ⟨hcz47_0, hcz47_1, hcz47_2, hcz47_3, hfz47_0, hfz47_1, hfz47_2, hfz47_3⟩ := bz4_ BK273))
     go_ret
     exact ⟨by first | rfl | (simp [errW_none, errW_some] <;> rfl) | (simp [*, errW_none, errW_some] <;> rfl), bsw_⟩
   subst c29
   rw [if_pos rfl] at H
   by_cases c30 : a0_1 ≥ 0
   rotate_left
   · rw [if_neg c30] at H
     have c30b0 : decide (0 ≤ a0_1) = false := decide_eq_false c30
     clear c30
     obtain rfl := Option.some.inj H
     go_enter Try.func25, Try.ntmps25
     go_wp2_with (first | ((with_reducible refine gate_dst (N := 1) rfl ?_); refine box_event ?hg (N := 1) ?hd (cs := #[.int .i64 a0_0, .int .i64 a0_1, .int .i64 a0_2, .slice A0_3 l0_3.length c0_3]) (t := 62) ?hr ?_; (case hd => rfl); (case hg => rfl); (case hr => first | (go_simp; done) | (go_simp; rfl)); intro gb273 hg w40 hbox hb; replace BK273 := ak (hbox); replace GW273 := ak ((by rw [hg]; exact bsz_ : w.heap.size ≤ gb273)); replace HB := ak (bst_ hb); replace GE273 := GW273; clear hb hbox hg; obtain ⟨hcz41_0, hcz41_1, hcz41_2, hcz41_3, hfz41_0, hfz41_1, hfz41_2, hfz41_3⟩ := bz4_ BK273) | ((with_reducible refine gate_callee (f := 39) rfl ?_); refine goesL_ (some 7) rfl rfl Try.func39 (by kernel_rfl) rfl #[.slice A0_3 l0_3.length c0_3] rfl mp_ ?_; (with_reducible refine (handshakerref08_reckons.calls k _ _ l0_3 true _ ?side1 ?side2 A2.out).mono ?_); (case side1 => exact cb_ HR0_3 HB); (case side2 => exact HC0_3.out); rintro e w42 ⟨rfl, hb⟩; refine ⟨_, rfl, ?_⟩; replace BK273 := bb_ BK273 hb; replace HB := ak (below_step bsw_ hb); (try clear hb); obtain ⟨hcz43_0, hcz43_1, hcz43_2, hcz43_3, hfz43_0, hfz43_1, hfz43_2, hfz43_3⟩ := bz4_ BK273))
     go_ret
     exact ⟨by first | rfl | (simp [errW_none, errW_some] <;> rfl) | (simp [*, errW_none, errW_some] <;> rfl), bsw_⟩
   rw [if_pos c30] at H
   have c30b0 : decide (0 ≤ a0_1) = true := decide_eq_true c30
   clear c30
   by_cases c31 : a0_1 ≤ 7
   rotate_left
   · rw [if_neg c31] at H
     have c31b0 : decide (a0_1 ≤ 7) = false := decide_eq_false c31
     clear c31
     obtain rfl := Option.some.inj H
     go_enter Try.func25, Try.ntmps25
     go_wp2_with (first | ((with_reducible refine gate_dst (N := 1) rfl ?_); refine box_event ?hg (N := 1) ?hd (cs := #[.int .i64 a0_0, .int .i64 a0_1, .int .i64 a0_2, .slice A0_3 l0_3.length c0_3]) (t := 62) ?hr ?_; (case hd => rfl); (case hg => rfl); (case hr => first | (go_simp; done) | (go_simp; rfl)); intro gb273 hg w36 hbox hb; replace BK273 := ak (hbox); replace GW273 := ak ((by rw [hg]; exact bsz_ : w.heap.size ≤ gb273)); replace HB := ak (bst_ hb); replace GE273 := GW273; clear hb hbox hg; obtain ⟨hcz37_0, hcz37_1, hcz37_2, hcz37_3, hfz37_0, hfz37_1, hfz37_2, hfz37_3⟩ := bz4_ BK273) | ((with_reducible refine gate_callee (f := 39) rfl ?_); refine goesL_ (some 7) rfl rfl Try.func39 (by kernel_rfl) rfl #[.slice A0_3 l0_3.length c0_3] rfl mp_ ?_; (with_reducible refine (handshakerref08_reckons.calls k _ _ l0_3 true _ ?side1 ?side2 A2.out).mono ?_); (case side1 => exact cb_ HR0_3 HB); (case side2 => exact HC0_3.out); rintro e w38 ⟨rfl, hb⟩; refine ⟨_, rfl, ?_⟩; replace BK273 := bb_ BK273 hb; replace HB := ak (below_step bsw_ hb); (try clear hb); obtain ⟨hcz39_0, hcz39_1, hcz39_2, hcz39_3, hfz39_0, hfz39_1, hfz39_2, hfz39_3⟩ := bz4_ BK273))
     go_ret
     exact ⟨by first | rfl | (simp [errW_none, errW_some] <;> rfl) | (simp [*, errW_none, errW_some] <;> rfl), bsw_⟩
   rw [if_pos c31] at H
   have c31b0 : decide (a0_1 ≤ 7) = true := decide_eq_true c31
   clear c31
   obtain rfl := Option.some.inj H
   go_enter Try.func25, Try.ntmps25
   go_wp2_with (first | ((with_reducible refine gate_dst (N := 1) rfl ?_); refine box_event ?hg (N := 1) ?hd (cs := #[.int .i64 a0_0, .int .i64 a0_1, .int .i64 a0_2, .slice A0_3 l0_3.length c0_3]) (t := 62) ?hr ?_; (case hd => rfl); (case hg => rfl); (case hr => first | (go_simp; done) | (go_simp; rfl)); intro gb273 hg w32 hbox hb; replace BK273 := ak (hbox); replace GW273 := ak ((by rw [hg]; exact bsz_ : w.heap.size ≤ gb273)); replace HB := ak (bst_ hb); replace GE273 := GW273; clear hb hbox hg; have hcz33_3 : w32.cell? ⟨gb273, 3, none⟩ = some (.slice A0_3 l0_3.length c0_3) := (blk_cell BK273.out 3).trans rfl; have hfz33_3 := blk_frozen BK273.out 3) | ((with_reducible refine gate_callee (f := 39) rfl ?_); refine goesL_ (some 7) rfl rfl Try.func39 (by kernel_rfl) rfl #[.slice A0_3 l0_3.length c0_3] rfl mp_ ?_; (with_reducible refine (handshakerref08_reckons.calls k _ _ l0_3 true _ ?side1 ?side2 A2.out).mono ?_); (case side1 => exact cb_ HR0_3 HB); (case side2 => exact HC0_3.out); rintro e w34 ⟨rfl, hb⟩; refine ⟨_, rfl, ?_⟩; replace BK273 := bb_ BK273 hb; replace HB := ak (below_step bsw_ hb); (try clear hb); obtain ⟨hcz35_0, hcz35_1, hcz35_2, hcz35_3, hfz35_0, hfz35_1, hfz35_2, hfz35_3⟩ := bz4_ BK273))
   go_ret
   exact ⟨by first | rfl | (simp [errW_none, errW_some] <;> rfl) | (simp [*, errW_none, errW_some] <;> rfl), bsw_⟩
 rw [if_neg c28] at H
 have c28b0 : (a0_0 == 2) = false := beq_eq_false_iff_ne.mpr c28
 have c28b1 : (a0_0 != 2) = true := bne_iff_ne.mpr c28
 by_cases c48 : a0_0 = 3
 · rw [if_pos c48] at H
   have c48b0 : (a0_0 == 3) = true := beq_iff_eq.mpr c48
   have c48b1 : (a0_0 != 3) = false := bne_eq_false_iff_eq.mpr c48
   clear c48
   by_cases c49 : t274 = true
   rotate_left
   · replace c49 := Bool.eq_false_iff.mpr c49
     subst c49
     rw [if_neg (show ¬ (false = true) by decide)] at H
     obtain rfl := Option.some.inj H
     go_enter Try.func25, Try.ntmps25
     go_wp2_with (first | ((with_reducible refine gate_dst (N := 1) rfl ?_); refine box_event ?hg (N := 1) ?hd (cs := #[.int .i64 a0_0, .int .i64 a0_1, .int .i64 a0_2, .slice A0_3 l0_3.length c0_3]) (t := 62) ?hr ?_; (case hd => rfl); (case hg => rfl); (case hr => first | (go_simp; done) | (go_simp; rfl)); intro gb273 hg w64 hbox hb; replace BK273 := ak (hbox); replace GW273 := ak ((by rw [hg]; exact bsz_ : w.heap.size ≤ gb273)); replace HB := ak (bst_ hb); replace GE273 := GW273; clear hb hbox hg; obtain ⟨hcz65_0, hcz65_1, hcz65_2, hcz65_3, hfz65_0, hfz65_1, hfz65_2, hfz65_3⟩ := bz4_ BK273) | ((with_reducible refine gate_callee (f := 39) rfl ?_); refine goesL_ (some 7) rfl rfl Try.func39 (by kernel_rfl) rfl #[.slice A0_3 l0_3.length c0_3] rfl mp_ ?_; (with_reducible refine (handshakerref08_reckons.calls k _ _ l0_3 false _ ?side1 ?side2 A2.out).mono ?_); (case side1 => exact cb_ HR0_3 HB); (case side2 => exact HC0_3.out); rintro e w66 ⟨rfl, hb⟩; refine ⟨_, rfl, ?_⟩; replace BK273 := bb_ BK273 hb; replace HB := ak (below_step bsw_ hb); (try clear hb); obtain ⟨hcz67_0, hcz67_1, hcz67_2, hcz67_3, hfz67_0, hfz67_1, hfz67_2, hfz67_3⟩ := bz4_ BK273))
     go_ret
     exact ⟨by first | rfl | (simp [errW_none, errW_some] <;> rfl) | (simp [*, errW_none, errW_some] <;> rfl), bsw_⟩
   subst c49
   rw [if_pos rfl] at H
   by_cases c50 : a0_1 ≥ 0
   rotate_left
   · rw [if_neg c50] at H
     have c50b0 : decide (0 ≤ a0_1) = false := decide_eq_false c50
     clear c50
     obtain rfl := Option.some.inj H
     go_enter Try.func25, Try.ntmps25
     go_wp2_with (first | ((with_reducible refine gate_dst (N := 1) rfl ?_); refine box_event ?hg (N := 1) ?hd (cs := #[.int .i64 a0_0, .int .i64 a0_1, .int .i64 a0_2, .slice A0_3 l0_3.length c0_3]) (t := 62) ?hr ?_; (case hd => rfl); (case hg => rfl); (case hr => first | (go_simp; done) | (go_simp; rfl)); intro gb273 hg w60 hbox hb; replace BK273 := ak (hbox); replace GW273 := ak ((by rw [hg]; exact bsz_ : w.heap.size ≤ gb273)); replace HB := ak (bst_ hb); replace GE273 := GW273; clear hb hbox hg; obtain ⟨hcz61_0, hcz61_1, hcz61_2, hcz61_3, hfz61_0, hfz61_1, hfz61_2, hfz61_3⟩ := bz4_ BK273) | ((with_reducible refine gate_callee (f := 39) rfl ?_); refine goesL_ (some 7) rfl rfl Try.func39 (by kernel_rfl) rfl #[.slice A0_3 l0_3.length c0_3] rfl mp_ ?_; (with_reducible refine (handshakerref08_reckons.calls k _ _ l0_3 true _ ?side1 ?side2 A2.out).mono ?_); (case side1 => exact cb_ HR0_3 HB); (case side2 => exact HC0_3.out); rintro e w62 ⟨rfl, hb⟩; refine ⟨_, rfl, ?_⟩; replace BK273 := bb_ BK273 hb; replace HB := ak (below_step bsw_ hb); (try clear hb); obtain ⟨hcz63_0, hcz63_1, hcz63_2, hcz63_3, hfz63_0, hfz63_1, hfz63_2, hfz63_3⟩ := bz4_ BK273))
     go_ret
     exact ⟨by first | rfl | (simp [errW_none, errW_some] <;> rfl) | (simp [*, errW_none, errW_some] <;> rfl), bsw_⟩
   rw [if_pos c50] at H
   have c50b0 : decide (0 ≤ a0_1) = true := decide_eq_true c50
   clear c50
   by_cases c51 : a0_1 ≤ 63
   rotate_left
   · rw [if_neg c51] at H
     have c51b0 : decide (a0_1 ≤ 63) = false := decide_eq_false c51
     clear c51
     obtain rfl := Option.some.inj H
     go_enter Try.func25, Try.ntmps25
     go_wp2_with (first | ((with_reducible refine gate_dst (N := 1) rfl ?_); refine box_event ?hg (N := 1) ?hd (cs := #[.int .i64 a0_0, .int .i64 a0_1, .int .i64 a0_2, .slice A0_3 l0_3.length c0_3]) (t := 62) ?hr ?_; (case hd => rfl); (case hg => rfl); (case hr => first | (go_simp; done) | (go_simp; rfl)); intro gb273 hg w56 hbox hb; replace BK273 := ak (hbox); replace GW273 := ak ((by rw [hg]; exact bsz_ : w.heap.size ≤ gb273)); replace HB := ak (bst_ hb); replace GE273 := GW273; clear hb hbox hg; obtain ⟨hcz57_0, hcz57_1, hcz57_2, hcz57_3, hfz57_0, hfz57_1, hfz57_2, hfz57_3⟩ := bz4_ BK273) | ((with_reducible refine gate_callee (f := 39) rfl ?_); refine goesL_ (some 7) rfl rfl Try.func39 (by kernel_rfl) rfl #[.slice A0_3 l0_3.length c0_3] rfl mp_ ?_; (with_reducible refine (handshakerref08_reckons.calls k _ _ l0_3 true _ ?side1 ?side2 A2.out).mono ?_); (case side1 => exact cb_ HR0_3 HB); (case side2 => exact HC0_3.out); rintro e w58 ⟨rfl, hb⟩; refine ⟨_, rfl, ?_⟩; replace BK273 := bb_ BK273 hb; replace HB := ak (below_step bsw_ hb); (try clear hb); obtain ⟨hcz59_0, hcz59_1, hcz59_2, hcz59_3, hfz59_0, hfz59_1, hfz59_2, hfz59_3⟩ := bz4_ BK273))
     go_ret
     exact ⟨by first | rfl | (simp [errW_none, errW_some] <;> rfl) | (simp [*, errW_none, errW_some] <;> rfl), bsw_⟩
   rw [if_pos c51] at H
   have c51b0 : decide (a0_1 ≤ 63) = true := decide_eq_true c51
   clear c51
   obtain rfl := Option.some.inj H
   go_enter Try.func25, Try.ntmps25
   go_wp2_with (first | ((with_reducible refine gate_dst (N := 1) rfl ?_); refine box_event ?hg (N := 1) ?hd (cs := #[.int .i64 a0_0, .int .i64 a0_1, .int .i64 a0_2, .slice A0_3 l0_3.length c0_3]) (t := 62) ?hr ?_; (case hd => rfl); (case hg => rfl); (case hr => first | (go_simp; done) | (go_simp; rfl)); intro gb273 hg w52 hbox hb; replace BK273 := ak (hbox); replace GW273 := ak ((by rw [hg]; exact bsz_ : w.heap.size ≤ gb273)); replace HB := ak (bst_ hb); replace GE273 := GW273; clear hb hbox hg; obtain ⟨hcz53_0, hcz53_1, hcz53_2, hcz53_3, hfz53_0, hfz53_1, hfz53_2, hfz53_3⟩ := bz4_ BK273) | ((with_reducible refine gate_callee (f := 39) rfl ?_); refine goesL_ (some 7) rfl rfl Try.func39 (by kernel_rfl) rfl #[.slice A0_3 l0_3.length c0_3] rfl mp_ ?_; (with_reducible refine (handshakerref08_reckons.calls k _ _ l0_3 true _ ?side1 ?side2 A2.out).mono ?_); (case side1 => exact cb_ HR0_3 HB); (case side2 => exact HC0_3.out); rintro e w54 ⟨rfl, hb⟩; refine ⟨_, rfl, ?_⟩; replace BK273 := bb_ BK273 hb; replace HB := ak (below_step bsw_ hb); (try clear hb); obtain ⟨hcz55_0, hcz55_1, hcz55_2, hcz55_3, hfz55_0, hfz55_1, hfz55_2, hfz55_3⟩ := bz4_ BK273))
   go_ret
   exact ⟨by first | rfl | (simp [errW_none, errW_some] <;> rfl) | (simp [*, errW_none, errW_some] <;> rfl), bsw_⟩
 rw [if_neg c48] at H
 have c48b0 : (a0_0 == 3) = false := beq_eq_false_iff_ne.mpr c48
 have c48b1 : (a0_0 != 3) = true := bne_iff_ne.mpr c48
 by_cases c68 : a0_0 = 4
 · rw [if_pos c68] at H
   have c68b0 : (a0_0 == 4) = true := beq_iff_eq.mpr c68
   have c68b1 : (a0_0 != 4) = false := bne_eq_false_iff_eq.mpr c68
   clear c68
   by_cases c69 : t274 = true
   rotate_left
   · replace c69 := Bool.eq_false_iff.mpr c69
     subst c69
     rw [if_neg (show ¬ (false = true) by decide)] at H
     obtain rfl := Option.some.inj H
     go_enter Try.func25, Try.ntmps25
     go_wp2_with (first | ((with_reducible refine gate_dst (N := 1) rfl ?_); refine box_event ?hg (N := 1) ?hd (cs := #[.int .i64 a0_0, .int .i64 a0_1, .int .i64 a0_2, .slice A0_3 l0_3.length c0_3]) (t := 62) ?hr ?_; (case hd => rfl); (case hg => rfl); (case hr => first | (go_simp; done) | (go_simp; rfl)); intro gb273 hg w84 hbox hb; replace BK273 := ak (hbox); replace GW273 := ak ((by rw [hg]; exact bsz_ : w.heap.size ≤ gb273)); replace HB := ak (bst_ hb); replace GE273 := GW273; clear hb hbox hg; obtain ⟨hcz85_0, hcz85_1, hcz85_2, hcz85_3, hfz85_0, hfz85_1, hfz85_2, hfz85_3⟩ := bz4_ BK273) | ((with_reducible refine gate_callee (f := 39) rfl ?_); refine goesL_ (some 7) rfl rfl Try.func39 (by kernel_rfl) rfl #[.slice A0_3 l0_3.length c0_3] rfl mp_ ?_; (with_reducible refine (handshakerref08_reckons.calls k _ _ l0_3 false _ ?side1 ?side2 A2.out).mono ?_); (case side1 => exact cb_ HR0_3 HB); (case side2 => exact HC0_3.out); rintro e w86 ⟨rfl, hb⟩; refine ⟨_, rfl, ?_⟩; replace BK273 := bb_ BK273 hb; replace HB := ak (below_step bsw_ hb); (try clear hb); obtain ⟨hcz87_0, hcz87_1, hcz87_2, hcz87_3, hfz87_0, hfz87_1, hfz87_2, hfz87_3⟩ := bz4_ BK273))
     go_ret
     exact ⟨by first | rfl | (simp [errW_none, errW_some] <;> rfl) | (simp [*, errW_none, errW_some] <;> rfl), bsw_⟩
   subst c69
   rw [if_pos rfl] at H
   by_cases c70 : a0_1 ≥ 1
   rotate_left
   · rw [if_neg c70] at H
     have c70b0 : decide (1 ≤ a0_1) = false := decide_eq_false c70
     clear c70
     obtain rfl := Option.some.inj H
     go_enter Try.func25, Try.ntmps25
     go_wp2_with (first | ((with_reducible refine gate_dst (N := 1) rfl ?_); refine box_event ?hg (N := 1) ?hd (cs := #[.int .i64 a0_0, .int .i64 a0_1, .int .i64 a0_2, .slice A0_3 l0_3.length c0_3]) (t := 62) ?hr ?_; (case hd => rfl); (case hg => rfl); (case hr => first | (go_simp; done) | (go_simp; rfl)); intro gb273 hg w80 hbox hb; replace BK273 := ak (hbox); replace GW273 := ak ((by rw [hg]; exact bsz_ : w.heap.size ≤ gb273)); replace HB := ak (bst_ hb); replace GE273 := GW273; clear hb hbox hg; obtain ⟨hcz81_0, hcz81_1, hcz81_2, hcz81_3, hfz81_0, hfz81_1, hfz81_2, hfz81_3⟩ := bz4_ BK273) | ((with_reducible refine gate_callee (f := 39) rfl ?_); refine goesL_ (some 7) rfl rfl Try.func39 (by kernel_rfl) rfl #[.slice A0_3 l0_3.length c0_3] rfl mp_ ?_; (with_reducible refine (handshakerref08_reckons.calls k _ _ l0_3 true _ ?side1 ?side2 A2.out).mono ?_); (case side1 => exact cb_ HR0_3 HB); (case side2 => exact HC0_3.out); rintro e w82 ⟨rfl, hb⟩; refine ⟨_, rfl, ?_⟩; replace BK273 := bb_ BK273 hb; replace HB := ak (below_step bsw_ hb); (try clear hb); obtain ⟨hcz83_0, hcz83_1, hcz83_2, hcz83_3, hfz83_0, hfz83_1, hfz83_2, hfz83_3⟩ := bz4_ BK273))
     go_ret
     exact ⟨by first | rfl | (simp [errW_none, errW_some] <;> rfl) | (simp [*, errW_none, errW_some] <;> rfl), bsw_⟩
   rw [if_pos c70] at H
   have c70b0 : decide (1 ≤ a0_1) = true := decide_eq_true c70
   clear c70
   by_cases c71 : a0_1 ≤ 24
   rotate_left
   · rw [if_neg c71] at H
     have c71b0 : decide (a0_1 ≤ 24) = false := decide_eq_false c71
     clear c71
     obtain rfl := Option.some.inj H
     go_enter Try.func25, Try.ntmps25
     go_wp2_with (first | ((with_reducible refine gate_dst (N := 1) rfl ?_); refine box_event ?hg (N := 1) ?hd (cs := #[.int .i64 a0_0, .int .i64 a0_1, .int .i64 a0_2, .slice A0_3 l0_3.length c0_3]) (t := 62) ?hr ?_; (case hd => rfl); (case hg => rfl); (case hr => first | (go_simp; done) | (go_simp; rfl)); intro gb273 hg w76 hbox hb; replace BK273 := ak (hbox); replace GW273 := ak ((by rw [hg]; exact bsz_ : w.heap.size ≤ gb273)); replace HB := ak (bst_ hb); replace GE273 := GW273; clear hb hbox hg; obtain ⟨hcz77_0, hcz77_1, hcz77_2, hcz77_3, hfz77_0, hfz77_1, hfz77_2, hfz77_3⟩ := bz4_ BK273) | ((with_reducible refine gate_callee (f := 39) rfl ?_); refine goesL_ (some 7) rfl rfl Try.func39 (by kernel_rfl) rfl #[.slice A0_3 l0_3.length c0_3] rfl mp_ ?_; (with_reducible refine (handshakerref08_reckons.calls k _ _ l0_3 true _ ?side1 ?side2 A2.out).mono ?_); (case side1 => exact cb_ HR0_3 HB); (case side2 => exact HC0_3.out); rintro e w78 ⟨rfl, hb⟩; refine ⟨_, rfl, ?_⟩; replace BK273 := bb_ BK273 hb; replace HB := ak (below_step bsw_ hb); (try clear hb); obtain ⟨hcz79_0, hcz79_1, hcz79_2, hcz79_3, hfz79_0, hfz79_1, hfz79_2, hfz79_3⟩ := bz4_ BK273))
     go_ret
     exact ⟨by first | rfl | (simp [errW_none, errW_some] <;> rfl) | (simp [*, errW_none, errW_some] <;> rfl), bsw_⟩
   rw [if_pos c71] at H
   have c71b0 : decide (a0_1 ≤ 24) = true := decide_eq_true c71
   clear c71
   obtain rfl := Option.some.inj H
   go_enter Try.func25, Try.ntmps25
   go_wp2_with (first | ((with_reducible refine gate_dst (N := 1) rfl ?_); refine box_event ?hg (N := 1) ?hd (cs := #[.int .i64 a0_0, .int .i64 a0_1, .int .i64 a0_2, .slice A0_3 l0_3.length c0_3]) (t := 62) ?hr ?_; (case hd => rfl); (case hg => rfl); (case hr => first | (go_simp; done) | (go_simp; rfl)); intro gb273 hg w72 hbox hb; replace BK273 := ak (hbox); replace GW273 := ak ((by rw [hg]; exact bsz_ : w.heap.size ≤ gb273)); replace HB := ak (bst_ hb); replace GE273 := GW273; clear hb hbox hg; obtain ⟨hcz73_0, hcz73_1, hcz73_2, hcz73_3, hfz73_0, hfz73_1, hfz73_2, hfz73_3⟩ := bz4_ BK273) | ((with_reducible refine gate_callee (f := 39) rfl ?_); refine goesL_ (some 7) rfl rfl Try.func39 (by kernel_rfl) rfl #[.slice A0_3 l0_3.length c0_3] rfl mp_ ?_; (with_reducible refine (handshakerref08_reckons.calls k _ _ l0_3 true _ ?side1 ?side2 A2.out).mono ?_); (case side1 => exact cb_ HR0_3 HB); (case side2 => exact HC0_3.out); rintro e w74 ⟨rfl, hb⟩; refine ⟨_, rfl, ?_⟩; replace BK273 := bb_ BK273 hb; replace HB := ak (below_step bsw_ hb); (try clear hb); obtain ⟨hcz75_0, hcz75_1, hcz75_2, hcz75_3, hfz75_0, hfz75_1, hfz75_2, hfz75_3⟩ := bz4_ BK273))
   go_ret
   exact ⟨by first | rfl | (simp [errW_none, errW_some] <;> rfl) | (simp [*, errW_none, errW_some] <;> rfl), bsw_⟩
 rw [if_neg c68] at H
 have c68b0 : (a0_0 == 4) = false := beq_eq_false_iff_ne.mpr c68
 have c68b1 : (a0_0 != 4) = true := bne_iff_ne.mpr c68
 by_cases c88 : a0_0 = 5
 · rw [if_pos c88] at H
   have c88b0 : (a0_0 == 5) = true := beq_iff_eq.mpr c88
   have c88b1 : (a0_0 != 5) = false := bne_eq_false_iff_eq.mpr c88
   clear c88
   by_cases c89 : (l0_3.length : Int) = 0
   rotate_left
   · rw [if_neg c89] at H
     have c89b0 : ((l0_3.length : Int) == 0) = false := beq_eq_false_iff_ne.mpr c89
     have c89b1 : ((l0_3.length : Int) != 0) = true := bne_iff_ne.mpr c89
     have c89b2 : ¬ (l0_3 = []) := fun h_ => c89 (by rw [h_]; rfl)
     obtain rfl := Option.some.inj H
     go_enter Try.func25, Try.ntmps25
     go_wp2_with (first | ((with_reducible refine gate_dst (N := 1) rfl ?_); refine box_event ?hg (N := 1) ?hd (cs := #[.int .i64 a0_0, .int .i64 a0_1, .int .i64 a0_2, .slice A0_3 l0_3.length c0_3]) (t := 62) ?hr ?_; (case hd => rfl); (case hg => rfl); (case hr => first | (go_simp; done) | (go_simp; rfl)); intro gb273 hg w99 hbox hb; replace BK273 := ak (hbox); replace GW273 := ak ((by rw [hg]; exact bsz_ : w.heap.size ≤ gb273)); replace HB := ak (bst_ hb); replace GE273 := GW273; clear hb hbox hg; obtain ⟨hcz100_0, hcz100_1, hcz100_2, hcz100_3, hfz100_0, hfz100_1, hfz100_2, hfz100_3⟩ := bz4_ BK273) | ((with_reducible refine gate_callee (f := 39) rfl ?_); refine goesL_ (some 7) rfl rfl Try.func39 (by kernel_rfl) rfl #[.slice A0_3 l0_3.length c0_3] rfl mp_ ?_; (with_reducible refine (handshakerref08_reckons.calls k _ _ l0_3 t274 _ ?side1 ?side2 A2.out).mono ?_); (case side1 => exact cb_ HR0_3 HB); (case side2 => exact HC0_3.out); rintro e w101 ⟨rfl, hb⟩; refine ⟨_, rfl, ?_⟩; replace BK273 := bb_ BK273 hb; replace HB := ak (below_step bsw_ hb); (try clear hb); obtain ⟨hcz102_0, hcz102_1, hcz102_2, hcz102_3, hfz102_0, hfz102_1, hfz102_2, hfz102_3⟩ := bz4_ BK273))
     go_ret
     exact ⟨by first | rfl | (simp [errW_none, errW_some] <;> rfl) | (simp [*, errW_none, errW_some] <;> rfl), bsw_⟩
   rw [if_pos c89] at H
   have c89b0 : ((l0_3.length : Int) == 0) = true := beq_iff_eq.mpr c89
   have c89b1 : ((l0_3.length : Int) != 0) = false := bne_eq_false_iff_eq.mpr c89
   clear c89
   by_cases c90 : a0_1 = 0
   rotate_left
   · rw [if_neg c90] at H
     have c90b0 : (a0_1 == 0) = false := beq_eq_false_iff_ne.mpr c90
     have c90b1 : (a0_1 != 0) = true := bne_iff_ne.mpr c90
     obtain rfl := Option.some.inj H
     go_enter Try.func25, Try.ntmps25
     go_wp2_with (first | ((with_reducible refine gate_dst (N := 1) rfl ?_); refine box_event ?hg (N := 1) ?hd (cs := #[.int .i64 a0_0, .int .i64 a0_1, .int .i64 a0_2, .slice A0_3 l0_3.length c0_3]) (t := 62) ?hr ?_; (case hd => rfl); (case hg => rfl); (case hr => first | (go_simp; done) | (go_simp; rfl)); intro gb273 hg w95 hbox hb; replace BK273 := ak (hbox); replace GW273 := ak ((by rw [hg]; exact bsz_ : w.heap.size ≤ gb273)); replace HB := ak (bst_ hb); replace GE273 := GW273; clear hb hbox hg; obtain ⟨hcz96_0, hcz96_1, hcz96_2, hcz96_3, hfz96_0, hfz96_1, hfz96_2, hfz96_3⟩ := bz4_ BK273) | ((with_reducible refine gate_callee (f := 39) rfl ?_); refine goesL_ (some 7) rfl rfl Try.func39 (by kernel_rfl) rfl #[.slice A0_3 l0_3.length c0_3] rfl mp_ ?_; (with_reducible refine (handshakerref08_reckons.calls k _ _ l0_3 t274 _ ?side1 ?side2 A2.out).mono ?_); (case side1 => exact cb_ HR0_3 HB); (case side2 => exact HC0_3.out); rintro e w97 ⟨rfl, hb⟩; refine ⟨_, rfl, ?_⟩; replace BK273 := bb_ BK273 hb; replace HB := ak (below_step bsw_ hb); (try clear hb); obtain ⟨hcz98_0, hcz98_1, hcz98_2, hcz98_3, hfz98_0, hfz98_1, hfz98_2, hfz98_3⟩ := bz4_ BK273))
     go_ret
     exact ⟨by first | rfl | (simp [errW_none, errW_some] <;> rfl) | (simp [*, errW_none, errW_some] <;> rfl), bsw_⟩
   rw [if_pos c90] at H
   have c90b0 : (a0_1 == 0) = true := beq_iff_eq.mpr c90
   have c90b1 : (a0_1 != 0) = false := bne_eq_false_iff_eq.mpr c90
   clear c90
   obtain rfl := Option.some.inj H
   go_enter Try.func25, Try.ntmps25
   go_wp2_with (first | ((with_reducible refine gate_dst (N := 1) rfl ?_); refine box_event ?hg (N := 1) ?hd (cs := #[.int .i64 a0_0, .int .i64 a0_1, .int .i64 a0_2, .slice A0_3 l0_3.length c0_3]) (t := 62) ?hr ?_; (case hd => rfl); (case hg => rfl); (case hr => first | (go_simp; done) | (go_simp; rfl)); intro gb273 hg w91 hbox hb; replace BK273 := ak (hbox); replace GW273 := ak ((by rw [hg]; exact bsz_ : w.heap.size ≤ gb273)); replace HB := ak (bst_ hb); replace GE273 := GW273; clear hb hbox hg; obtain ⟨hcz92_0, hcz92_1, hcz92_2, hcz92_3, hfz92_0, hfz92_1, hfz92_2, hfz92_3⟩ := bz4_ BK273) | ((with_reducible refine gate_callee (f := 39) rfl ?_); refine goesL_ (some 7) rfl rfl Try.func39 (by kernel_rfl) rfl #[.slice A0_3 l0_3.length c0_3] rfl mp_ ?_; (with_reducible refine (handshakerref08_reckons.calls k _ _ l0_3 t274 _ ?side1 ?side2 A2.out).mono ?_); (case side1 => exact cb_ HR0_3 HB); (case side2 => exact HC0_3.out); rintro e w93 ⟨rfl, hb⟩; refine ⟨_, rfl, ?_⟩; replace BK273 := bb_ BK273 hb; replace HB := ak (below_step bsw_ hb); (try clear hb); obtain ⟨hcz94_0, hcz94_1, hcz94_2, hcz94_3, hfz94_0, hfz94_1, hfz94_2, hfz94_3⟩ := bz4_ BK273))
   go_ret
   exact ⟨by first | rfl | (simp [errW_none, errW_some] <;> rfl) | (simp [*, errW_none, errW_some] <;> rfl), bsw_⟩
 rw [if_neg c88] at H
 have c88b0 : (a0_0 == 5) = false := beq_eq_false_iff_ne.mpr c88
 have c88b1 : (a0_0 != 5) = true := bne_iff_ne.mpr c88
 by_cases c103 : a0_0 = 6
 · rw [if_pos c103] at H
   have c103b0 : (a0_0 == 6) = true := beq_iff_eq.mpr c103
   have c103b1 : (a0_0 != 6) = false := bne_eq_false_iff_eq.mpr c103
   clear c103
   by_cases c104 : (l0_3.length : Int) = 0
   rotate_left
   · rw [if_neg c104] at H
     have c104b0 : ((l0_3.length : Int) == 0) = false := beq_eq_false_iff_ne.mpr c104
     have c104b1 : ((l0_3.length : Int) != 0) = true := bne_iff_ne.mpr c104
     have c104b2 : ¬ (l0_3 = []) := fun h_ => c104 (by rw [h_]; rfl)
     obtain rfl := Option.some.inj H
     go_enter Try.func25, Try.ntmps25
     go_wp2_with (first | ((with_reducible refine gate_dst (N := 1) rfl ?_); refine box_event ?hg (N := 1) ?hd (cs := #[.int .i64 a0_0, .int .i64 a0_1, .int .i64 a0_2, .slice A0_3 l0_3.length c0_3]) (t := 62) ?hr ?_; (case hd => rfl); (case hg => rfl); (case hr => first | (go_simp; done) | (go_simp; rfl)); intro gb273 hg w119 hbox hb; replace BK273 := ak (hbox); replace GW273 := ak ((by rw [hg]; exact bsz_ : w.heap.size ≤ gb273)); replace HB := ak (bst_ hb); replace GE273 := GW273; clear hb hbox hg; obtain ⟨hcz120_0, hcz120_1, hcz120_2, hcz120_3, hfz120_0, hfz120_1, hfz120_2, hfz120_3⟩ := bz4_ BK273) | ((with_reducible refine gate_callee (f := 39) rfl ?_); refine goesL_ (some 7) rfl rfl Try.func39 (by kernel_rfl) rfl #[.slice A0_3 l0_3.length c0_3] rfl mp_ ?_; (with_reducible refine (handshakerref08_reckons.calls k _ _ l0_3 t274 _ ?side1 ?side2 A2.out).mono ?_); (case side1 => exact cb_ HR0_3 HB); (case side2 => exact HC0_3.out); rintro e w121 ⟨rfl, hb⟩; refine ⟨_, rfl, ?_⟩; replace BK273 := bb_ BK273 hb; replace HB := ak (below_step bsw_ hb); (try clear hb); obtain ⟨hcz122_0, hcz122_1, hcz122_2, hcz122_3, hfz122_0, hfz122_1, hfz122_2, hfz122_3⟩ := bz4_ BK273))
     go_ret
     exact ⟨by first | rfl | (simp [errW_none, errW_some] <;> rfl) | (simp [*, errW_none, errW_some] <;> rfl), bsw_⟩
   rw [if_pos c104] at H
   have c104b0 : ((l0_3.length : Int) == 0) = true := beq_iff_eq.mpr c104
   have c104b1 : ((l0_3.length : Int) != 0) = false := bne_eq_false_iff_eq.mpr c104
   clear c104
   by_cases c105 : a0_1 ≥ 0
   rotate_left
   · rw [if_neg c105] at H
     have c105b0 : decide (0 ≤ a0_1) = false := decide_eq_false c105
     clear c105
     obtain rfl := Option.some.inj H
     go_enter Try.func25, Try.ntmps25
     go_wp2_with (first | ((with_reducible refine gate_dst (N := 1) rfl ?_); refine box_event ?hg (N := 1) ?hd (cs := #[.int .i64 a0_0, .int .i64 a0_1, .int .i64 a0_2, .slice A0_3 l0_3.length c0_3]) (t := 62) ?hr ?_; (case hd => rfl); (case hg => rfl); (case hr => first | (go_simp; done) | (go_simp; rfl)); intro gb273 hg w115 hbox hb; replace BK273 := ak (hbox); replace GW273 := ak ((by rw [hg]; exact bsz_ : w.heap.size ≤ gb273)); replace HB := ak (bst_ hb); replace GE273 := GW273; clear hb hbox hg; obtain ⟨hcz116_0, hcz116_1, hcz116_2, hcz116_3, hfz116_0, hfz116_1, hfz116_2, hfz116_3⟩ := bz4_ BK273) | ((with_reducible refine gate_callee (f := 39) rfl ?_); refine goesL_ (some 7) rfl rfl Try.func39 (by kernel_rfl) rfl #[.slice A0_3 l0_3.length c0_3] rfl mp_ ?_; (with_reducible refine (handshakerref08_reckons.calls k _ _ l0_3 t274 _ ?side1 ?side2 A2.out).mono ?_); (case side1 => exact cb_ HR0_3 HB); (case side2 => exact HC0_3.out); rintro e w117 ⟨rfl, hb⟩; refine ⟨_, rfl, ?_⟩; replace BK273 := bb_ BK273 hb; replace HB := ak (below_step bsw_ hb); (try clear hb); obtain ⟨hcz118_0, hcz118_1, hcz118_2, hcz118_3, hfz118_0, hfz118_1, hfz118_2, hfz118_3⟩ := bz4_ BK273))
     go_ret
     exact ⟨by first | rfl | (simp [errW_none, errW_some] <;> rfl) | (simp [*, errW_none, errW_some] <;> rfl), bsw_⟩
   rw [if_pos c105] at H
   have c105b0 : decide (0 ≤ a0_1) = true := decide_eq_true c105
   clear c105
   by_cases c106 : a0_1 ≤ 255
   rotate_left
   · rw [if_neg c106] at H
     have c106b0 : decide (a0_1 ≤ 255) = false := decide_eq_false c106
     clear c106
     obtain rfl := Option.some.inj H
     go_enter Try.func25, Try.ntmps25
     go_wp2_with (first | ((with_reducible refine gate_dst (N := 1) rfl ?_); refine box_event ?hg (N := 1) ?hd (cs := #[.int .i64 a0_0, .int .i64 a0_1, .int .i64 a0_2, .slice A0_3 l0_3.length c0_3]) (t := 62) ?hr ?_; (case hd => rfl); (case hg => rfl); (case hr => first | (go_simp; done) | (go_simp; rfl)); intro gb273 hg w111 hbox hb; replace BK273 := ak (hbox); replace GW273 := ak ((by rw [hg]; exact bsz_ : w.heap.size ≤ gb273)); replace HB := ak (bst_ hb); replace GE273 := GW273; clear hb hbox hg; obtain ⟨hcz112_0, hcz112_1, hcz112_2, hcz112_3, hfz112_0, hfz112_1, hfz112_2, hfz112_3⟩ := bz4_ BK273) | ((with_reducible refine gate_callee (f := 39) rfl ?_); refine goesL_ (some 7) rfl rfl Try.func39 (by kernel_rfl) rfl #[.slice A0_3 l0_3.length c0_3] rfl mp_ ?_; (with_reducible refine (handshakerref08_reckons.calls k _ _ l0_3 t274 _ ?side1 ?side2 A2.out).mono ?_); (case side1 => exact cb_ HR0_3 HB); (case side2 => exact HC0_3.out); rintro e w113 ⟨rfl, hb⟩; refine ⟨_, rfl, ?_⟩; replace BK273 := bb_ BK273 hb; replace HB := ak (below_step bsw_ hb); (try clear hb); obtain ⟨hcz114_0, hcz114_1, hcz114_2, hcz114_3, hfz114_0, hfz114_1, hfz114_2, hfz114_3⟩ := bz4_ BK273))
     go_ret
     exact ⟨by first | rfl | (simp [errW_none, errW_some] <;> rfl) | (simp [*, errW_none, errW_some] <;> rfl), bsw_⟩
   rw [if_pos c106] at H
   have c106b0 : decide (a0_1 ≤ 255) = true := decide_eq_true c106
   clear c106
   obtain rfl := Option.some.inj H
   go_enter Try.func25, Try.ntmps25
   go_wp2_with (first | ((with_reducible refine gate_dst (N := 1) rfl ?_); refine box_event ?hg (N := 1) ?hd (cs := #[.int .i64 a0_0, .int .i64 a0_1, .int .i64 a0_2, .slice A0_3 l0_3.length c0_3]) (t := 62) ?hr ?_; (case hd => rfl); (case hg => rfl); (case hr => first | (go_simp; done) | (go_simp; rfl)); intro gb273 hg w107 hbox hb; replace BK273 := ak (hbox); replace GW273 := ak ((by rw [hg]; exact bsz_ : w.heap.size ≤ gb273)); replace HB := ak (bst_ hb); replace GE273 := GW273; clear hb hbox hg; obtain ⟨hcz108_0, hcz108_1, hcz108_2, hcz108_3, hfz108_0, hfz108_1, hfz108_2, hfz108_3⟩ := bz4_ BK273) | ((with_reducible refine gate_callee (f := 39) rfl ?_); refine goesL_ (some 7) rfl rfl Try.func39 (by kernel_rfl) rfl #[.slice A0_3 l0_3.length c0_3] rfl mp_ ?_; (with_reducible refine (handshakerref08_reckons.calls k _ _ l0_3 t274 _ ?side1 ?side2 A2.out).mono ?_); (case side1 => exact cb_ HR0_3 HB); (case side2 => exact HC0_3.out); rintro e w109 ⟨rfl, hb⟩; refine ⟨_, rfl, ?_⟩; replace BK273 := bb_ BK273 hb; replace HB := ak (below_step bsw_ hb); (try clear hb); obtain ⟨hcz110_0, hcz110_1, hcz110_2, hcz110_3, hfz110_0, hfz110_1, hfz110_2, hfz110_3⟩ := bz4_ BK273))
   go_ret
   exact ⟨by first | rfl | (simp [errW_none, errW_some] <;> rfl) | (simp [*, errW_none, errW_some] <;> rfl), bsw_⟩
 rw [if_neg c103] at H
 have c103b0 : (a0_0 == 6) = false := beq_eq_false_iff_ne.mpr c103
 have c103b1 : (a0_0 != 6) = true := bne_iff_ne.mpr c103
 by_cases c123 : a0_0 = 7
 rotate_left
 · rw [if_neg c123] at H
   have c123b0 : (a0_0 == 7) = false := beq_eq_false_iff_ne.mpr c123
   have c123b1 : (a0_0 != 7) = true := bne_iff_ne.mpr c123
   obtain rfl := Option.some.inj H
   go_enter Try.func25, Try.ntmps25
   go_wp2_with (first | ((with_reducible refine gate_dst (N := 1) rfl ?_); refine box_event ?hg (N := 1) ?hd (cs := #[.int .i64 a0_0, .int .i64 a0_1, .int .i64 a0_2, .slice A0_3 l0_3.length c0_3]) (t := 62) ?hr ?_; (case hd => rfl); (case hg => rfl); (case hr => first | (go_simp; done) | (go_simp; rfl)); intro gb273 hg w148 hbox hb; replace BK273 := ak (hbox); replace GW273 := ak ((by rw [hg]; exact bsz_ : w.heap.size ≤ gb273)); replace HB := ak (bst_ hb); replace GE273 := GW273; clear hb hbox hg; obtain ⟨hcz149_0, hcz149_1, hcz149_2, hcz149_3, hfz149_0, hfz149_1, hfz149_2, hfz149_3⟩ := bz4_ BK273) | ((with_reducible refine gate_callee (f := 39) rfl ?_); refine goesL_ (some 7) rfl rfl Try.func39 (by kernel_rfl) rfl #[.slice A0_3 l0_3.length c0_3] rfl mp_ ?_; (with_reducible refine (handshakerref08_reckons.calls k _ _ l0_3 t274 _ ?side1 ?side2 A2.out).mono ?_); (case side1 => exact cb_ HR0_3 HB); (case side2 => exact HC0_3.out); rintro e w150 ⟨rfl, hb⟩; refine ⟨_, rfl, ?_⟩; replace BK273 := bb_ BK273 hb; replace HB := ak (below_step bsw_ hb); (try clear hb); obtain ⟨hcz151_0, hcz151_1, hcz151_2, hcz151_3, hfz151_0, hfz151_1, hfz151_2, hfz151_3⟩ := bz4_ BK273))
   go_ret
   exact ⟨by first | rfl | (simp [errW_none, errW_some] <;> rfl) | (simp [*, errW_none, errW_some] <;> rfl), bsw_⟩
 rw [if_pos c123] at H
 have c123b0 : (a0_0 == 7) = true := beq_iff_eq.mpr c123
 have c123b1 : (a0_0 != 7) = false := bne_eq_false_iff_eq.mpr c123
 clear c123
 by_cases c124 : (l0_3.length : Int) = 0
 rotate_left
 · rw [if_neg c124] at H
   have c124b0 : ((l0_3.length : Int) == 0) = false := beq_eq_false_iff_ne.mpr c124
   have c124b1 : ((l0_3.length : Int) != 0) = true := bne_iff_ne.mpr c124
   have c124b2 : ¬ (l0_3 = []) := fun h_ => c124 (by rw [h_]; rfl)
   obtain rfl := Option.some.inj H
   go_enter Try.func25, Try.ntmps25
   go_wp2_with (first | ((with_reducible refine gate_dst (N := 1) rfl ?_); refine box_event ?hg (N := 1) ?hd (cs := #[.int .i64 a0_0, .int .i64 a0_1, .int .i64 a0_2, .slice A0_3 l0_3.length c0_3]) (t := 62) ?hr ?_; (case hd => rfl); (case hg => rfl); (case hr => first | (go_simp; done) | (go_simp; rfl)); intro gb273 hg w144 hbox hb; replace BK273 := ak (hbox); replace GW273 := ak ((by rw [hg]; exact bsz_ : w.heap.size ≤ gb273)); replace HB := ak (bst_ hb); replace GE273 := GW273; clear hb hbox hg; obtain ⟨hcz145_0, hcz145_1, hcz145_2, hcz145_3, hfz145_0, hfz145_1, hfz145_2, hfz145_3⟩ := bz4_ BK273) | ((with_reducible refine gate_callee (f := 39) rfl ?_); refine goesL_ (some 7) rfl rfl Try.func39 (by kernel_rfl) rfl #[.slice A0_3 l0_3.length c0_3] rfl mp_ ?_; (with_reducible refine (handshakerref08_reckons.calls k _ _ l0_3 t274 _ ?side1 ?side2 A2.out).mono ?_); (case side1 => exact cb_ HR0_3 HB); (case side2 => exact HC0_3.out); rintro e w146 ⟨rfl, hb⟩; refine ⟨_, rfl, ?_⟩; replace BK273 := bb_ BK273 hb; replace HB := ak (below_step bsw_ hb); (try clear hb); obtain ⟨hcz147_0, hcz147_1, hcz147_2, hcz147_3, hfz147_0, hfz147_1, hfz147_2, hfz147_3⟩ := bz4_ BK273))
   go_ret
   exact ⟨by first | rfl | (simp [errW_none, errW_some] <;> rfl) | (simp [*, errW_none, errW_some] <;> rfl), bsw_⟩
 rw [if_pos c124] at H
 have c124b0 : ((l0_3.length : Int) == 0) = true := beq_iff_eq.mpr c124
 have c124b1 : ((l0_3.length : Int) != 0) = false := bne_eq_false_iff_eq.mpr c124
 clear c124
 by_cases c125 : a0_1 ≥ 1
 rotate_left
 · rw [if_neg c125] at H
   have c125b0 : decide (1 ≤ a0_1) = false := decide_eq_false c125
   clear c125
   obtain rfl := Option.some.inj H
   go_enter Try.func25, Try.ntmps25
   go_wp2_with (first | ((with_reducible refine gate_dst (N := 1) rfl ?_); refine box_event ?hg (N := 1) ?hd (cs := #[.int .i64 a0_0, .int .i64 a0_1, .int .i64 a0_2, .slice A0_3 l0_3.length c0_3]) (t := 62) ?hr ?_; (case hd => rfl); (case hg => rfl); (case hr => first | (go_simp; done) | (go_simp; rfl)); intro gb273 hg w140 hbox hb; replace BK273 := ak (hbox); replace GW273 := ak ((by rw [hg]; exact bsz_ : w.heap.size ≤ gb273)); replace HB := ak (bst_ hb); replace GE273 := GW273; clear hb hbox hg; obtain ⟨hcz141_0, hcz141_1, hcz141_2, hcz141_3, hfz141_0, hfz141_1, hfz141_2, hfz141_3⟩ := bz4_ BK273) | ((with_reducible refine gate_callee (f := 39) rfl ?_); refine goesL_ (some 7) rfl rfl Try.func39 (by kernel_rfl) rfl #[.slice A0_3 l0_3.length c0_3] rfl mp_ ?_; (with_reducible refine (handshakerref08_reckons.calls k _ _ l0_3 t274 _ ?side1 ?side2 A2.out).mono ?_); (case side1 => exact cb_ HR0_3 HB); (case side2 => exact HC0_3.out); rintro e w142 ⟨rfl, hb⟩; refine ⟨_, rfl, ?_⟩; replace BK273 := bb_ BK273 hb; replace HB := ak (below_step bsw_ hb); (try clear hb); obtain ⟨hcz143_0, hcz143_1, hcz143_2, hcz143_3, hfz143_0, hfz143_1, hfz143_2, hfz143_3⟩ := bz4_ BK273))
   go_ret
   exact ⟨by first | rfl | (simp [errW_none, errW_some] <;> rfl) | (simp [*, errW_none, errW_some] <;> rfl), bsw_⟩
 rw [if_pos c125] at H
 have c125b0 : decide (1 ≤ a0_1) = true := decide_eq_true c125
 clear c125
 by_cases c126 : a0_1 ≤ 24
 rotate_left
 · rw [if_neg c126] at H
   have c126b0 : decide (a0_1 ≤ 24) = false := decide_eq_false c126
   clear c126
   obtain rfl := Option.some.inj H
   go_enter Try.func25, Try.ntmps25
   go_wp2_with (first | ((with_reducible refine gate_dst (N := 1) rfl ?_); refine box_event ?hg (N := 1) ?hd (cs := #[.int .i64 a0_0, .int .i64 a0_1, .int .i64 a0_2, .slice A0_3 l0_3.length c0_3]) (t := 62) ?hr ?_; (case hd => rfl); (case hg => rfl); (case hr => first | (go_simp; done) | (go_simp; rfl)); intro gb273 hg w136 hbox hb; replace BK273 := ak (hbox); replace GW273 := ak ((by rw [hg]; exact bsz_ : w.heap.size ≤ gb273)); replace HB := ak (bst_ hb); replace GE273 := GW273; clear hb hbox hg; obtain ⟨hcz137_0, hcz137_1, hcz137_2, hcz137_3, hfz137_0, hfz137_1, hfz137_2, hfz137_3⟩ := bz4_ BK273) | ((with_reducible refine gate_callee (f := 39) rfl ?_); refine goesL_ (some 7) rfl rfl Try.func39 (by kernel_rfl) rfl #[.slice A0_3 l0_3.length c0_3] rfl mp_ ?_; (with_reducible refine (handshakerref08_reckons.calls k _ _ l0_3 t274 _ ?side1 ?side2 A2.out).mono ?_); (case side1 => exact cb_ HR0_3 HB); (case side2 => exact HC0_3.out); rintro e w138 ⟨rfl, hb⟩; refine ⟨_, rfl, ?_⟩; replace BK273 := bb_ BK273 hb; replace HB := ak (below_step bsw_ hb); (try clear hb); obtain ⟨hcz139_0, hcz139_1, hcz139_2, hcz139_3, hfz139_0, hfz139_1, hfz139_2, hfz139_3⟩ := bz4_ BK273))
   go_ret
   exact ⟨by first | rfl | (simp [errW_none, errW_some] <;> rfl) | (simp [*, errW_none, errW_some] <;> rfl), bsw_⟩
 rw [if_pos c126] at H
 have c126b0 : decide (a0_1 ≤ 24) = true := decide_eq_true c126
 clear c126
 by_cases c127 : a0_2 ≥ 1
 rotate_left
 · rw [if_neg c127] at H
   have c127b0 : decide (1 ≤ a0_2) = false := decide_eq_false c127
   clear c127
   obtain rfl := Option.some.inj H
   go_enter Try.func25, Try.ntmps25
   go_wp2_with (first | ((with_reducible refine gate_dst (N := 1) rfl ?_); refine box_event ?hg (N := 1) ?hd (cs := #[.int .i64 a0_0, .int .i64 a0_1, .int .i64 a0_2, .slice A0_3 l0_3.length c0_3]) (t := 62) ?hr ?_; (case hd => rfl); (case hg => rfl); (case hr => first | (go_simp; done) | (go_simp; rfl)); intro gb273 hg w132 hbox hb; replace BK273 := ak (hbox); replace GW273 := ak ((by rw [hg]; exact bsz_ : w.heap.size ≤ gb273)); replace HB := ak (bst_ hb); replace GE273 := GW273; clear hb hbox hg; obtain ⟨hcz133_0, hcz133_1, hcz133_2, hcz133_3, hfz133_0, hfz133_1, hfz133_2, hfz133_3⟩ := bz4_ BK273) | ((with_reducible refine gate_callee (f := 39) rfl ?_); refine goesL_ (some 7) rfl rfl Try.func39 (by kernel_rfl) rfl #[.slice A0_3 l0_3.length c0_3] rfl mp_ ?_; (with_reducible refine (handshakerref08_reckons.calls k _ _ l0_3 t274 _ ?side1 ?side2 A2.out).mono ?_); (case side1 => exact cb_ HR0_3 HB); (case side2 => exact HC0_3.out); rintro e w134 ⟨rfl, hb⟩; refine ⟨_, rfl, ?_⟩; replace BK273 := bb_ BK273 hb; replace HB := ak (below_step bsw_ hb); (try clear hb); obtain ⟨hcz135_0, hcz135_1, hcz135_2, hcz135_3, hfz135_0, hfz135_1, hfz135_2, hfz135_3⟩ := bz4_ BK273))
   go_ret
   exact ⟨by first | rfl | (simp [errW_none, errW_some] <;> rfl) | (simp [*, errW_none, errW_some] <;> rfl), bsw_⟩
 rw [if_pos c127] at H
 have c127b0 : decide (1 ≤ a0_2) = true := decide_eq_true c127
 clear c127
 obtain rfl := Option.some.inj H
 go_enter Try.func25, Try.ntmps25
 go_wp2_with (first | ((with_reducible refine gate_dst (N := 1) rfl ?_); refine box_event ?hg (N := 1) ?hd (cs := #[.int .i64 a0_0, .int .i64 a0_1, .int .i64 a0_2, .slice A0_3 l0_3.length c0_3]) (t := 62) ?hr ?_; (case hd => rfl); (case hg => rfl); (case hr => first | (go_simp; done) | (go_simp; rfl)); intro gb273 hg w128 hbox hb; replace BK273 := ak (hbox); replace GW273 := ak ((by rw [hg]; exact bsz_ : w.heap.size ≤ gb273)); replace HB := ak (bst_ hb); replace GE273 := GW273; clear hb hbox hg; obtain ⟨hcz129_0, hcz129_1, hcz129_2, hcz129_3, hfz129_0, hfz129_1, hfz129_2, hfz129_3⟩ := bz4_ BK273) | ((with_reducible refine gate_callee (f := 39) rfl ?_); refine goesL_ (some 7) rfl rfl Try.func39 (by kernel_rfl) rfl #[.slice A0_3 l0_3.length c0_3] rfl mp_ ?_; (with_reducible refine (handshakerref08_reckons.calls k _ _ l0_3 t274 _ ?side1 ?side2 A2.out).mono ?_); (case side1 => exact cb_ HR0_3 HB); (case side2 => exact HC0_3.out); rintro e w130 ⟨rfl, hb⟩; refine ⟨_, rfl, ?_⟩; replace BK273 := bb_ BK273 hb; replace HB := ak (below_step bsw_ hb); (try clear hb); obtain ⟨hcz131_0, hcz131_1, hcz131_2, hcz131_3, hfz131_0, hfz131_1, hfz131_2, hfz131_3⟩ := bz4_ BK273))
 go_ret
 exact ⟨by first | rfl | (simp [errW_none, errW_some] <;> rfl) | (simp [*, errW_none, errW_some] <;> rfl), bsw_⟩

/-! ### handshakerref08_well: function 26 -/
mutual
def handshakerref08_well.j0 : Nat → List (S62) → Int → Int → Bool → Int → Int → Int → List (S66) → Option (Int × Bool)
 | 0, _, _, _, _, _, _, _, _ => none
 | k + 1, x0, x1, x2, x35, x277000, x277001, x277002, x277003 => if x35 = true then (some (0, false)) else (if x277000 = 7 then (if (wrap64 ((wrap64 ((wrap64 (x1 + 1)) + x277001)) + x277002)) > x2 then (some (0, false)) else ((handshakerref08_well.f k x0 (wrap64 (x1 + 1)) (wrap64 ((wrap64 (x1 + 1)) + x277001))).bind fun bt279 => ((handshakerref08_well.f k x0 (wrap64 ((wrap64 (x1 + 1)) + x277001)) (wrap64 ((wrap64 ((wrap64 (x1 + 1)) + x277001)) + x277002))).bind fun bt281 => ((handshakerref08_well.f k x0 (wrap64 ((wrap64 ((wrap64 (x1 + 1)) + x277001)) + x277002)) x2).bind fun bt283 => (if bt279.2 = true then (if bt281.2 = true then (some (mx (mx bt283.1 (wrap64 (1 + bt279.1))) (wrap64 (1 + bt281.1)), bt283.2)) else (some (mx (mx bt283.1 (wrap64 (1 + bt279.1))) (wrap64 (1 + bt281.1)), false))) else (some (mx (mx bt283.1 (wrap64 (1 + bt279.1))) (wrap64 (1 + bt281.1)), false))))))) else ((handshakerref08_well.f k x0 (wrap64 (x1 + 1)) x2).bind fun bt277 => (some (bt277.1, bt277.2))))
def handshakerref08_well.f : Nat → List (S62) → Int → Int → Option (Int × Bool)
 | 0, _, _, _ => none
 | k + 1, l0, a1, a2 => if a1 = a2 then (some (0, true)) else (if 0 ≤ a1 then (if a1 < (l0.length : Int) then (if ((rd_T62 l0 a1).f0) = 4 then (handshakerref08_well.j0 k l0 a1 a2 (decide ((wrap64 ((wrap64 (a1 + 1)) + ((rd_T62 l0 a1).f1))) > a2)) ((rd_T62 l0 a1).f0) ((rd_T62 l0 a1).f1) ((rd_T62 l0 a1).f2) ((rd_T62 l0 a1).f3)) else (handshakerref08_well.j0 k l0 a1 a2 false ((rd_T62 l0 a1).f0) ((rd_T62 l0 a1).f1) ((rd_T62 l0 a1).f2) ((rd_T62 l0 a1).f3))) else (none)) else (none))
end
theorem handshakerref08_well.mono_l : ∀ k, (∀ y0 y1 y2, LeO (handshakerref08_well.f k y0 y1 y2) (handshakerref08_well.f (k + 1) y0 y1 y2)) ∧ (∀ y0 y1 y2 y3 y4 y5 y6 y7, LeO (handshakerref08_well.j0 k y0 y1 y2 y3 y4 y5 y6 y7) (handshakerref08_well.j0 (k + 1) y0 y1 y2 y3 y4 y5 y6 y7))
 | 0 => ⟨fun _ _ _ r h => by simp [handshakerref08_well.f] at h, fun _ _ _ _ _ _ _ _ r h => by simp [handshakerref08_well.j0] at h⟩
 | k + 1 => by
  obtain ⟨ih0, ih1⟩ := handshakerref08_well.mono_l k
  refine ⟨?_, ?_⟩
  all_goals intros
  all_goals first | unfold handshakerref08_well.f | unfold handshakerref08_well.j0
  all_goals repeat' first | exact LeO.refl _ | exact LeO.none _ | (with_reducible apply ih0) | (with_reducible apply ih1) | (with_reducible refine LeO.ite ?_ ?_) | (with_reducible refine LeO.bind ?_ (fun _ => ?_)) | apply ih0 | apply ih1 | refine LeO.ite ?_ ?_ | refine LeO.bind ?_ (fun _ => ?_)
theorem handshakerref08_well.mono : ∀ a0 a1 a2 k, LeO (handshakerref08_well.f k a0 a1 a2) (handshakerref08_well.f (k + 1) a0 a1 a2) := by
 intro a0 a1 a2 k
 obtain ⟨ih0, ih1⟩ := handshakerref08_well.mono_l k
 exact ih0 a0 a1 a2
set_option maxHeartbeats 8000000 in
set_option maxRecDepth 100000 in
theorem handshakerref08_well.calls (k : Nat) : ∀ (A0 : Option Addr) (c0 : Nat) (l0 : List (S62)) (a1 : Int) (a2 : Int) (r1 : Int) (r2 : Bool) (w : World) (hr0 : Kd.C k62 w A0 l0.length l0) (hc0 : l0.length ≤ c0) (h : handshakerref08_well.f k l0 a1 a2 = some (r1, r2)),
 Calls Try.prog 26 #[.slice A0 l0.length c0, .int .i64 a1, .int .i64 a2] w fun e w' => e = .returned (.tuple #[.int .i64 r1, .bool r2]) ∧ Below w.heap.size w w' := by
 induction k using Nat.strongRecOn with
 | _ k ih =>
 intro A0 c0 l0 a1 a2 r1 r2 w hr0 hc0 h
 cases k with
 | zero => exact absurd h (by simp [handshakerref08_well.f])
 | succ k =>
 simp only [handshakerref08_well.f] at h
 have hu62 := Try.underlying62
 have HR0 := ak hr0
 have HC0 := ak hc0
 clear hr0 hc0
 have HB := ak (Below.refl w.heap.size w)
 have H : (if a1 = a2 then (some (0, true)) else (if 0 ≤ a1 then (if a1 < (l0.length : Int) then (if ((rd_T62 l0 a1).f0) = 4 then (handshakerref08_well.j0 k l0 a1 a2 (decide ((wrap64 ((wrap64 (a1 + 1)) + ((rd_T62 l0 a1).f1))) > a2)) ((rd_T62 l0 a1).f0) ((rd_T62 l0 a1).f1) ((rd_T62 l0 a1).f2) ((rd_T62 l0 a1).f3)) else (handshakerref08_well.j0 k l0 a1 a2 false ((rd_T62 l0 a1).f0) ((rd_T62 l0 a1).f1) ((rd_T62 l0 a1).f2) ((rd_T62 l0 a1).f3))) else (none)) else (none))) = some (r1, r2) := h
 clear h
 by_cases c4 : a1 = a2
 · rw [if_pos c4] at H
   have c4b0 : (a1 == a2) = true := beq_iff_eq.mpr c4
   have c4b1 : (a1 != a2) = false := bne_eq_false_iff_eq.mpr c4
   clear c4
   simp only [Option.some.injEq, Prod.mk.injEq] at H
   obtain ⟨rfl, rfl⟩ := H
   go_enter Try.func26, Try.ntmps26
   go_wp2
   go_ret2
   exact ⟨by first | rfl | (simp [errW_none, errW_some] <;> rfl) | (simp [*, errW_none, errW_some] <;> rfl), bsv_⟩
 rw [if_neg c4] at H
 have c4b0 : (a1 == a2) = false := beq_eq_false_iff_ne.mpr c4
 have c4b1 : (a1 != a2) = true := bne_iff_ne.mpr c4
 by_cases c5 : 0 ≤ a1
 rotate_left
 · rw [if_neg c5] at H
   exact absurd H (by simp)
 rw [if_pos c5] at H
 have c5b0 : decide (0 ≤ a1) = true := decide_eq_true c5
 clear c5
 by_cases c6 : a1 < (l0.length : Int)
 rotate_left
 · rw [if_neg c6] at H
   exact absurd H (by simp)
 rw [if_pos c6] at H
 have c6b0 : decide (a1 < (l0.length : Int)) = true := decide_eq_true c6
 clear c6
 have HC7 := ak H
 clear H
 have p275 : 0 ≤ (a1 : Int) := oda_
 have q275 : a1 < (l0.length : Int) := oda_
 obtain ⟨ad275, A275_3, c275_3, e275, hx275_0, hx275_1, hx275_2, hx275_3, hl275_3, hi275_3⟩ := at_T62 HR0.out a1 p275 q275
 cases e275
 have HR275_3 := ak hi275_3
 have HC275_3 := ak hl275_3
 clear hi275_3 hl275_3
 replace p275 := eq_true p275
 replace q275 := eq_true q275
 go_enter Try.func26, Try.ntmps26
 go_upto_region 4 with (first | ((with_reducible refine gate_dst (N := 8) rfl ?_); refine box_event ?hg (N := 8) ?hd (cs := #[.int .i64 0, .int .i64 0, .int .i64 0, .slice none 0 0]) (t := 62) ?hr ?_; (case hd => rfl); (case hg => rfl); (case hr => first | (go_simp; done) | (go_simp; rfl)); intro gb276 hg w8 hbox hb; replace BK276 := ak (hbox); replace GW276 := ak ((by rw [hg]; exact bsz_ : w.heap.size ≤ gb276)); replace HB := ak (bst_ hb); replace GE276 := GW276; clear hb hbox hg; obtain ⟨hcz9_0, hcz9_1, hcz9_2, hcz9_3, hfz9_0, hfz9_1, hfz9_2, hfz9_3⟩ := bz4_ BK276))
 (try simp only [Act.put, List.setIfInBounds_toArray, List.set_cons_zero, List.set_cons_succ])
 go_cut [35] (fun v35 wc => ∃ (kq : Nat) (x35_6 : Bool), v35 = .bool x35_6 ∧ Aside0 (handshakerref08_well.j0 kq l0 a1 a2 x35_6 ((rd_T62 l0 a1).f0) ((rd_T62 l0 a1).f1) ((rd_T62 l0 a1).f2) ((rd_T62 l0 a1).f3) = some (r1, r2)) ∧ Aside0 (kq ≤ k) ∧ Aside0 (wc.heap[gb276]? = some (.cells #[.int .i64 ((rd_T62 l0 a1).f0), .int .i64 ((rd_T62 l0 a1).f1), .int .i64 ((rd_T62 l0 a1).f2), (.slice A275_3 ((rd_T62 l0 a1).f3).length c275_3)] 62 (0, 0))) ∧ Aside0 (Below w.heap.size w wc))
 case first =>
  have H := HC7.out
  clear HC7
  by_cases c10 : ((rd_T62 l0 a1).f0) = 4
  rotate_left
  · rw [if_neg c10] at H
    have c10b0 : (((rd_T62 l0 a1).f0) == 4) = false := beq_eq_false_iff_ne.mpr c10
    have c10b1 : (((rd_T62 l0 a1).f0) != 4) = true := bne_iff_ne.mpr c10
    (first | rw [c10b0] | (simp only [i64_w, i32_w]; rw [c10b0]) | skip)
    have H' := ak H
    clear H
    obtain ⟨hcz12_0, hcz12_1, hcz12_2, hcz12_3, hfz12_0, hfz12_1, hfz12_2, hfz12_3⟩ := bz4_ BK276
    go_wp2
    go_meet
    case rel => exact ⟨_, (false), (by first | rfl | (simp; done) | (simp [*]; done)), H', ⟨by first | omega | exact Nat.le_refl _⟩, ⟨by (with_reducible repeat (first | refine blk_drewN ?_ _ | refine blk_drew ?_ | refine blk_alloc ?_ _)); refine blk_put (cs := #[.int .i64 ((rd_T62 l0 a1).f0), .int .i64 ((rd_T62 l0 a1).f1), .int .i64 ((rd_T62 l0 a1).f2), .slice none 0 0]) ?_ 3 _ rfl; (with_reducible repeat (first | refine blk_drewN ?_ _ | refine blk_drew ?_ | refine blk_alloc ?_ _)); refine blk_put (cs := #[.int .i64 ((rd_T62 l0 a1).f0), .int .i64 ((rd_T62 l0 a1).f1), .int .i64 0, .slice none 0 0]) ?_ 2 _ rfl; (with_reducible repeat (first | refine blk_drewN ?_ _ | refine blk_drew ?_ | refine blk_alloc ?_ _)); refine blk_put (cs := #[.int .i64 ((rd_T62 l0 a1).f0), .int .i64 0, .int .i64 0, .slice none 0 0]) ?_ 1 _ rfl; (with_reducible repeat (first | refine blk_drewN ?_ _ | refine blk_drew ?_ | refine blk_alloc ?_ _)); refine blk_put (cs := #[.int .i64 0, .int .i64 0, .int .i64 0, .slice none 0 0]) ?_ 0 _ rfl; (with_reducible repeat (first | refine blk_drewN ?_ _ | refine blk_drew ?_ | refine blk_alloc ?_ _)); exact BK276.out⟩, ⟨bsw_⟩⟩
  rw [if_pos c10] at H
  have c10b0 : (((rd_T62 l0 a1).f0) == 4) = true := beq_iff_eq.mpr c10
  have c10b1 : (((rd_T62 l0 a1).f0) != 4) = false := bne_eq_false_iff_eq.mpr c10
  clear c10
  (first | rw [c10b0] | (simp only [i64_w, i32_w]; rw [c10b0]) | skip)
  have H' := ak H
  clear H
  obtain ⟨hcz11_0, hcz11_1, hcz11_2, hcz11_3, hfz11_0, hfz11_1, hfz11_2, hfz11_3⟩ := bz4_ BK276
  go_wp2
  go_meet
  case rel => exact ⟨_, (decide ((wrap64 ((wrap64 (a1 + 1)) + ((rd_T62 l0 a1).f1))) > a2)), (by first | rfl | (simp; done) | (simp [*]; done)), H', ⟨by first | omega | exact Nat.le_refl _⟩, ⟨by (with_reducible repeat (first | refine blk_drewN ?_ _ | refine blk_drew ?_ | refine blk_alloc ?_ _)); refine blk_put (cs := #[.int .i64 ((rd_T62 l0 a1).f0), .int .i64 ((rd_T62 l0 a1).f1), .int .i64 ((rd_T62 l0 a1).f2), .slice none 0 0]) ?_ 3 _ rfl; (with_reducible repeat (first | refine blk_drewN ?_ _ | refine blk_drew ?_ | refine blk_alloc ?_ _)); refine blk_put (cs := #[.int .i64 ((rd_T62 l0 a1).f0), .int .i64 ((rd_T62 l0 a1).f1), .int .i64 0, .slice none 0 0]) ?_ 2 _ rfl; (with_reducible repeat (first | refine blk_drewN ?_ _ | refine blk_drew ?_ | refine blk_alloc ?_ _)); refine blk_put (cs := #[.int .i64 ((rd_T62 l0 a1).f0), .int .i64 0, .int .i64 0, .slice none 0 0]) ?_ 1 _ rfl; (with_reducible repeat (first | refine blk_drewN ?_ _ | refine blk_drew ?_ | refine blk_alloc ?_ _)); refine blk_put (cs := #[.int .i64 0, .int .i64 0, .int .i64 0, .slice none 0 0]) ?_ 0 _ rfl; (with_reducible repeat (first | refine blk_drewN ?_ _ | refine blk_drew ?_ | refine blk_alloc ?_ _)); exact BK276.out⟩, ⟨bsw_⟩⟩
 case rest =>
  clear HC7
  try clear c1
  try clear c2
  try clear p2
  try clear q2
  try clear hx2
  try clear c4
  try clear c4b0
  try clear c4b1
  try clear c5
  try clear c5b0
  try clear c6
  try clear c6b0
  try clear p6
  try clear c10
  try clear c10b0
  try clear c10b1
  try clear hcz11_0
  try clear hcz11_1
  try clear hcz11_2
  try clear hcz11_3
  try clear hcz12_0
  try clear hcz12_1
  try clear hcz12_2
  try clear hcz12_3
  try clear hcz9_0
  try clear hcz9_1
  try clear hcz9_2
  try clear hcz9_3
  try clear hfz11_0
  try clear hfz11_1
  try clear hfz11_2
  try clear hfz11_3
  try clear hfz12_0
  try clear hfz12_1
  try clear hfz12_2
  try clear hfz12_3
  try clear hfz9_0
  try clear hfz9_1
  try clear hfz9_2
  try clear hfz9_3
  try clear hx275_0
  try clear hx275_1
  try clear hx275_2
  try clear hx275_3
  try clear p275
  try clear q275
  obtain ⟨kq, x35_6, rfl, HA, HJ6, BK276, HB⟩ := hcut
  cases kq with
  | zero => exact absurd HA.out (by simp [handshakerref08_well.j0])
  | succ kj6 =>
   have H := HA.out
   clear HA
   simp only [handshakerref08_well.j0] at H
   by_cases c13 : x35_6 = true
   · subst c13
     rw [if_pos rfl] at H
     simp only [Option.some.injEq, Prod.mk.injEq] at H
     obtain ⟨rfl, rfl⟩ := H
     go_wp2
     go_ret2
     exact ⟨by first | rfl | (simp [errW_none, errW_some] <;> rfl) | (simp [*, errW_none, errW_some] <;> rfl), bsw_⟩
   replace c13 := Bool.eq_false_iff.mpr c13
   subst c13
   rw [if_neg (show ¬ (false = true) by decide)] at H
   by_cases c14 : ((rd_T62 l0 a1).f0) = 7
   rotate_left
   · rw [if_neg c14] at H
     have c14b0 : (((rd_T62 l0 a1).f0) == 7) = false := beq_eq_false_iff_ne.mpr c14
     have c14b1 : (((rd_T62 l0 a1).f0) != 7) = true := bne_iff_ne.mpr c14
     replace H := Option.bind_eq_some_iff.mp H
     obtain ⟨⟨t277, t278⟩, A360, H⟩ := H
     have A36 := ak A360
     clear A360
     simp only [Option.some.injEq, Prod.mk.injEq] at H
     obtain ⟨rfl, rfl⟩ := H
     obtain ⟨hcz37_0, hcz37_1, hcz37_2, hcz37_3, hfz37_0, hfz37_1, hfz37_2, hfz37_3⟩ := bz4_ BK276
     go_wp2_with (first | ((with_reducible refine gate_callee (f := 26) rfl ?_); refine goesL_ (some 43) rfl rfl Try.func26 (by kernel_rfl) rfl #[.slice (some ad275) l0.length c0, .int .i64 (wrap64 (a1 + 1)), .int .i64 a2] rfl mp_ ?_; (with_reducible refine (ih kj6 (by have := HJ6.out; omega) _ _ l0 (wrap64 (a1 + 1)) a2 t277 t278 _ ?side1 ?side2 A36.out).mono ?_); (case side1 => exact cb_ HR0 HB); (case side2 => exact HC0.out); rintro e w38 ⟨rfl, hb⟩; refine ⟨_, rfl, ?_⟩; replace BK276 := bb_ BK276 hb; replace HB := ak (below_step bsw_ hb); (try clear hb)))
     go_ret2
     exact ⟨by first | rfl | (simp [errW_none, errW_some] <;> rfl) | (simp [*, errW_none, errW_some] <;> rfl), bsw_⟩
   rw [if_pos c14] at H
   have c14b0 : (((rd_T62 l0 a1).f0) == 7) = true := beq_iff_eq.mpr c14
   have c14b1 : (((rd_T62 l0 a1).f0) != 7) = false := bne_eq_false_iff_eq.mpr c14
   clear c14
   by_cases c15 : (wrap64 ((wrap64 ((wrap64 (a1 + 1)) + ((rd_T62 l0 a1).f1))) + ((rd_T62 l0 a1).f2))) > a2
   · rw [if_pos c15] at H
     have c15b0 : decide (a2 < (wrap64 ((wrap64 ((wrap64 (a1 + 1)) + ((rd_T62 l0 a1).f1))) + ((rd_T62 l0 a1).f2)))) = true := decide_eq_true c15
     clear c15
     simp only [Option.some.injEq, Prod.mk.injEq] at H
     obtain ⟨rfl, rfl⟩ := H
     obtain ⟨hcz16_0, hcz16_1, hcz16_2, hcz16_3, hfz16_0, hfz16_1, hfz16_2, hfz16_3⟩ := bz4_ BK276
     go_wp2
     go_ret2
     exact ⟨by first | rfl | (simp [errW_none, errW_some] <;> rfl) | (simp [*, errW_none, errW_some] <;> rfl), bsw_⟩
   rw [if_neg c15] at H
   have c15b0 : decide (a2 < (wrap64 ((wrap64 ((wrap64 (a1 + 1)) + ((rd_T62 l0 a1).f1))) + ((rd_T62 l0 a1).f2)))) = false := decide_eq_false c15
   clear c15
   replace H := Option.bind_eq_some_iff.mp H
   obtain ⟨⟨t279, t280⟩, A170, H⟩ := H
   have A17 := ak A170
   clear A170
   replace H := Option.bind_eq_some_iff.mp H
   obtain ⟨⟨t281, t282⟩, A180, H⟩ := H
   have A18 := ak A180
   clear A180
   replace H := Option.bind_eq_some_iff.mp H
   obtain ⟨⟨t283, t284⟩, A190, H⟩ := H
   have A19 := ak A190
   clear A190
   obtain ⟨ji20, hji20⟩ : ∃ j_ : Int, (mx t283 (wrap64 (1 + t279))) = j_ := ⟨_, rfl⟩
   replace H : (if t280 = true then (if t282 = true then (some (mx (ji20) (wrap64 (1 + t281)), t284)) else (some (mx (ji20) (wrap64 (1 + t281)), false))) else (some (mx (ji20) (wrap64 (1 + t281)), false))) = some (r1, r2) := by first | (rw [hji20] at H; exact H) | (simp only [hji20] at H ⊢; exact H)
   (try rw [hji20] at A17)
   (try rw [hji20] at A18)
   (try rw [hji20] at A19)
   have hji20_ : (if t283 < (wrap64 (1 + t279)) then (wrap64 (1 + t279)) else t283) = ji20 := hji20
   obtain ⟨ji21, hji21⟩ : ∃ j_ : Int, (mx (ji20) (wrap64 (1 + t281))) = j_ := ⟨_, rfl⟩
   replace H : (if t280 = true then (if t282 = true then (some (ji21, t284)) else (some (ji21, false))) else (some (ji21, false))) = some (r1, r2) := by first | (rw [hji21] at H; exact H) | (simp only [hji21] at H ⊢; exact H)
   (try rw [hji21] at A17)
   (try rw [hji21] at A18)
   (try rw [hji21] at A19)
   have hji21_ : (if (ji20) < (wrap64 (1 + t281)) then (wrap64 (1 + t281)) else (ji20)) = ji21 := hji21
   by_cases c22 : t280 = true
   rotate_left
   · replace c22 := Bool.eq_false_iff.mpr c22
     subst c22
     rw [if_neg (show ¬ (false = true) by decide)] at H
     simp only [Option.some.injEq, Prod.mk.injEq] at H
     obtain ⟨rfl, rfl⟩ := H
     obtain ⟨hcz32_0, hcz32_1, hcz32_2, hcz32_3, hfz32_0, hfz32_1, hfz32_2, hfz32_3⟩ := bz4_ BK276
     go_wp2_with (first | ((with_reducible refine gate_callee (f := 26) rfl ?_); refine goesL_ (some 63) rfl rfl Try.func26 (by kernel_rfl) rfl #[.slice (some ad275) l0.length c0, .int .i64 (wrap64 (a1 + 1)), .int .i64 (wrap64 ((wrap64 (a1 + 1)) + ((rd_T62 l0 a1).f1)))] rfl mp_ ?_; (with_reducible refine (ih kj6 (by have := HJ6.out; omega) _ _ l0 (wrap64 (a1 + 1)) (wrap64 ((wrap64 (a1 + 1)) + ((rd_T62 l0 a1).f1))) t279 false _ ?side1 ?side2 A17.out).mono ?_); (case side1 => exact cb_ HR0 HB); (case side2 => exact HC0.out); rintro e w33 ⟨rfl, hb⟩; refine ⟨_, rfl, ?_⟩; replace BK276 := bb_ BK276 hb; replace HB := ak (below_step bsw_ hb); (try clear hb)) | ((with_reducible refine gate_callee (f := 26) rfl ?_); refine goesL_ (some 70) rfl rfl Try.func26 (by kernel_rfl) rfl #[.slice (some ad275) l0.length c0, .int .i64 (wrap64 ((wrap64 (a1 + 1)) + ((rd_T62 l0 a1).f1))), .int .i64 (wrap64 ((wrap64 ((wrap64 (a1 + 1)) + ((rd_T62 l0 a1).f1))) + ((rd_T62 l0 a1).f2)))] rfl mp_ ?_; (with_reducible refine (ih kj6 (by have := HJ6.out; omega) _ _ l0 (wrap64 ((wrap64 (a1 + 1)) + ((rd_T62 l0 a1).f1))) (wrap64 ((wrap64 ((wrap64 (a1 + 1)) + ((rd_T62 l0 a1).f1))) + ((rd_T62 l0 a1).f2))) t281 t282 _ ?side1 ?side2 A18.out).mono ?_); (case side1 => exact cb_ HR0 HB); (case side2 => exact HC0.out); rintro e w34 ⟨rfl, hb⟩; refine ⟨_, rfl, ?_⟩; replace BK276 := bb_ BK276 hb; replace HB := ak (below_step bsw_ hb); (try clear hb)) | ((with_reducible refine gate_callee (f := 26) rfl ?_); refine goesL_ (some 77) rfl rfl Try.func26 (by kernel_rfl) rfl #[.slice (some ad275) l0.length c0, .int .i64 (wrap64 ((wrap64 ((wrap64 (a1 + 1)) + ((rd_T62 l0 a1).f1))) + ((rd_T62 l0 a1).f2))), .int .i64 a2] rfl mp_ ?_; (with_reducible refine (ih kj6 (by have := HJ6.out; omega) _ _ l0 (wrap64 ((wrap64 ((wrap64 (a1 + 1)) + ((rd_T62 l0 a1).f1))) + ((rd_T62 l0 a1).f2))) a2 t283 t284 _ ?side1 ?side2 A19.out).mono ?_); (case side1 => exact cb_ HR0 HB); (case side2 => exact HC0.out); rintro e w35 ⟨rfl, hb⟩; refine ⟨_, rfl, ?_⟩; replace BK276 := bb_ BK276 hb; replace HB := ak (below_step bsw_ hb); (try clear hb)))
     go_ret2
     exact ⟨by first | rfl | (simp [errW_none, errW_some] <;> rfl) | (simp only [← hji20, ← hji21]; first | rfl | (simp [errW_none, errW_some] <;> rfl)) | (simp [*, errW_none, errW_some] <;> rfl), bsw_⟩
   subst c22
   rw [if_pos rfl] at H
   by_cases c23 : t282 = true
   · subst c23
     rw [if_pos rfl] at H
     simp only [Option.some.injEq, Prod.mk.injEq] at H
     obtain ⟨rfl, rfl⟩ := H
     obtain ⟨hcz24_0, hcz24_1, hcz24_2, hcz24_3, hfz24_0, hfz24_1, hfz24_2, hfz24_3⟩ := bz4_ BK276
     go_wp2_with (first | ((with_reducible refine gate_callee (f := 26) rfl ?_); refine goesL_ (some 63) rfl rfl Try.func26 (by kernel_rfl) rfl #[.slice (some ad275) l0.length c0, .int .i64 (wrap64 (a1 + 1)), .int .i64 (wrap64 ((wrap64 (a1 + 1)) + ((rd_T62 l0 a1).f1)))] rfl mp_ ?_; (with_reducible refine (ih kj6 (by have := HJ6.out; omega) _ _ l0 (wrap64 (a1 + 1)) (wrap64 ((wrap64 (a1 + 1)) + ((rd_T62 l0 a1).f1))) t279 true _ ?side1 ?side2 A17.out).mono ?_); (case side1 => exact cb_ HR0 HB); (case side2 => exact HC0.out); rintro e w25 ⟨rfl, hb⟩; refine ⟨_, rfl, ?_⟩; replace BK276 := bb_ BK276 hb; replace HB := ak (below_step bsw_ hb); (try clear hb)) | ((with_reducible refine gate_callee (f := 26) rfl ?_); refine goesL_ (some 70) rfl rfl Try.func26 (by kernel_rfl) rfl #[.slice (some ad275) l0.length c0, .int .i64 (wrap64 ((wrap64 (a1 + 1)) + ((rd_T62 l0 a1).f1))), .int .i64 (wrap64 ((wrap64 ((wrap64 (a1 + 1)) + ((rd_T62 l0 a1).f1))) + ((rd_T62 l0 a1).f2)))] rfl mp_ ?_; (with_reducible refine (ih kj6 (by have := HJ6.out; omega) _ _ l0 (wrap64 ((wrap64 (a1 + 1)) + ((rd_T62 l0 a1).f1))) (wrap64 ((wrap64 ((wrap64 (a1 + 1)) + ((rd_T62 l0 a1).f1))) + ((rd_T62 l0 a1).f2))) t281 true _ ?side1 ?side2 A18.out).mono ?_); (case side1 => exact cb_ HR0 HB); (case side2 => exact HC0.out); rintro e w26 ⟨rfl, hb⟩; refine ⟨_, rfl, ?_⟩; replace BK276 := bb_ BK276 hb; replace HB := ak (below_step bsw_ hb); (try clear hb)) | ((with_reducible refine gate_callee (f := 26) rfl ?_); refine goesL_ (some 77) rfl rfl Try.func26 (by kernel_rfl) rfl #[.slice (some ad275) l0.length c0, .int .i64 (wrap64 ((wrap64 ((wrap64 (a1 + 1)) + ((rd_T62 l0 a1).f1))) + ((rd_T62 l0 a1).f2))), .int .i64 a2] rfl mp_ ?_; (with_reducible refine (ih kj6 (by have := HJ6.out; omega) _ _ l0 (wrap64 ((wrap64 ((wrap64 (a1 + 1)) + ((rd_T62 l0 a1).f1))) + ((rd_T62 l0 a1).f2))) a2 t283 t284 _ ?side1 ?side2 A19.out).mono ?_); (case side1 => exact cb_ HR0 HB); (case side2 => exact HC0.out); rintro e w27 ⟨rfl, hb⟩; refine ⟨_, rfl, ?_⟩; replace BK276 := bb_ BK276 hb; replace HB := ak (below_step bsw_ hb); (try clear hb)))
     go_ret2
     exact ⟨by first | rfl | (simp [errW_none, errW_some] <;> rfl) | (simp only [← hji20, ← hji21]; first | rfl | (simp [errW_none, errW_some] <;> rfl)) | (simp [*, errW_none, errW_some] <;> rfl), bsw_⟩
   replace c23 := Bool.eq_false_iff.mpr c23
   subst c23
   rw [if_neg (show ¬ (false = true) by decide)] at H
   simp only [Option.some.injEq, Prod.mk.injEq] at H
   obtain ⟨rfl, rfl⟩ := H
   obtain ⟨hcz28_0, hcz28_1, hcz28_2, hcz28_3, hfz28_0, hfz28_1, hfz28_2, hfz28_3⟩ := bz4_ BK276
   go_wp2_with (first | ((with_reducible refine gate_callee (f := 26) rfl ?_); refine goesL_ (some 63) rfl rfl Try.func26 (by kernel_rfl) rfl #[.slice (some ad275) l0.length c0, .int .i64 (wrap64 (a1 + 1)), .int .i64 (wrap64 ((wrap64 (a1 + 1)) + ((rd_T62 l0 a1).f1)))] rfl mp_ ?_; (with_reducible refine (ih kj6 (by have := HJ6.out; omega) _ _ l0 (wrap64 (a1 + 1)) (wrap64 ((wrap64 (a1 + 1)) + ((rd_T62 l0 a1).f1))) t279 true _ ?side1 ?side2 A17.out).mono ?_); (case side1 => exact cb_ HR0 HB); (case side2 => exact HC0.out); rintro e w29 ⟨rfl, hb⟩; refine ⟨_, rfl, ?_⟩; replace BK276 := bb_ BK276 hb; replace HB := ak (below_step bsw_ hb); (try clear hb)) | ((with_reducible refine gate_callee (f := 26) rfl ?_); refine goesL_ (some 70) rfl rfl Try.func26 (by kernel_rfl) rfl #[.slice (some ad275) l0.length c0, .int .i64 (wrap64 ((wrap64 (a1 + 1)) + ((rd_T62 l0 a1).f1))), .int .i64 (wrap64 ((wrap64 ((wrap64 (a1 + 1)) + ((rd_T62 l0 a1).f1))) + ((rd_T62 l0 a1).f2)))] rfl mp_ ?_; (with_reducible refine (ih kj6 (by have := HJ6.out; omega) _ _ l0 (wrap64 ((wrap64 (a1 + 1)) + ((rd_T62 l0 a1).f1))) (wrap64 ((wrap64 ((wrap64 (a1 + 1)) + ((rd_T62 l0 a1).f1))) + ((rd_T62 l0 a1).f2))) t281 false _ ?side1 ?side2 A18.out).mono ?_); (case side1 => exact cb_ HR0 HB); (case side2 => exact HC0.out); rintro e w30 ⟨rfl, hb⟩; refine ⟨_, rfl, ?_⟩; replace BK276 := bb_ BK276 hb; replace HB := ak (below_step bsw_ hb); (try clear hb)) | ((with_reducible refine gate_callee (f := 26) rfl ?_); refine goesL_ (some 77) rfl rfl Try.func26 (by kernel_rfl) rfl #[.slice (some ad275) l0.length c0, .int .i64 (wrap64 ((wrap64 ((wrap64 (a1 + 1)) + ((rd_T62 l0 a1).f1))) + ((rd_T62 l0 a1).f2))), .int .i64 a2] rfl mp_ ?_; (with_reducible refine (ih kj6 (by have := HJ6.out; omega) _ _ l0 (wrap64 ((wrap64 ((wrap64 (a1 + 1)) + ((rd_T62 l0 a1).f1))) + ((rd_T62 l0 a1).f2))) a2 t283 t284 _ ?side1 ?side2 A19.out).mono ?_); (case side1 => exact cb_ HR0 HB); (case side2 => exact HC0.out); rintro e w31 ⟨rfl, hb⟩; refine ⟨_, rfl, ?_⟩; replace BK276 := bb_ BK276 hb; replace HB := ak (below_step bsw_ hb); (try clear hb)))
   go_ret2
   exact ⟨by first | rfl | (simp [errW_none, errW_some] <;> rfl) | (simp only [← hji20, ← hji21]; first | rfl | (simp [errW_none, errW_some] <;> rfl)) | (simp [*, errW_none, errW_some] <;> rfl), bsw_⟩

end Go.Proofs.Ytpeblomhhofhkaa.H
