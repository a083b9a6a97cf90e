-- PRINTED by print.py (a twelfth state) out of the translation. Not trusted: Lean checks it.
import Derived.Test.YtjnkpocfmpbpoaaSex0
import Derived.Test.YtjnkpocfmpbpoaaSex7
import Derived.Test.YtjnkpocfmpbpoaaSex9
import Derived.Test.YtjnkpocfmpbpoaaSex10
import Derived.Test.YtjnkpocfmpbpoaaSex11
namespace Go.Proofs.Ytjnkpocfmpbpoaa.Se
open Go.Proofs.Ytjnkpocfmpbpoaa.Ho
open Go.RowKit Go.Proofs.YtjnkpocfmpbpoaaW.PrintWords Go.Proofs.YtjnkpocfmpbpoaaW.PrintLast Go.Proofs.YtjnkpocfmpbpoaaW.PrintMore
attribute [local go_sem] max2_int min2_int max_two min_two max_three min_three max_four min_four   -- for this text's walks alone
set_option linter.unusedVariables false
set_option linter.unusedSimpArgs false

/-! ### handshakerlaw15_SleepReads: function 4 -/
def handshakerlaw15_SleepReads.l0 : Nat → List (S57) → Int → List (S62) → Bool → List (S57) → Int → Int → Option (Bool)
 | 0, _, _, _, _, _, _, _ => none
 | k + 1, x0, x1, x5, x6, x17, x18, x19 => if x19 < x18 then (if 0 ≤ x19 then (if x19 < (x17.length : Int) then (if x6 = true then (handshakerlaw15_SleepReads.l0 k x0 x1 x5 true x17 x18 (wrap64 (x19 + 1))) else (handshakerlaw15_SleepReads.l0 k x0 x1 x5 (decide (((rd_T57 x17 x19).f0) > 63)) x17 x18 (wrap64 (x19 + 1)))) else (none)) else (none)) else ((sleep_Add.f k ([] : List (S26)) (wrap64 (1 + (wrap64 (Int.tmod x1 8)))) 1 0 x5 ([] : List (S80))).bind fun bt345 => ((handshakerref15_Watched.f k x0).bind fun t349 => ((handshakerref06_List.f k x5 t349).bind fun t352 => (if t352 = true then (if bt345.2 = 0 then ((handshakerlaw15_awake.f k).bind fun t353 => (some t353)) else (if x6 = true then ((handshakerlaw15_awake.f k).bind fun t354 => (some t354)) else (some false))) else (some false)))))
def handshakerlaw15_SleepReads.f (k : Nat) (l0 : List (S57)) (a1 : Int) : Option (Bool) := if (l0.length : Int) > 40 then ((handshakerlaw15_awake.f k).bind fun t339 => (some t339)) else ((sleep_Watched.f k l0).bind fun t340 => (handshakerlaw15_SleepReads.l0 k l0 a1 t340 false l0 (l0.length : Int) 0))
theorem handshakerlaw15_SleepReads.mono_l : ∀ k, (∀ y0 y1 y2 y3 y4 y5 y6, LeO (handshakerlaw15_SleepReads.l0 k y0 y1 y2 y3 y4 y5 y6) (handshakerlaw15_SleepReads.l0 (k + 1) y0 y1 y2 y3 y4 y5 y6))
 | 0 => fun _ _ _ _ _ _ _ r h => by simp [handshakerlaw15_SleepReads.l0] at h
 | k + 1 => by
  have ih0 := handshakerlaw15_SleepReads.mono_l k
  · intro y0 y1 y2 y3 y4 y5 y6
    unfold handshakerlaw15_SleepReads.l0
    repeat' first
    | (with_reducible exact ih0 _ _ _ _ _ _ _)
    | (with_reducible exact handshakerlaw15_awake.mono _)
    | (with_reducible exact handshakerref06_List.mono _ _ _)
    | (with_reducible exact handshakerref15_Watched.mono _ _)
    | (with_reducible exact sleep_Add.mono _ _ _ _ _ _ _)
    | (with_reducible exact sleep_Watched.mono _ _)
    | (with_reducible exact LeO.refl _)
    | (with_reducible exact LeO.none _)
    | (with_reducible refine LeO.ite ?_ ?_)
    | (with_reducible refine LeO.bind ?_ (fun _ => ?_))
    | exact ih0 _ _ _ _ _ _ _
    | exact handshakerlaw15_awake.mono _
    | exact handshakerref06_List.mono _ _ _
    | exact handshakerref15_Watched.mono _ _
    | exact sleep_Add.mono _ _ _ _ _ _ _
    | exact sleep_Watched.mono _ _
    | exact LeO.none _
    | refine LeO.ite ?_ ?_
    | refine LeO.bind ?_ (fun _ => ?_)
theorem handshakerlaw15_SleepReads.mono : ∀ a0 a1 k, LeO (handshakerlaw15_SleepReads.f k a0 a1) (handshakerlaw15_SleepReads.f (k + 1) a0 a1) := by
 intro a0 a1 k
 have ih0 := handshakerlaw15_SleepReads.mono_l k
 unfold handshakerlaw15_SleepReads.f
 repeat' first
  | (with_reducible exact ih0 _ _ _ _ _ _ _)
  | (with_reducible exact handshakerlaw15_awake.mono _)
  | (with_reducible exact handshakerref06_List.mono _ _ _)
  | (with_reducible exact handshakerref15_Watched.mono _ _)
  | (with_reducible exact sleep_Add.mono _ _ _ _ _ _ _)
  | (with_reducible exact sleep_Watched.mono _ _)
  | (with_reducible exact LeO.refl _)
  | (with_reducible exact LeO.none _)
  | (with_reducible refine LeO.ite ?_ ?_)
  | (with_reducible refine LeO.bind ?_ (fun _ => ?_))
  | exact ih0 _ _ _ _ _ _ _
  | exact handshakerlaw15_awake.mono _
  | exact handshakerref06_List.mono _ _ _
  | exact handshakerref15_Watched.mono _ _
  | exact sleep_Add.mono _ _ _ _ _ _ _
  | exact sleep_Watched.mono _ _
  | exact LeO.none _
  | refine LeO.ite ?_ ?_
  | refine LeO.bind ?_ (fun _ => ?_)
set_option maxHeartbeats 8000000 in
set_option maxRecDepth 100000 in
theorem handshakerlaw15_SleepReads.calls (k : Nat) (A0 : Option Addr) (c0 : Nat) (l0 : List (S57)) (a1 : Int) (r : Bool) (w : World) (HT : Aside0 (r = true)) (hr0 : Kd.C k57 w A0 l0.length l0) (hc0 : l0.length ≤ c0) (h : handshakerlaw15_SleepReads.f k l0 a1 = some r) :
 Calls Try.prog 4 #[.slice A0 l0.length c0, .int .u8 a1] w fun e w' => e = .returned (.bool r) ∧ Below w.heap.size w w' := by
 have hu57 := Try.underlying57
 have hu26 := Try.underlying26
 have HR0 := Aside0.mk hr0
 have HC0 := Aside0.mk hc0
 clear hr0 hc0
 have HB := Aside0.mk (Below.refl w.heap.size w)
 have H : (if (l0.length : Int) > 40 then ((handshakerlaw15_awake.f k).bind fun t339 => (some t339)) else ((sleep_Watched.f k l0).bind fun t340 => (handshakerlaw15_SleepReads.l0 k l0 a1 t340 false l0 (l0.length : Int) 0))) = some r := h
 clear h
 by_cases c3 : (l0.length : Int) > 40
 · rw [if_pos c3] at H
   have c3b0 : decide (40 < (l0.length : Int)) = true := decide_eq_true c3
   have c3b1 : decide (40 < l0.length) = true := decide_eq_true (by omega)
   clear c3
   replace H := Option.bind_eq_some_iff.mp H
   obtain ⟨t339, A40, H⟩ := H
   have A4 := Aside0.mk A40
   clear A40
   obtain rfl := Option.some.inj H
   go_enter Try.func4, Try.ntmps4
   go_wp2_with (first | ((with_reducible refine gate_callee (f := 15) rfl ?_); refine goesL_ (some 14) rfl rfl Try.func15 (by kernel_rfl) rfl #[] rfl mp_ ?_; (with_reducible refine (handshakerlaw15_awake.calls k  t339 _ A4.out).mono ?_); rintro e w5 ⟨rfl, hb⟩; refine ⟨_, rfl, ?_⟩; replace HB := Aside0.mk (bst_ hb); (try clear hb); (try clear hb2); (try clear hk); (try clear hi)))
   go_ret
   exact ⟨by first | rfl | (simp [errW_none, errW_some] <;> rfl) | (simp [*, errW_none, errW_some] <;> rfl), bsv_⟩
 · rw [if_neg c3] at H
   have c3b0 : decide (40 < (l0.length : Int)) = false := decide_eq_false c3
   have c3b1 : decide (40 < l0.length) = false := decide_eq_false (by omega)
   clear c3
   replace H := Option.bind_eq_some_iff.mp H
   obtain ⟨t340, A60, H⟩ := H
   have A6 := Aside0.mk A60
   clear A60
   have H' := Aside0.mk H
   clear H
   go_enter Try.func4, Try.ntmps4
   go_wp2_with (first | ((with_reducible refine gate_callee (f := 31) rfl ?_); refine goesL_ (some 16) rfl rfl Try.func31 (by kernel_rfl) rfl #[.slice A0 l0.length c0] rfl mp_ ?_; (with_reducible refine (sleep_Watched.calls k _ _ l0 t340 _ ?side1 ?side2 A6.out).mono ?_); (case side1 => repeat (first | exact HR0.out | with_reducible first | refine Kd.C_alloc ?_ _ | refine Kd.C_drewN ?_ _ | refine Kd.C_drew ?_)); (case side2 => exact HC0.out); rintro e w7 ⟨v341, rfl, ho0, hb⟩; refine ⟨_, rfl, ?_⟩; replace HO342 := Aside0.mk (Kd.R_lower ho0 bsz_); replace HB := Aside0.mk (bst_ hb); (try clear hb); (try clear hb2); (try clear hk); (try clear hi); (try clear ho0)))
   go_loopg [6, 19] k (fun kq v6 v19 w' => ∃ (x6_1 : Bool) (x19_1 : Int), v6 = .bool x6_1 ∧ v19 = .int .i64 x19_1 ∧ Aside0 (handshakerlaw15_SleepReads.l0 kq l0 a1 t340 x6_1 l0 (l0.length : Int) x19_1 = some r) ∧ Aside0 (kq ≤ k) ∧ Aside0 (Kd.R k62 62 w' w.heap.size (fun _ => True) v341 t340) ∧ Aside0 (Below w.heap.size w w'))
   case atStart => exact ⟨(false), (0), (by first | rfl | (simp; done) | (simp [*]; done)), (by first | rfl | (simp; done) | (simp [*]; done)), H', ⟨Nat.le_refl _⟩, ⟨rq_ HO342⟩, ⟨bsv_⟩⟩
   case round =>
    clear H'
    try clear c1
    try clear p2
    try clear c3
    try clear c3b0
    try clear c3b1
    try clear c4
    obtain ⟨x6_1, x19_1, rfl, rfl, HA, HK1, HO_5, HB⟩ := hrel
    cases gk with
    | zero => exact absurd HA.out (by simp [handshakerlaw15_SleepReads.l0])
    | succ k1 =>
     have H := HA.out
     clear HA
     simp only [handshakerlaw15_SleepReads.l0] at H
     by_cases c8 : x19_1 < (l0.length : Int)
     · rw [if_pos c8] at H
       have c8b0 : decide (x19_1 < (l0.length : Int)) = true := decide_eq_true c8
       clear c8
       by_cases c9 : 0 ≤ x19_1
       · rw [if_pos c9] at H
         have c9b0 : decide (0 ≤ x19_1) = true := decide_eq_true c9
         clear c9
         by_cases c10 : x19_1 < (l0.length : Int)
         · rw [if_pos c10] at H
           have c10b0 : decide (x19_1 < (l0.length : Int)) = true := decide_eq_true c10
           clear c10
           by_cases c11 : x6_1 = true
           · subst c11
             rw [if_pos rfl] at H
             have H' := Aside0.mk H
             clear H
             have p343 : 0 ≤ (x19_1 : Int) := oda_
             have q343 : x19_1 < (l0.length : Int) := oda_
             obtain ⟨ad343, e343, hx343_0, hx343_1, hx343_2⟩ := at_T57 HR0.out x19_1 p343 q343
             cases e343
             replace hx343_0 := (HB.out.cell (World.block_lt_of_cell? w _ hx343_0)).trans hx343_0
             replace hx343_1 := (HB.out.cell (World.block_lt_of_cell? w _ hx343_1)).trans hx343_1
             replace hx343_2 := (HB.out.cell (World.block_lt_of_cell? w _ hx343_2)).trans hx343_2
             replace p343 := eq_true p343
             replace q343 := eq_true q343
             go_wp2_with (first | ((with_reducible refine gate_dst (N := 8) rfl ?_); refine box_event ?hg (N := 8) ?hd (cs := #[.int .i64 0, .int .i64 0, .int .i64 0]) (t := 57) ?hr ?_; (case hd => rfl); (case hg => rfl); (case hr => first | (go_simp; done) | (go_simp; rfl)); intro gb344 hg w12 hbox hb; replace HO_5 := rb_ HO_5 hb; replace BK344 := Aside0.mk (hbox); replace GW344 := Aside0.mk ((by rw [hg]; exact bsz_ : w.heap.size ≤ gb344)); replace HB := Aside0.mk (bst_ hb); replace GE344 := GW344; clear hb hbox hg; have hcz13_0 : w12.cell? ⟨gb344, 0, none⟩ = some (.int .i64 0) := (blk_cell BK344.out 0).trans rfl; have hcz13_1 : w12.cell? ⟨gb344, 1, none⟩ = some (.int .i64 0) := (blk_cell BK344.out 1).trans rfl; have hcz13_2 : w12.cell? ⟨gb344, 2, none⟩ = some (.int .i64 0) := (blk_cell BK344.out 2).trans rfl; have hfz13_0 := blk_frozen BK344.out 0; have hfz13_1 := blk_frozen BK344.out 1; have hfz13_2 := blk_frozen BK344.out 2))
             go_roundg k1
             case measure => have := HK1.out; omega
             case rel => exact ⟨(true), (wrap64 (x19_1 + 1)), (by first | rfl | (simp; done) | (simp [*]; done)), (by first | rfl | (simp; done) | (simp [*]; done)), H', ⟨by have := HK1.out; omega⟩, ⟨by (with_reducible repeat (first | apply Kd.R_alloc | apply Kd.R_drewN | apply Kd.R_drew)); exact Kd.R_mono (Kd.R_far (p := ⟨gb344, 2, none⟩) (Kd.R_far (p := ⟨gb344, 1, none⟩) (Kd.R_far (p := ⟨gb344, 0, none⟩) (Kd.R_types HO_5.out BK344.out (by decide)) (fun _ hk => hk.2) (.int .i64 ((rd_T57 l0 x19_1).f0))) (fun _ hk => hk.2) (.int .i64 ((rd_T57 l0 x19_1).f1))) (fun _ hk => hk.2) (.int .i64 ((rd_T57 l0 x19_1).f2))) (fun _ hk => trivial)⟩, ⟨bsw_⟩⟩
           · replace c11 := Bool.eq_false_iff.mpr c11
             subst c11
             rw [if_neg (show ¬ (false = true) by decide)] at H
             have H' := Aside0.mk H
             clear H
             have p343 : 0 ≤ (x19_1 : Int) := oda_
             have q343 : x19_1 < (l0.length : Int) := oda_
             obtain ⟨ad343, e343, hx343_0, hx343_1, hx343_2⟩ := at_T57 HR0.out x19_1 p343 q343
             cases e343
             replace hx343_0 := (HB.out.cell (World.block_lt_of_cell? w _ hx343_0)).trans hx343_0
             replace hx343_1 := (HB.out.cell (World.block_lt_of_cell? w _ hx343_1)).trans hx343_1
             replace hx343_2 := (HB.out.cell (World.block_lt_of_cell? w _ hx343_2)).trans hx343_2
             replace p343 := eq_true p343
             replace q343 := eq_true q343
             go_wp2_with (first | ((with_reducible refine gate_dst (N := 8) rfl ?_); refine box_event ?hg (N := 8) ?hd (cs := #[.int .i64 0, .int .i64 0, .int .i64 0]) (t := 57) ?hr ?_; (case hd => rfl); (case hg => rfl); (case hr => first | (go_simp; done) | (go_simp; rfl)); intro gb344 hg w14 hbox hb; replace HO_5 := rb_ HO_5 hb; replace BK344 := Aside0.mk (hbox); replace GW344 := Aside0.mk ((by rw [hg]; exact bsz_ : w.heap.size ≤ gb344)); replace HB := Aside0.mk (bst_ hb); replace GE344 := GW344; clear hb hbox hg; have hcz15_0 : w14.cell? ⟨gb344, 0, none⟩ = some (.int .i64 0) := (blk_cell BK344.out 0).trans rfl; have hcz15_1 : w14.cell? ⟨gb344, 1, none⟩ = some (.int .i64 0) := (blk_cell BK344.out 1).trans rfl; have hcz15_2 : w14.cell? ⟨gb344, 2, none⟩ = some (.int .i64 0) := (blk_cell BK344.out 2).trans rfl; have hfz15_0 := blk_frozen BK344.out 0; have hfz15_1 := blk_frozen BK344.out 1; have hfz15_2 := blk_frozen BK344.out 2))
             go_roundg k1
             case measure => have := HK1.out; omega
             case rel => exact ⟨(decide (((rd_T57 l0 x19_1).f0) > 63)), (wrap64 (x19_1 + 1)), (by first | rfl | (simp; done) | (simp [*]; done)), (by first | rfl | (simp; done) | (simp [*]; done)), H', ⟨by have := HK1.out; omega⟩, ⟨by (with_reducible repeat (first | apply Kd.R_alloc | apply Kd.R_drewN | apply Kd.R_drew)); exact Kd.R_mono (Kd.R_far (p := ⟨gb344, 2, none⟩) (Kd.R_far (p := ⟨gb344, 1, none⟩) (Kd.R_far (p := ⟨gb344, 0, none⟩) (Kd.R_types HO_5.out BK344.out (by decide)) (fun _ hk => hk.2) (.int .i64 ((rd_T57 l0 x19_1).f0))) (fun _ hk => hk.2) (.int .i64 ((rd_T57 l0 x19_1).f1))) (fun _ hk => hk.2) (.int .i64 ((rd_T57 l0 x19_1).f2))) (fun _ hk => trivial)⟩, ⟨bsw_⟩⟩
         · rw [if_neg c10] at H
           exact absurd H (by simp)
       · rw [if_neg c9] at H
         exact absurd H (by simp)
     · rw [if_neg c8] at H
       have c8b0 : decide (x19_1 < (l0.length : Int)) = false := decide_eq_false c8
       clear c8
       replace H := Option.bind_eq_some_iff.mp H
       obtain ⟨⟨t345, t348⟩, A160, H⟩ := H
       have A16 := Aside0.mk A160
       clear A160
       replace H := Option.bind_eq_some_iff.mp H
       obtain ⟨t349, A170, H⟩ := H
       have A17 := Aside0.mk A170
       clear A170
       replace H := Option.bind_eq_some_iff.mp H
       obtain ⟨t352, A180, H⟩ := H
       have A18 := Aside0.mk A180
       clear A180
       by_cases c19 : t352 = true
       · subst c19
         rw [if_pos rfl] at H
         by_cases c20 : t348 = 0
         · rw [if_pos c20] at H
           have c20b0 : (t348 == 0) = true := beq_iff_eq.mpr c20
           have c20b1 : (t348 != 0) = false := bne_eq_false_iff_eq.mpr c20
           clear c20
           replace H := Option.bind_eq_some_iff.mp H
           obtain ⟨t353, A210, H⟩ := H
           have A21 := Aside0.mk A210
           clear A210
           obtain rfl := Option.some.inj H
           obtain ⟨Ao22, co22, eo22⟩ := Kd.R_slice HO_5.out
           subst eo22
           go_wp2_with (first | ((with_reducible refine gate_callee (f := 17) rfl ?_); refine goesL_ (some 37) rfl rfl Try.func17 (by kernel_rfl) rfl #[.slice none 0 0, .agg #[.int .i64 (wrap64 (1 + (wrap64 (Int.tmod a1 8)))), .int .i64 1, .int .i64 0, .slice Ao22 t340.length co22, .slice none 0 0]] rfl mp_ ?_; (refine (sleep_Add.calls k1 (fun k_ => False) _ _ ([] : List (S26)) (wrap64 (1 + (wrap64 (Int.tmod a1 8)))) 1 0 (fun k_ => some k_ = (.slice Ao22 t340.length co22 : Value).ownBlock) _ _ t340 (fun k_ => False) _ _ ([] : List (S80)) t345 t348 _ ?side1 ?side2 ?side3 A16.out).mono ?_); (case side1 => exact Kd.V_nil _ _ _ _ _); (case side2 => exact Kd.R_V (Kd.R_tight rfl (HO_5.out))); (case side3 => exact Kd.V_nil _ _ _ _ _); rintro e w23 ⟨v346, rfl, ho0, hb⟩; refine ⟨_, rfl, ?_⟩; replace HO_5 := rb_ HO_5 hb; replace HO347 := Aside0.mk (Kd.V_lower (Kd.V_mono (ok' := fun k_ => True) ho0 (fun k_ hk_ => trivial)) bsz_); replace HB := Aside0.mk (bst_ hb); (try clear hb); (try clear hb2); (try clear hk); (try clear hi); (try clear ho0)) | ((with_reducible refine gate_callee (f := 33) rfl ?_); refine goesL_ (some 42) rfl rfl Try.func33 (by kernel_rfl) rfl #[.slice A0 l0.length c0] rfl mp_ ?_; (with_reducible refine (handshakerref15_Watched.calls k1 _ _ l0 t349 _ ?side1 ?side2 A17.out).mono ?_); (case side1 => repeat (first | exact (Kd.C_below HR0.out HB.out) | with_reducible first | refine Kd.C_alloc ?_ _ | refine Kd.C_drewN ?_ _ | refine Kd.C_drew ?_)); (case side2 => exact HC0.out); rintro e w24 ⟨v350, rfl, ho0, hb⟩; refine ⟨_, rfl, ?_⟩; replace HO347 := Aside0.mk (Kd.V_elder' (vq_ HO347) (Kd.R_base ho0) hb); replace HO351 := Aside0.mk (Kd.R_lower (Kd.R_new' ho0 (Kd.R_lt (rq_ HO_5))) bsz_); replace HO_5 := Aside0.mk (Kd.R_elder' (rq_ HO_5) (Kd.R_base ho0) hb); replace HB := Aside0.mk (bst_ hb); (try clear hb); (try clear hb2); (try clear hk); (try clear hi); (try clear ho0); obtain ⟨Ao25, co25, eo25⟩ := Kd.R_slice HO351.out; subst eo25) | ((with_reducible refine gate_callee (f := 32) rfl ?_); refine goesL_ (some 43) rfl rfl Try.func32 (by kernel_rfl) rfl #[.slice Ao22 t340.length co22, .slice Ao25 t349.length co25] rfl mp_ ?_; (with_reducible refine (handshakerref06_List.calls k1 _ _ t340 _ _ t349 true _ ?side1 ?side2 ?side3 ?side4 A18.out).mono ?_); (case side1 => repeat (first | exact (Kd.R_reads' HO_5.out).2.2 | with_reducible first | refine Kd.C_alloc ?_ _ | refine Kd.C_drewN ?_ _ | refine Kd.C_drew ?_)); (case side2 => exact (Kd.R_reads' HO_5.out).2.1); (case side3 => repeat (first | exact (Kd.R_reads' HO351.out).2.2 | with_reducible first | refine Kd.C_alloc ?_ _ | refine Kd.C_drewN ?_ _ | refine Kd.C_drew ?_)); (case side4 => exact (Kd.R_reads' HO351.out).2.1); rintro e w' ⟨rfl, ⟨nd, rfl⟩⟩; refine ⟨_, rfl, ?_⟩) | (go_at_call 15; (with_reducible refine (handshakerlaw15_awake.calls k1  t353 _ A21.out).mono ?_); rintro e w26 ⟨rfl, hb⟩; replace HO_5 := rb_ HO_5 hb; replace HO347 := vb_ HO347 hb; replace HO351 := rb_ HO351 hb; replace HB := Aside0.mk (bst_ hb); (try clear hb); (try clear hb2); (try clear hk); (try clear hi)))
           go_ret
           exact ⟨by first | rfl | (simp [errW_none, errW_some] <;> rfl) | (simp [*, errW_none, errW_some] <;> rfl), bsv_⟩
         · rw [if_neg c20] at H
           have c20b0 : (t348 == 0) = false := beq_eq_false_iff_ne.mpr c20
           have c20b1 : (t348 != 0) = true := bne_iff_ne.mpr c20
           by_cases c27 : x6_1 = true
           · subst c27
             rw [if_pos rfl] at H
             replace H := Option.bind_eq_some_iff.mp H
             obtain ⟨t354, A280, H⟩ := H
             have A28 := Aside0.mk A280
             clear A280
             obtain rfl := Option.some.inj H
             obtain ⟨Ao29, co29, eo29⟩ := Kd.R_slice HO_5.out
             subst eo29
             go_wp2_with (first | ((with_reducible refine gate_callee (f := 17) rfl ?_); refine goesL_ (some 37) rfl rfl Try.func17 (by kernel_rfl) rfl #[.slice none 0 0, .agg #[.int .i64 (wrap64 (1 + (wrap64 (Int.tmod a1 8)))), .int .i64 1, .int .i64 0, .slice Ao29 t340.length co29, .slice none 0 0]] rfl mp_ ?_; (refine (sleep_Add.calls k1 (fun k_ => False) _ _ ([] : List (S26)) (wrap64 (1 + (wrap64 (Int.tmod a1 8)))) 1 0 (fun k_ => some k_ = (.slice Ao29 t340.length co29 : Value).ownBlock) _ _ t340 (fun k_ => False) _ _ ([] : List (S80)) t345 t348 _ ?side1 ?side2 ?side3 A16.out).mono ?_); (case side1 => exact Kd.V_nil _ _ _ _ _); (case side2 => exact Kd.R_V (Kd.R_tight rfl (HO_5.out))); (case side3 => exact Kd.V_nil _ _ _ _ _); rintro e w30 ⟨v346, rfl, ho0, hb⟩; refine ⟨_, rfl, ?_⟩; replace HO_5 := rb_ HO_5 hb; replace HO347 := Aside0.mk (Kd.V_lower (Kd.V_mono (ok' := fun k_ => True) ho0 (fun k_ hk_ => trivial)) bsz_); replace HB := Aside0.mk (bst_ hb); (try clear hb); (try clear hb2); (try clear hk); (try clear hi); (try clear ho0)) | ((with_reducible refine gate_callee (f := 33) rfl ?_); refine goesL_ (some 42) rfl rfl Try.func33 (by kernel_rfl) rfl #[.slice A0 l0.length c0] rfl mp_ ?_; (with_reducible refine (handshakerref15_Watched.calls k1 _ _ l0 t349 _ ?side1 ?side2 A17.out).mono ?_); (case side1 => repeat (first | exact (Kd.C_below HR0.out HB.out) | with_reducible first | refine Kd.C_alloc ?_ _ | refine Kd.C_drewN ?_ _ | refine Kd.C_drew ?_)); (case side2 => exact HC0.out); rintro e w31 ⟨v350, rfl, ho0, hb⟩; refine ⟨_, rfl, ?_⟩; replace HO347 := Aside0.mk (Kd.V_elder' (vq_ HO347) (Kd.R_base ho0) hb); replace HO351 := Aside0.mk (Kd.R_lower (Kd.R_new' ho0 (Kd.R_lt (rq_ HO_5))) bsz_); replace HO_5 := Aside0.mk (Kd.R_elder' (rq_ HO_5) (Kd.R_base ho0) hb); replace HB := Aside0.mk (bst_ hb); (try clear hb); (try clear hb2); (try clear hk); (try clear hi); (try clear ho0); obtain ⟨Ao32, co32, eo32⟩ := Kd.R_slice HO351.out; subst eo32) | ((with_reducible refine gate_callee (f := 32) rfl ?_); refine goesL_ (some 43) rfl rfl Try.func32 (by kernel_rfl) rfl #[.slice Ao29 t340.length co29, .slice Ao32 t349.length co32] rfl mp_ ?_; (with_reducible refine (handshakerref06_List.calls k1 _ _ t340 _ _ t349 true _ ?side1 ?side2 ?side3 ?side4 A18.out).mono ?_); (case side1 => repeat (first | exact (Kd.R_reads' HO_5.out).2.2 | with_reducible first | refine Kd.C_alloc ?_ _ | refine Kd.C_drewN ?_ _ | refine Kd.C_drew ?_)); (case side2 => exact (Kd.R_reads' HO_5.out).2.1); (case side3 => repeat (first | exact (Kd.R_reads' HO351.out).2.2 | with_reducible first | refine Kd.C_alloc ?_ _ | refine Kd.C_drewN ?_ _ | refine Kd.C_drew ?_)); (case side4 => exact (Kd.R_reads' HO351.out).2.1); rintro e w' ⟨rfl, ⟨nd, rfl⟩⟩; refine ⟨_, rfl, ?_⟩) | (go_at_call 15; (with_reducible refine (handshakerlaw15_awake.calls k1  t354 _ A28.out).mono ?_); rintro e w33 ⟨rfl, hb⟩; replace HO_5 := rb_ HO_5 hb; replace HO347 := vb_ HO347 hb; replace HO351 := rb_ HO351 hb; replace HB := Aside0.mk (bst_ hb); (try clear hb); (try clear hb2); (try clear hk); (try clear hi)))
             go_ret
             exact ⟨by first | rfl | (simp [errW_none, errW_some] <;> rfl) | (simp [*, errW_none, errW_some] <;> rfl), bsv_⟩
           · replace c27 := Bool.eq_false_iff.mpr c27
             subst c27
             rw [if_neg (show ¬ (false = true) by decide)] at H
             exact absurd (Option.some.inj H) (by rw [HT.out]; decide)
       · replace c19 := Bool.eq_false_iff.mpr c19
         subst c19
         rw [if_neg (show ¬ (false = true) by decide)] at H
         exact absurd (Option.some.inj H) (by rw [HT.out]; decide)

/-- THE ONE PURE STATEMENT of handshakerlaw15_SleepReads. -/
def handshakerlaw15_SleepReads.Pure : Prop := ∀ (l0 : List (S57)) (a1 : Int), l0.length ≤ maxLen → l0.length * 24 ≤ 140737488351232 → (∀ y ∈ l0, wfS57 y) → (Lit.int .u8 a1).wf = true → ∃ k, handshakerlaw15_SleepReads.f k l0 a1 = some true

end Go.Proofs.Ytjnkpocfmpbpoaa.Se
