-- PRINTED by print.py (a twelfth state) out of the translation. Not trusted: Lean checks it.
import Derived.Test.YtjnkpocfmpbpoaaFx0
import Derived.Test.YtjnkpocfmpbpoaaFx5
namespace Go.Proofs.Ytjnkpocfmpbpoaa.F
open Go.Proofs.Ytjnkpocfmpbpoaa.Ho
open Go.RowKit Go.Proofs.YtjnkpocfmpbpoaaW.PrintWords Go.Proofs.YtjnkpocfmpbpoaaW.PrintLast Go.Proofs.YtjnkpocfmpbpoaaW.PrintMore
attribute [local go_sem] max2_int min2_int max_two min_two max_three min_three max_four min_four   -- for this text's walks alone
set_option linter.unusedVariables false
set_option linter.unusedSimpArgs false

/-! ### sleep_Right: function 26 -/
def sleep_Right.l0 : Nat → List (S26) → List (S26) → Int → Int → Option (Bool)
 | 0, _, _, _, _ => none
 | k + 1, x0, x5, x6, x7 => if x7 < x6 then (if 0 ≤ x7 then (if x7 < (x5.length : Int) then ((sleep_Sleeper_may.f k ((rd_T26 x5 x7).f0) ((rd_T26 x5 x7).f1) ((rd_T26 x5 x7).f2) ((rd_T26 x5 x7).f3) ((rd_T26 x5 x7).f4)).bind fun t153 => (if t153 = true then (if x7 > 0 then (if 0 ≤ (wrap64 (x7 - 1)) then (if (wrap64 (x7 - 1)) < (x0.length : Int) then (if ((rd_T26 x0 (wrap64 (x7 - 1))).f0) ≥ ((rd_T26 x5 x7).f0) then (some false) else (sleep_Right.l0 k x0 x5 x6 (wrap64 (x7 + 1)))) else (none)) else (none)) else (sleep_Right.l0 k x0 x5 x6 (wrap64 (x7 + 1)))) else (some false))) else (none)) else (none)) else (some true)
def sleep_Right.f (k : Nat) (l0 : List (S26)) : Option (Bool) := sleep_Right.l0 k l0 l0 (l0.length : Int) 0
theorem sleep_Right.mono_l : ∀ k, (∀ y0 y1 y2 y3, LeO (sleep_Right.l0 k y0 y1 y2 y3) (sleep_Right.l0 (k + 1) y0 y1 y2 y3))
 | 0 => fun _ _ _ _ r h => by simp [sleep_Right.l0] at h
 | k + 1 => by
  have ih0 := sleep_Right.mono_l k
  · intro y0 y1 y2 y3
    unfold sleep_Right.l0
    repeat' first
    | (with_reducible exact ih0 _ _ _ _)
    | (with_reducible exact sleep_Sleeper_may.mono _ _ _ _ _ _)
    | (with_reducible exact LeO.refl _)
    | (with_reducible exact LeO.none _)
    | (with_reducible refine LeO.ite ?_ ?_)
    | (with_reducible refine LeO.bind ?_ (fun _ => ?_))
    | exact ih0 _ _ _ _
    | exact sleep_Sleeper_may.mono _ _ _ _ _ _
    | exact LeO.none _
    | refine LeO.ite ?_ ?_
    | refine LeO.bind ?_ (fun _ => ?_)
theorem sleep_Right.mono : ∀ a0 k, LeO (sleep_Right.f k a0) (sleep_Right.f (k + 1) a0) := by
 intro a0 k
 have ih0 := sleep_Right.mono_l k
 unfold sleep_Right.f
 repeat' first
  | (with_reducible exact ih0 _ _ _ _)
  | (with_reducible exact sleep_Sleeper_may.mono _ _ _ _ _ _)
  | (with_reducible exact LeO.refl _)
  | (with_reducible exact LeO.none _)
  | (with_reducible refine LeO.ite ?_ ?_)
  | (with_reducible refine LeO.bind ?_ (fun _ => ?_))
  | exact ih0 _ _ _ _
  | exact sleep_Sleeper_may.mono _ _ _ _ _ _
  | exact LeO.none _
  | refine LeO.ite ?_ ?_
  | refine LeO.bind ?_ (fun _ => ?_)
def sleep_Right.T4 : Bool × List (List Nat × List Nat) := (true, [([], []), ([0], [0]), ([1], [1]), ([2, 1], [2]), ([3], [3]), ([4, 3], [3, 4]), ([5, 3, 3], [3, 5]), ([6], [6]), ([6], [6]), ([8, 6], [6, 8]), ([7, 9, 6], [6, 7, 9]), ([10, 6], [6, 10]), ([11, 6], [6, 11]), ([6], [6]), ([13, 6], [6, 13]), ([12, 14, 6], [6, 12, 14]), ([6, 15, 3], [3, 6, 15]), ([3, 16], [3, 16])])
def sleep_Right.B4 : List Nat := [0, 1, 3, 7, 15, 31, 63, 127, 127, 383, 1023, 2047, 4095, 127, 8319, 32767, 65535, 131071]
theorem sleep_Right.tab4 : rtab .any (opsOf Try.f26 4) = sleep_Right.T4 := by kernel_rfl
theorem sleep_Right.bits4 : waitsOk sleep_Right.T4.2 sleep_Right.B4 = true := by kernel_rfl
set_option maxHeartbeats 8000000 in
set_option maxRecDepth 100000 in
theorem sleep_Right.calls (k : Nat) (A0 : Option Addr) (c0 : Nat) (l0 : List (S26)) (r : Bool) (w : World) (hr0 : Kd.C k26 w A0 l0.length l0) (hc0 : l0.length ≤ c0) (h : sleep_Right.f k l0 = some r) :
 Calls Try.prog 26 #[.slice A0 l0.length c0] w fun e w' => e = .returned (.bool r) ∧ Below w.heap.size w w' := by
 have hu26 := Try.underlying26
 have HR0 := ak hr0
 have HC0 := ak hc0
 clear hr0 hc0
 have HB := ak (Below.refl w.heap.size w)
 have H : (sleep_Right.l0 k l0 l0 (l0.length : Int) 0) = some r := h
 clear h
 have H' := ak H
 clear H
 go_enter Try.func26, Try.ntmps26
 go_wp2
 go_loopg [7] k (fun kq v7 w' => ∃ (x7_1 : Int), v7 = .int .i64 x7_1 ∧ Aside0 (sleep_Right.l0 kq l0 l0 (l0.length : Int) x7_1 = some r) ∧ Aside0 (kq ≤ k) ∧ Aside0 (Below w.heap.size w w'))
 case atStart => exact ⟨(0), (by first | rfl | (simp; done) | (simp [*]; done)), H', ⟨Nat.le_refl _⟩, ⟨bsv_⟩⟩
 case round =>
  clear H'
  obtain ⟨x7_1, rfl, HA, HK1, HB⟩ := hrel
  cases gk with
  | zero => exact absurd HA.out (by simp [sleep_Right.l0])
  | succ k1 =>
   have H := HA.out
   clear HA
   simp only [sleep_Right.l0] at H
   by_cases c2 : x7_1 < (l0.length : Int)
   · rw [if_pos c2] at H
     have c2b0 : decide (x7_1 < (l0.length : Int)) = true := decide_eq_true c2
     clear c2
     by_cases c3 : 0 ≤ x7_1
     · rw [if_pos c3] at H
       have c3b0 : decide (0 ≤ x7_1) = true := decide_eq_true c3
       clear c3
       by_cases c4 : x7_1 < (l0.length : Int)
       · rw [if_pos c4] at H
         have c4b0 : decide (x7_1 < (l0.length : Int)) = true := decide_eq_true c4
         clear c4
         obtain ⟨t153, A5, H⟩ := bd_ H
         by_cases c6 : t153 = true
         · subst c6
           rw [if_pos rfl] at H
           by_cases c7 : x7_1 > 0
           · rw [if_pos c7] at H
             have c7b0 : decide (0 < x7_1) = true := decide_eq_true c7
             clear c7
             obtain ⟨ji8, hji8⟩ : ∃ j_ : Int, (wrap64 (x7_1 - 1)) = j_ := ⟨_, rfl⟩
             replace H : (if 0 ≤ (ji8) then (if (ji8) < (l0.length : Int) then (if ((rd_T26 l0 (ji8)).f0) ≥ ((rd_T26 l0 x7_1).f0) then (some false) else (sleep_Right.l0 k1 l0 l0 (l0.length : Int) (wrap64 (x7_1 + 1)))) else (none)) else (none)) = some r := by first | (rw [hji8] at H; exact H) | (simp only [hji8] at H ⊢; exact H)
             (try rw [hji8] at A5)
             have hji8w : (IntKind.i64.wrap (x7_1 - 1)) = ji8 := (i64_w _).trans hji8
             by_cases c9 : 0 ≤ (ji8)
             · rw [if_pos c9] at H
               have c9b0 : decide (0 ≤ (ji8)) = true := decide_eq_true c9
               clear c9
               by_cases c10 : (ji8) < (l0.length : Int)
               · rw [if_pos c10] at H
                 have c10b0 : decide ((ji8) < (l0.length : Int)) = true := decide_eq_true c10
                 clear c10
                 by_cases c11 : ((rd_T26 l0 (ji8)).f0) ≥ ((rd_T26 l0 x7_1).f0)
                 · rw [if_pos c11] at H
                   have c11b0 : decide (((rd_T26 l0 x7_1).f0) ≤ ((rd_T26 l0 (ji8)).f0)) = true := decide_eq_true c11
                   clear c11
                   obtain rfl := Option.some.inj H
                   have p151 : 0 ≤ (x7_1 : Int) := oda_
                   have q151 : x7_1 < (l0.length : Int) := oda_
                   obtain ⟨ad151, A151_3, c151_3, A151_4, c151_4, e151, hx151_0, hx151_1, hx151_2, hx151_3, hx151_4, hl151_3, hi151_3, hl151_4, hi151_4⟩ := at_T26 HR0.out x7_1 p151 q151
                   cases e151
                   replace hx151_0 := bl_ HB hx151_0
                   replace hx151_1 := bl_ HB hx151_1
                   replace hx151_2 := bl_ HB hx151_2
                   replace hx151_3 := bl_ HB hx151_3
                   replace hx151_4 := bl_ HB hx151_4
                   have HR151_3 := ak hi151_3
                   have HC151_3 := ak hl151_3
                   clear hi151_3 hl151_3
                   have HR151_4 := ak hi151_4
                   have HC151_4 := ak hl151_4
                   clear hi151_4 hl151_4
                   replace p151 := eq_true p151
                   replace q151 := eq_true q151
                   try go_wp2_with (first | ((with_reducible refine gate_dst (N := 4) rfl ?_); refine box_event ?hg (N := 4) ?hd (cs := #[.int .i64 0, .int .i64 0, .int .i64 0, .slice none 0 0, .slice none 0 0]) (t := 26) ?hr ?_; (case hd => rfl); (case hg => rfl); (case hr => first | (go_simp; done) | (go_simp; rfl)); intro gb152 hg w12 hbox hb; replace BK152 := ak (hbox); replace GW152 := ak ((by rw [hg]; exact bsz_ : w.heap.size ≤ gb152)); replace HB := ak (bst_ hb); replace GE152 := GW152; clear hb hbox hg; obtain ⟨hcz13_0, hcz13_1, hcz13_2, hcz13_3, hcz13_4, hfz13_0, hfz13_1, hfz13_2, hfz13_3, hfz13_4⟩ := bz5_ BK152))
                   have n0_ : Aside0 ((((((w12.setCell ⟨gb152, 0, none⟩ (.int .i64 ((rd_T26 l0 x7_1).f0))).setCell ⟨gb152, 1, none⟩ (.int .i64 ((rd_T26 l0 x7_1).f1))).setCell ⟨gb152, 2, none⟩ (.int .i64 ((rd_T26 l0 x7_1).f2))).setCell ⟨gb152, 3, none⟩ (.slice A151_3 ((rd_T26 l0 x7_1).f3).length c151_3)).setCell ⟨gb152, 4, none⟩ (.slice A151_4 ((rd_T26 l0 x7_1).f4).length c151_4)).heap[gb152]? = some (.cells #[.int .i64 ((rd_T26 l0 x7_1).f0), .int .i64 ((rd_T26 l0 x7_1).f1), .int .i64 ((rd_T26 l0 x7_1).f2), .slice A151_3 ((rd_T26 l0 x7_1).f3).length c151_3, .slice A151_4 ((rd_T26 l0 x7_1).f4).length c151_4] 26 (0, 0))) := ⟨by (with_reducible repeat (first | refine blk_drewN ?_ _ | refine blk_drew ?_ | refine blk_alloc ?_ _)); refine blk_put (cs := #[.int .i64 ((rd_T26 l0 x7_1).f0), .int .i64 ((rd_T26 l0 x7_1).f1), .int .i64 ((rd_T26 l0 x7_1).f2), .slice A151_3 ((rd_T26 l0 x7_1).f3).length c151_3, .slice none 0 0]) ?_ 4 _ rfl; (with_reducible repeat (first | refine blk_drewN ?_ _ | refine blk_drew ?_ | refine blk_alloc ?_ _)); refine blk_put (cs := #[.int .i64 ((rd_T26 l0 x7_1).f0), .int .i64 ((rd_T26 l0 x7_1).f1), .int .i64 ((rd_T26 l0 x7_1).f2), .slice none 0 0, .slice none 0 0]) ?_ 3 _ rfl; (with_reducible repeat (first | refine blk_drewN ?_ _ | refine blk_drew ?_ | refine blk_alloc ?_ _)); refine blk_put (cs := #[.int .i64 ((rd_T26 l0 x7_1).f0), .int .i64 ((rd_T26 l0 x7_1).f1), .int .i64 0, .slice none 0 0, .slice none 0 0]) ?_ 2 _ rfl; (with_reducible repeat (first | refine blk_drewN ?_ _ | refine blk_drew ?_ | refine blk_alloc ?_ _)); refine blk_put (cs := #[.int .i64 ((rd_T26 l0 x7_1).f0), .int .i64 0, .int .i64 0, .slice none 0 0, .slice none 0 0]) ?_ 1 _ rfl; (with_reducible repeat (first | refine blk_drewN ?_ _ | refine blk_drew ?_ | refine blk_alloc ?_ _)); refine blk_put (cs := #[.int .i64 0, .int .i64 0, .int .i64 0, .slice none 0 0, .slice none 0 0]) ?_ 0 _ rfl; (with_reducible repeat (first | refine blk_drewN ?_ _ | refine blk_drew ?_ | refine blk_alloc ?_ _)); exact BK152.out⟩
                   have n1_ : Aside0 (Below w.heap.size w (((((w12.setCell ⟨gb152, 0, none⟩ (.int .i64 ((rd_T26 l0 x7_1).f0))).setCell ⟨gb152, 1, none⟩ (.int .i64 ((rd_T26 l0 x7_1).f1))).setCell ⟨gb152, 2, none⟩ (.int .i64 ((rd_T26 l0 x7_1).f2))).setCell ⟨gb152, 3, none⟩ (.slice A151_3 ((rd_T26 l0 x7_1).f3).length c151_3)).setCell ⟨gb152, 4, none⟩ (.slice A151_4 ((rd_T26 l0 x7_1).f4).length c151_4))) := ⟨bsw_⟩
                   (try clear BK152)
                   (try clear HB)
                   generalize (((((w12.setCell ⟨gb152, 0, none⟩ (.int .i64 ((rd_T26 l0 x7_1).f0))).setCell ⟨gb152, 1, none⟩ (.int .i64 ((rd_T26 l0 x7_1).f1))).setCell ⟨gb152, 2, none⟩ (.int .i64 ((rd_T26 l0 x7_1).f2))).setCell ⟨gb152, 3, none⟩ (.slice A151_3 ((rd_T26 l0 x7_1).f3).length c151_3)).setCell ⟨gb152, 4, none⟩ (.slice A151_4 ((rd_T26 l0 x7_1).f4).length c151_4)) = w14 at n0_ n1_ ⊢
                   have BK152 := n0_
                   have HB := n1_
                   clear n0_ n1_
                   have n0_ := ak (blk_drew BK152.out)
                   have n1_ := ak (below_drew1 HB.out)
                   clear BK152
                   clear HB
                   have BK152 := n0_
                   have HB := n1_
                   clear n0_ n1_
                   have p154 : 0 ≤ ((ji8) : Int) := oda_
                   have q154 : (ji8) < (l0.length : Int) := oda_
                   obtain ⟨ad154, A154_3, c154_3, A154_4, c154_4, e154, hx154_0, hx154_1, hx154_2, hx154_3, hx154_4, hl154_3, hi154_3, hl154_4, hi154_4⟩ := at_T26 HR0.out (ji8) p154 q154
                   have hw154_4 := hx154_4
                   have hw154_3 := hx154_3
                   have hw154_2 := hx154_2
                   have hw154_1 := hx154_1
                   have hw154_0 := hx154_0
                   obtain rfl : ad151 = ad154 := (by injection e154)
                   replace hx154_0 := bl_ HB hx154_0
                   replace hx154_1 := bl_ HB hx154_1
                   replace hx154_2 := bl_ HB hx154_2
                   replace hx154_3 := bl_ HB hx154_3
                   replace hx154_4 := bl_ HB hx154_4
                   have HR154_3 := ak hi154_3
                   have HC154_3 := ak hl154_3
                   clear hi154_3 hl154_3
                   have HR154_4 := ak hi154_4
                   have HC154_4 := ak hl154_4
                   clear hi154_4 hl154_4
                   replace p154 := eq_true p154
                   replace q154 := eq_true q154
                   refine start_ (n := 18) (S := fun w' => w'.cell? ⟨gb152, 0, none⟩ = some (.int .i64 ((rd_T26 l0 x7_1).f0)) ∧ w'.cell? ⟨gb152, 1, none⟩ = some (.int .i64 ((rd_T26 l0 x7_1).f1)) ∧ w'.cell? ⟨gb152, 2, none⟩ = some (.int .i64 ((rd_T26 l0 x7_1).f2)) ∧ w'.cell? ⟨gb152, 3, none⟩ = some (.slice A151_3 ((rd_T26 l0 x7_1).f3).length c151_3) ∧ w'.cell? ⟨gb152, 4, none⟩ = some (.slice A151_4 ((rd_T26 l0 x7_1).f4).length c151_4) ∧ w'.cell? (ad151.add (((ji8)).toNat * 5)) = some (.int .i64 ((rd_T26 l0 (ji8)).f0)) ∧ w'.cell? ⟨(ad151.add (((ji8)).toNat * 5)).block, (ad151.add (((ji8)).toNat * 5)).off + 1, none⟩ = some (.int .i64 ((rd_T26 l0 (ji8)).f1)) ∧ w'.cell? ⟨(ad151.add (((ji8)).toNat * 5)).block, (ad151.add (((ji8)).toNat * 5)).off + 2, none⟩ = some (.int .i64 ((rd_T26 l0 (ji8)).f2)) ∧ w'.cell? ⟨(ad151.add (((ji8)).toNat * 5)).block, (ad151.add (((ji8)).toNat * 5)).off + 3, none⟩ = some (.slice A154_3 ((rd_T26 l0 (ji8)).f3).length c154_3) ∧ w'.cell? ⟨(ad151.add (((ji8)).toNat * 5)).block, (ad151.add (((ji8)).toNat * 5)).off + 4, none⟩ = some (.slice A154_4 ((rd_T26 l0 (ji8)).f4).length c154_4)) (ds := []) (fb 18 0) (by kernel_rfl) rfl rfl ⟨(blk_cell BK152.out 0).trans rfl, (blk_cell BK152.out 1).trans rfl, (blk_cell BK152.out 2).trans rfl, (blk_cell BK152.out 3).trans rfl, (blk_cell BK152.out 4).trans rfl, (bl_ HB hw154_0), (bl_ HB hw154_1), (bl_ HB hw154_2), (bl_ HB hw154_3), (bl_ HB hw154_4)⟩ (fun hHeld => ?_); refine with_tabW sleep_Right.tab4 sleep_Right.bits4 (fun HT_ HW_ => ?_)
                   generalize w14.drew = w15 at BK152 HB HR154_3 HR154_4 hx154_0 hx154_1 hx154_2 hx154_3 hx154_4 hHeld ⊢
                   refine ta10_ 0 (some 12) (fb 18 1) HT_ HW_ hHeld ?_
                   refine one_ (i := 1) (N := some 13) (fb 18 3) rfl rfl (one_of HT_.out (by kernel_rfl)) (by decide) (fun K hK => ?_)
                   refine goes_ Try.func41 (by kernel_rfl) rfl #[.agg #[.int .i64 ((rd_T26 l0 x7_1).f0), .int .i64 ((rd_T26 l0 x7_1).f1), .int .i64 ((rd_T26 l0 x7_1).f2), .slice A151_3 ((rd_T26 l0 x7_1).f3).length c151_3, .slice A151_4 ((rd_T26 l0 x7_1).f4).length c151_4]] (by rfl) rfl rfl (by (try simp only [List.map_toArray, List.map_cons, List.map_nil]); first | done | rfl | (simp only [List.length_drop, List.length_take]; rfl)) ?_
                   with_reducible refine (sleep_Sleeper_may.calls k1 ((rd_T26 l0 x7_1).f0) ((rd_T26 l0 x7_1).f1) ((rd_T26 l0 x7_1).f2) _ _ ((rd_T26 l0 x7_1).f3) _ _ ((rd_T26 l0 x7_1).f4) true _ ?side1 ?side2 ?side3 ?side4 A5.out).mono ?_
                   (case side1 => repeat (first | exact (Kd.C_below HR151_3.out HB.out) | with_reducible first | refine Kd.C_alloc ?_ _ | refine Kd.C_drewN ?_ _ | refine Kd.C_drew ?_))
                   (case side2 => exact HC151_3.out)
                   (case side3 => repeat (first | exact (Kd.C_below HR151_4.out HB.out) | with_reducible first | refine Kd.C_alloc ?_ _ | refine Kd.C_drewN ?_ _ | refine Kd.C_drew ?_))
                   (case side4 => exact HC151_4.out)
                   rintro e w16 ⟨rfl, hb⟩
                   refine ⟨_, rfl, ?_⟩
                   have n0_ := bb_ BK152 hb
                   have n1_ := ak (below_step bsw_ hb)
                   clear BK152
                   clear HB
                   have BK152 := n0_
                   have HB := n1_
                   clear n0_ n1_
                   (try clear hb)
                   (try clear hb2)
                   (try clear hk)
                   (try clear hi)
                   refine hK.out _ _ ⟨(blk_cell BK152.out 0).trans rfl, (blk_cell BK152.out 1).trans rfl, (blk_cell BK152.out 2).trans rfl, (blk_cell BK152.out 3).trans rfl, (blk_cell BK152.out 4).trans rfl, (bl_ HB hw154_0), (bl_ HB hw154_1), (bl_ HB hw154_2), (bl_ HB hw154_3), (bl_ HB hw154_4)⟩ (fun hHeld => ?_)
                   clear hK K
                   refine no_ (some 13) ?_
                   refine pu_ 2 (some 14) (fb 18 7) HT_ ?_
                   refine pu_ 3 (some 15) (fb 18 15) HT_ ?_
                   refine pu_ 4 (some 16) (fb 18 31) HT_ ?_
                   refine pu_ 5 (some 17) (fb 18 63) HT_ ?_
                   refine pu_ 6 (some 18) (fb 18 127) HT_ ?_
                   refine pu_ 7 (some 19) (fb 18 255) HT_ ?_
                   refine pu_ 8 (some 20) (fb 18 511) HT_ ?_
                   refine pu_ 9 (some 21) (fb 18 1023) HT_ ?_
                   refine pu_ 10 (some 22) (fb 18 2047) HT_ ?_
                   refine pu_ 11 (some 23) (fb 18 4095) HT_ ?_
                   refine pu_ 13 (some 25) (fb 18 12287) HT_ ?_
                   refine ta10_ 12 (some 24) (fb 18 16383) HT_ HW_ hHeld ?_
                   refine ta10_ 14 (some 26) (fb 18 32767) HT_ HW_ hHeld ?_
                   refine pu_ 15 (some 27) (fb 18 65535) HT_ ?_
                   refine pu_ 16 (some 28) (fb 18 131071) HT_ ?_
                   refine pu_ 17 (some 29) (fb 18 262143) HT_ ?_
                   refine done_ (done_of HT_.out (by kernel_rfl)) ?_
                   try go_wp2
                   go_ret
                   exact ⟨by first | rfl | (simp [errW_none, errW_some] <;> rfl) | (simp only [← hji8]; first | rfl | (simp [errW_none, errW_some] <;> rfl)) | (simp [*, errW_none, errW_some] <;> rfl), bsw_⟩
                 · rw [if_neg c11] at H
                   have c11b0 : decide (((rd_T26 l0 x7_1).f0) ≤ ((rd_T26 l0 (ji8)).f0)) = false := decide_eq_false c11
                   clear c11
                   have H' := ak H
                   clear H
                   have p151 : 0 ≤ (x7_1 : Int) := oda_
                   have q151 : x7_1 < (l0.length : Int) := oda_
                   obtain ⟨ad151, A151_3, c151_3, A151_4, c151_4, e151, hx151_0, hx151_1, hx151_2, hx151_3, hx151_4, hl151_3, hi151_3, hl151_4, hi151_4⟩ := at_T26 HR0.out x7_1 p151 q151
                   cases e151
                   replace hx151_0 := bl_ HB hx151_0
                   replace hx151_1 := bl_ HB hx151_1
                   replace hx151_2 := bl_ HB hx151_2
                   replace hx151_3 := bl_ HB hx151_3
                   replace hx151_4 := bl_ HB hx151_4
                   have HR151_3 := ak hi151_3
                   have HC151_3 := ak hl151_3
                   clear hi151_3 hl151_3
                   have HR151_4 := ak hi151_4
                   have HC151_4 := ak hl151_4
                   clear hi151_4 hl151_4
                   replace p151 := eq_true p151
                   replace q151 := eq_true q151
                   try go_wp2_with (first | ((with_reducible refine gate_dst (N := 4) rfl ?_); refine box_event ?hg (N := 4) ?hd (cs := #[.int .i64 0, .int .i64 0, .int .i64 0, .slice none 0 0, .slice none 0 0]) (t := 26) ?hr ?_; (case hd => rfl); (case hg => rfl); (case hr => first | (go_simp; done) | (go_simp; rfl)); intro gb152 hg w17 hbox hb; replace BK152 := ak (hbox); replace GW152 := ak ((by rw [hg]; exact bsz_ : w.heap.size ≤ gb152)); replace HB := ak (bst_ hb); replace GE152 := GW152; clear hb hbox hg; obtain ⟨hcz18_0, hcz18_1, hcz18_2, hcz18_3, hcz18_4, hfz18_0, hfz18_1, hfz18_2, hfz18_3, hfz18_4⟩ := bz5_ BK152))
                   have n0_ : Aside0 ((((((w17.setCell ⟨gb152, 0, none⟩ (.int .i64 ((rd_T26 l0 x7_1).f0))).setCell ⟨gb152, 1, none⟩ (.int .i64 ((rd_T26 l0 x7_1).f1))).setCell ⟨gb152, 2, none⟩ (.int .i64 ((rd_T26 l0 x7_1).f2))).setCell ⟨gb152, 3, none⟩ (.slice A151_3 ((rd_T26 l0 x7_1).f3).length c151_3)).setCell ⟨gb152, 4, none⟩ (.slice A151_4 ((rd_T26 l0 x7_1).f4).length c151_4)).heap[gb152]? = some (.cells #[.int .i64 ((rd_T26 l0 x7_1).f0), .int .i64 ((rd_T26 l0 x7_1).f1), .int .i64 ((rd_T26 l0 x7_1).f2), .slice A151_3 ((rd_T26 l0 x7_1).f3).length c151_3, .slice A151_4 ((rd_T26 l0 x7_1).f4).length c151_4] 26 (0, 0))) := ⟨by (with_reducible repeat (first | refine blk_drewN ?_ _ | refine blk_drew ?_ | refine blk_alloc ?_ _)); refine blk_put (cs := #[.int .i64 ((rd_T26 l0 x7_1).f0), .int .i64 ((rd_T26 l0 x7_1).f1), .int .i64 ((rd_T26 l0 x7_1).f2), .slice A151_3 ((rd_T26 l0 x7_1).f3).length c151_3, .slice none 0 0]) ?_ 4 _ rfl; (with_reducible repeat (first | refine blk_drewN ?_ _ | refine blk_drew ?_ | refine blk_alloc ?_ _)); refine blk_put (cs := #[.int .i64 ((rd_T26 l0 x7_1).f0), .int .i64 ((rd_T26 l0 x7_1).f1), .int .i64 ((rd_T26 l0 x7_1).f2), .slice none 0 0, .slice none 0 0]) ?_ 3 _ rfl; (with_reducible repeat (first | refine blk_drewN ?_ _ | refine blk_drew ?_ | refine blk_alloc ?_ _)); refine blk_put (cs := #[.int .i64 ((rd_T26 l0 x7_1).f0), .int .i64 ((rd_T26 l0 x7_1).f1), .int .i64 0, .slice none 0 0, .slice none 0 0]) ?_ 2 _ rfl; (with_reducible repeat (first | refine blk_drewN ?_ _ | refine blk_drew ?_ | refine blk_alloc ?_ _)); refine blk_put (cs := #[.int .i64 ((rd_T26 l0 x7_1).f0), .int .i64 0, .int .i64 0, .slice none 0 0, .slice none 0 0]) ?_ 1 _ rfl; (with_reducible repeat (first | refine blk_drewN ?_ _ | refine blk_drew ?_ | refine blk_alloc ?_ _)); refine blk_put (cs := #[.int .i64 0, .int .i64 0, .int .i64 0, .slice none 0 0, .slice none 0 0]) ?_ 0 _ rfl; (with_reducible repeat (first | refine blk_drewN ?_ _ | refine blk_drew ?_ | refine blk_alloc ?_ _)); exact BK152.out⟩
                   have n1_ : Aside0 (Below w.heap.size w (((((w17.setCell ⟨gb152, 0, none⟩ (.int .i64 ((rd_T26 l0 x7_1).f0))).setCell ⟨gb152, 1, none⟩ (.int .i64 ((rd_T26 l0 x7_1).f1))).setCell ⟨gb152, 2, none⟩ (.int .i64 ((rd_T26 l0 x7_1).f2))).setCell ⟨gb152, 3, none⟩ (.slice A151_3 ((rd_T26 l0 x7_1).f3).length c151_3)).setCell ⟨gb152, 4, none⟩ (.slice A151_4 ((rd_T26 l0 x7_1).f4).length c151_4))) := ⟨bsw_⟩
                   (try clear BK152)
                   (try clear HB)
                   generalize (((((w17.setCell ⟨gb152, 0, none⟩ (.int .i64 ((rd_T26 l0 x7_1).f0))).setCell ⟨gb152, 1, none⟩ (.int .i64 ((rd_T26 l0 x7_1).f1))).setCell ⟨gb152, 2, none⟩ (.int .i64 ((rd_T26 l0 x7_1).f2))).setCell ⟨gb152, 3, none⟩ (.slice A151_3 ((rd_T26 l0 x7_1).f3).length c151_3)).setCell ⟨gb152, 4, none⟩ (.slice A151_4 ((rd_T26 l0 x7_1).f4).length c151_4)) = w19 at n0_ n1_ ⊢
                   have BK152 := n0_
                   have HB := n1_
                   clear n0_ n1_
                   have n0_ := ak (blk_drew BK152.out)
                   have n1_ := ak (below_drew1 HB.out)
                   clear BK152
                   clear HB
                   have BK152 := n0_
                   have HB := n1_
                   clear n0_ n1_
                   have p154 : 0 ≤ ((ji8) : Int) := oda_
                   have q154 : (ji8) < (l0.length : Int) := oda_
                   obtain ⟨ad154, A154_3, c154_3, A154_4, c154_4, e154, hx154_0, hx154_1, hx154_2, hx154_3, hx154_4, hl154_3, hi154_3, hl154_4, hi154_4⟩ := at_T26 HR0.out (ji8) p154 q154
                   have hw154_4 := hx154_4
                   have hw154_3 := hx154_3
                   have hw154_2 := hx154_2
                   have hw154_1 := hx154_1
                   have hw154_0 := hx154_0
                   obtain rfl : ad151 = ad154 := (by injection e154)
                   replace hx154_0 := bl_ HB hx154_0
                   replace hx154_1 := bl_ HB hx154_1
                   replace hx154_2 := bl_ HB hx154_2
                   replace hx154_3 := bl_ HB hx154_3
                   replace hx154_4 := bl_ HB hx154_4
                   have HR154_3 := ak hi154_3
                   have HC154_3 := ak hl154_3
                   clear hi154_3 hl154_3
                   have HR154_4 := ak hi154_4
                   have HC154_4 := ak hl154_4
                   clear hi154_4 hl154_4
                   replace p154 := eq_true p154
                   replace q154 := eq_true q154
                   refine start_ (n := 18) (S := fun w' => w'.cell? ⟨gb152, 0, none⟩ = some (.int .i64 ((rd_T26 l0 x7_1).f0)) ∧ w'.cell? ⟨gb152, 1, none⟩ = some (.int .i64 ((rd_T26 l0 x7_1).f1)) ∧ w'.cell? ⟨gb152, 2, none⟩ = some (.int .i64 ((rd_T26 l0 x7_1).f2)) ∧ w'.cell? ⟨gb152, 3, none⟩ = some (.slice A151_3 ((rd_T26 l0 x7_1).f3).length c151_3) ∧ w'.cell? ⟨gb152, 4, none⟩ = some (.slice A151_4 ((rd_T26 l0 x7_1).f4).length c151_4) ∧ w'.cell? (ad151.add (((ji8)).toNat * 5)) = some (.int .i64 ((rd_T26 l0 (ji8)).f0)) ∧ w'.cell? ⟨(ad151.add (((ji8)).toNat * 5)).block, (ad151.add (((ji8)).toNat * 5)).off + 1, none⟩ = some (.int .i64 ((rd_T26 l0 (ji8)).f1)) ∧ w'.cell? ⟨(ad151.add (((ji8)).toNat * 5)).block, (ad151.add (((ji8)).toNat * 5)).off + 2, none⟩ = some (.int .i64 ((rd_T26 l0 (ji8)).f2)) ∧ w'.cell? ⟨(ad151.add (((ji8)).toNat * 5)).block, (ad151.add (((ji8)).toNat * 5)).off + 3, none⟩ = some (.slice A154_3 ((rd_T26 l0 (ji8)).f3).length c154_3) ∧ w'.cell? ⟨(ad151.add (((ji8)).toNat * 5)).block, (ad151.add (((ji8)).toNat * 5)).off + 4, none⟩ = some (.slice A154_4 ((rd_T26 l0 (ji8)).f4).length c154_4)) (ds := []) (fb 18 0) (by kernel_rfl) rfl rfl ⟨(blk_cell BK152.out 0).trans rfl, (blk_cell BK152.out 1).trans rfl, (blk_cell BK152.out 2).trans rfl, (blk_cell BK152.out 3).trans rfl, (blk_cell BK152.out 4).trans rfl, (bl_ HB hw154_0), (bl_ HB hw154_1), (bl_ HB hw154_2), (bl_ HB hw154_3), (bl_ HB hw154_4)⟩ (fun hHeld => ?_); refine with_tabW sleep_Right.tab4 sleep_Right.bits4 (fun HT_ HW_ => ?_)
                   generalize w19.drew = w20 at BK152 HB HR154_3 HR154_4 hx154_0 hx154_1 hx154_2 hx154_3 hx154_4 hHeld ⊢
                   refine ta10_ 0 (some 12) (fb 18 1) HT_ HW_ hHeld ?_
                   refine one_ (i := 1) (N := some 13) (fb 18 3) rfl rfl (one_of HT_.out (by kernel_rfl)) (by decide) (fun K hK => ?_)
                   refine goes_ Try.func41 (by kernel_rfl) rfl #[.agg #[.int .i64 ((rd_T26 l0 x7_1).f0), .int .i64 ((rd_T26 l0 x7_1).f1), .int .i64 ((rd_T26 l0 x7_1).f2), .slice A151_3 ((rd_T26 l0 x7_1).f3).length c151_3, .slice A151_4 ((rd_T26 l0 x7_1).f4).length c151_4]] (by rfl) rfl rfl (by (try simp only [List.map_toArray, List.map_cons, List.map_nil]); first | done | rfl | (simp only [List.length_drop, List.length_take]; rfl)) ?_
                   with_reducible refine (sleep_Sleeper_may.calls k1 ((rd_T26 l0 x7_1).f0) ((rd_T26 l0 x7_1).f1) ((rd_T26 l0 x7_1).f2) _ _ ((rd_T26 l0 x7_1).f3) _ _ ((rd_T26 l0 x7_1).f4) true _ ?side1 ?side2 ?side3 ?side4 A5.out).mono ?_
                   (case side1 => repeat (first | exact (Kd.C_below HR151_3.out HB.out) | with_reducible first | refine Kd.C_alloc ?_ _ | refine Kd.C_drewN ?_ _ | refine Kd.C_drew ?_))
                   (case side2 => exact HC151_3.out)
                   (case side3 => repeat (first | exact (Kd.C_below HR151_4.out HB.out) | with_reducible first | refine Kd.C_alloc ?_ _ | refine Kd.C_drewN ?_ _ | refine Kd.C_drew ?_))
                   (case side4 => exact HC151_4.out)
                   rintro e w21 ⟨rfl, hb⟩
                   refine ⟨_, rfl, ?_⟩
                   have n0_ := bb_ BK152 hb
                   have n1_ := ak (below_step bsw_ hb)
                   clear BK152
                   clear HB
                   have BK152 := n0_
                   have HB := n1_
                   clear n0_ n1_
                   (try clear hb)
                   (try clear hb2)
                   (try clear hk)
                   (try clear hi)
                   refine hK.out _ _ ⟨(blk_cell BK152.out 0).trans rfl, (blk_cell BK152.out 1).trans rfl, (blk_cell BK152.out 2).trans rfl, (blk_cell BK152.out 3).trans rfl, (blk_cell BK152.out 4).trans rfl, (bl_ HB hw154_0), (bl_ HB hw154_1), (bl_ HB hw154_2), (bl_ HB hw154_3), (bl_ HB hw154_4)⟩ (fun hHeld => ?_)
                   clear hK K
                   refine no_ (some 13) ?_
                   refine pu_ 2 (some 14) (fb 18 7) HT_ ?_
                   refine pu_ 3 (some 15) (fb 18 15) HT_ ?_
                   refine pu_ 4 (some 16) (fb 18 31) HT_ ?_
                   refine pu_ 5 (some 17) (fb 18 63) HT_ ?_
                   refine pu_ 6 (some 18) (fb 18 127) HT_ ?_
                   refine pu_ 7 (some 19) (fb 18 255) HT_ ?_
                   refine pu_ 8 (some 20) (fb 18 511) HT_ ?_
                   refine pu_ 9 (some 21) (fb 18 1023) HT_ ?_
                   refine pu_ 10 (some 22) (fb 18 2047) HT_ ?_
                   refine pu_ 11 (some 23) (fb 18 4095) HT_ ?_
                   refine pu_ 13 (some 25) (fb 18 12287) HT_ ?_
                   refine ta10_ 12 (some 24) (fb 18 16383) HT_ HW_ hHeld ?_
                   refine ta10_ 14 (some 26) (fb 18 32767) HT_ HW_ hHeld ?_
                   refine pu_ 15 (some 27) (fb 18 65535) HT_ ?_
                   refine pu_ 16 (some 28) (fb 18 131071) HT_ ?_
                   refine pu_ 17 (some 29) (fb 18 262143) HT_ ?_
                   refine done_ (done_of HT_.out (by kernel_rfl)) ?_
                   try go_wp2
                   go_roundg k1
                   case measure => have := HK1.out; omega
                   case rel => exact ⟨(wrap64 (x7_1 + 1)), (by first | rfl | (simp; done) | (simp [*]; done)), H', ⟨by have := HK1.out; omega⟩, ⟨bsw_⟩⟩
               · rw [if_neg c10] at H
                 exact absurd H (by simp)
             · rw [if_neg c9] at H
               exact absurd H (by simp)
           · rw [if_neg c7] at H
             have c7b0 : decide (0 < x7_1) = false := decide_eq_false c7
             clear c7
             have H' := ak H
             clear H
             have p151 : 0 ≤ (x7_1 : Int) := oda_
             have q151 : x7_1 < (l0.length : Int) := oda_
             obtain ⟨ad151, A151_3, c151_3, A151_4, c151_4, e151, hx151_0, hx151_1, hx151_2, hx151_3, hx151_4, hl151_3, hi151_3, hl151_4, hi151_4⟩ := at_T26 HR0.out x7_1 p151 q151
             cases e151
             replace hx151_0 := bl_ HB hx151_0
             replace hx151_1 := bl_ HB hx151_1
             replace hx151_2 := bl_ HB hx151_2
             replace hx151_3 := bl_ HB hx151_3
             replace hx151_4 := bl_ HB hx151_4
             have HR151_3 := ak hi151_3
             have HC151_3 := ak hl151_3
             clear hi151_3 hl151_3
             have HR151_4 := ak hi151_4
             have HC151_4 := ak hl151_4
             clear hi151_4 hl151_4
             replace p151 := eq_true p151
             replace q151 := eq_true q151
             try go_wp2_with (first | ((with_reducible refine gate_dst (N := 4) rfl ?_); refine box_event ?hg (N := 4) ?hd (cs := #[.int .i64 0, .int .i64 0, .int .i64 0, .slice none 0 0, .slice none 0 0]) (t := 26) ?hr ?_; (case hd => rfl); (case hg => rfl); (case hr => first | (go_simp; done) | (go_simp; rfl)); intro gb152 hg w22 hbox hb; replace BK152 := ak (hbox); replace GW152 := ak ((by rw [hg]; exact bsz_ : w.heap.size ≤ gb152)); replace HB := ak (bst_ hb); replace GE152 := GW152; clear hb hbox hg; obtain ⟨hcz23_0, hcz23_1, hcz23_2, hcz23_3, hcz23_4, hfz23_0, hfz23_1, hfz23_2, hfz23_3, hfz23_4⟩ := bz5_ BK152))
             have n0_ : Aside0 ((((((w22.setCell ⟨gb152, 0, none⟩ (.int .i64 ((rd_T26 l0 x7_1).f0))).setCell ⟨gb152, 1, none⟩ (.int .i64 ((rd_T26 l0 x7_1).f1))).setCell ⟨gb152, 2, none⟩ (.int .i64 ((rd_T26 l0 x7_1).f2))).setCell ⟨gb152, 3, none⟩ (.slice A151_3 ((rd_T26 l0 x7_1).f3).length c151_3)).setCell ⟨gb152, 4, none⟩ (.slice A151_4 ((rd_T26 l0 x7_1).f4).length c151_4)).heap[gb152]? = some (.cells #[.int .i64 ((rd_T26 l0 x7_1).f0), .int .i64 ((rd_T26 l0 x7_1).f1), .int .i64 ((rd_T26 l0 x7_1).f2), .slice A151_3 ((rd_T26 l0 x7_1).f3).length c151_3, .slice A151_4 ((rd_T26 l0 x7_1).f4).length c151_4] 26 (0, 0))) := ⟨by (with_reducible repeat (first | refine blk_drewN ?_ _ | refine blk_drew ?_ | refine blk_alloc ?_ _)); refine blk_put (cs := #[.int .i64 ((rd_T26 l0 x7_1).f0), .int .i64 ((rd_T26 l0 x7_1).f1), .int .i64 ((rd_T26 l0 x7_1).f2), .slice A151_3 ((rd_T26 l0 x7_1).f3).length c151_3, .slice none 0 0]) ?_ 4 _ rfl; (with_reducible repeat (first | refine blk_drewN ?_ _ | refine blk_drew ?_ | refine blk_alloc ?_ _)); refine blk_put (cs := #[.int .i64 ((rd_T26 l0 x7_1).f0), .int .i64 ((rd_T26 l0 x7_1).f1), .int .i64 ((rd_T26 l0 x7_1).f2), .slice none 0 0, .slice none 0 0]) ?_ 3 _ rfl; (with_reducible repeat (first | refine blk_drewN ?_ _ | refine blk_drew ?_ | refine blk_alloc ?_ _)); refine blk_put (cs := #[.int .i64 ((rd_T26 l0 x7_1).f0), .int .i64 ((rd_T26 l0 x7_1).f1), .int .i64 0, .slice none 0 0, .slice none 0 0]) ?_ 2 _ rfl; (with_reducible repeat (first | refine blk_drewN ?_ _ | refine blk_drew ?_ | refine blk_alloc ?_ _)); refine blk_put (cs := #[.int .i64 ((rd_T26 l0 x7_1).f0), .int .i64 0, .int .i64 0, .slice none 0 0, .slice none 0 0]) ?_ 1 _ rfl; (with_reducible repeat (first | refine blk_drewN ?_ _ | refine blk_drew ?_ | refine blk_alloc ?_ _)); refine blk_put (cs := #[.int .i64 0, .int .i64 0, .int .i64 0, .slice none 0 0, .slice none 0 0]) ?_ 0 _ rfl; (with_reducible repeat (first | refine blk_drewN ?_ _ | refine blk_drew ?_ | refine blk_alloc ?_ _)); exact BK152.out⟩
             have n1_ : Aside0 (Below w.heap.size w (((((w22.setCell ⟨gb152, 0, none⟩ (.int .i64 ((rd_T26 l0 x7_1).f0))).setCell ⟨gb152, 1, none⟩ (.int .i64 ((rd_T26 l0 x7_1).f1))).setCell ⟨gb152, 2, none⟩ (.int .i64 ((rd_T26 l0 x7_1).f2))).setCell ⟨gb152, 3, none⟩ (.slice A151_3 ((rd_T26 l0 x7_1).f3).length c151_3)).setCell ⟨gb152, 4, none⟩ (.slice A151_4 ((rd_T26 l0 x7_1).f4).length c151_4))) := ⟨bsw_⟩
             (try clear BK152)
             (try clear HB)
             generalize (((((w22.setCell ⟨gb152, 0, none⟩ (.int .i64 ((rd_T26 l0 x7_1).f0))).setCell ⟨gb152, 1, none⟩ (.int .i64 ((rd_T26 l0 x7_1).f1))).setCell ⟨gb152, 2, none⟩ (.int .i64 ((rd_T26 l0 x7_1).f2))).setCell ⟨gb152, 3, none⟩ (.slice A151_3 ((rd_T26 l0 x7_1).f3).length c151_3)).setCell ⟨gb152, 4, none⟩ (.slice A151_4 ((rd_T26 l0 x7_1).f4).length c151_4)) = w24 at n0_ n1_ ⊢
             have BK152 := n0_
             have HB := n1_
             clear n0_ n1_
             have n0_ := ak (blk_drew BK152.out)
             have n1_ := ak (below_drew1 HB.out)
             clear BK152
             clear HB
             have BK152 := n0_
             have HB := n1_
             clear n0_ n1_
             refine start_ (n := 18) (S := fun w' => w'.cell? ⟨gb152, 0, none⟩ = some (.int .i64 ((rd_T26 l0 x7_1).f0)) ∧ w'.cell? ⟨gb152, 1, none⟩ = some (.int .i64 ((rd_T26 l0 x7_1).f1)) ∧ w'.cell? ⟨gb152, 2, none⟩ = some (.int .i64 ((rd_T26 l0 x7_1).f2)) ∧ w'.cell? ⟨gb152, 3, none⟩ = some (.slice A151_3 ((rd_T26 l0 x7_1).f3).length c151_3) ∧ w'.cell? ⟨gb152, 4, none⟩ = some (.slice A151_4 ((rd_T26 l0 x7_1).f4).length c151_4)) (ds := []) (fb 18 0) (by kernel_rfl) rfl rfl ⟨(blk_cell BK152.out 0).trans rfl, (blk_cell BK152.out 1).trans rfl, (blk_cell BK152.out 2).trans rfl, (blk_cell BK152.out 3).trans rfl, (blk_cell BK152.out 4).trans rfl⟩ (fun hHeld => ?_); refine with_tabW sleep_Right.tab4 sleep_Right.bits4 (fun HT_ HW_ => ?_)
             generalize w24.drew = w25 at BK152 HB hHeld ⊢
             refine ta5_ 0 (some 12) (fb 18 1) HT_ HW_ hHeld ?_
             refine one_ (i := 1) (N := some 13) (fb 18 3) rfl rfl (one_of HT_.out (by kernel_rfl)) (by decide) (fun K hK => ?_)
             refine goes_ Try.func41 (by kernel_rfl) rfl #[.agg #[.int .i64 ((rd_T26 l0 x7_1).f0), .int .i64 ((rd_T26 l0 x7_1).f1), .int .i64 ((rd_T26 l0 x7_1).f2), .slice A151_3 ((rd_T26 l0 x7_1).f3).length c151_3, .slice A151_4 ((rd_T26 l0 x7_1).f4).length c151_4]] (by rfl) rfl rfl (by (try simp only [List.map_toArray, List.map_cons, List.map_nil]); first | done | rfl | (simp only [List.length_drop, List.length_take]; rfl)) ?_
             with_reducible refine (sleep_Sleeper_may.calls k1 ((rd_T26 l0 x7_1).f0) ((rd_T26 l0 x7_1).f1) ((rd_T26 l0 x7_1).f2) _ _ ((rd_T26 l0 x7_1).f3) _ _ ((rd_T26 l0 x7_1).f4) true _ ?side1 ?side2 ?side3 ?side4 A5.out).mono ?_
             (case side1 => repeat (first | exact (Kd.C_below HR151_3.out HB.out) | with_reducible first | refine Kd.C_alloc ?_ _ | refine Kd.C_drewN ?_ _ | refine Kd.C_drew ?_))
             (case side2 => exact HC151_3.out)
             (case side3 => repeat (first | exact (Kd.C_below HR151_4.out HB.out) | with_reducible first | refine Kd.C_alloc ?_ _ | refine Kd.C_drewN ?_ _ | refine Kd.C_drew ?_))
             (case side4 => exact HC151_4.out)
             rintro e w26 ⟨rfl, hb⟩
             refine ⟨_, rfl, ?_⟩
             have n0_ := bb_ BK152 hb
             have n1_ := ak (below_step bsw_ hb)
             clear BK152
             clear HB
             have BK152 := n0_
             have HB := n1_
             clear n0_ n1_
             (try clear hb)
             (try clear hb2)
             (try clear hk)
             (try clear hi)
             refine hK.out _ _ (bc5_ BK152) (fun hHeld => ?_)
             clear hK K
             refine no_ (some 13) ?_
             refine pu_ 2 (some 14) (fb 18 7) HT_ ?_
             refine pu_ 3 (some 15) (fb 18 15) HT_ ?_
             refine pu_ 4 (some 16) (fb 18 31) HT_ ?_
             refine pu_ 5 (some 17) (fb 18 63) HT_ ?_
             refine pu_ 6 (some 18) (fb 18 127) HT_ ?_
             refine pd_ 7 (some 19) (fb 18 255) HT_ ?_
             refine pd_ 8 (some 20) (fb 18 511) HT_ ?_
             refine pd_ 9 (some 21) (fb 18 1023) HT_ ?_
             refine pd_ 10 (some 22) (fb 18 2047) HT_ ?_
             refine pd_ 11 (some 23) (fb 18 4095) HT_ ?_
             refine pd_ 12 (some 24) (fb 18 8191) HT_ ?_
             refine pd_ 13 (some 25) (fb 18 16383) HT_ ?_
             refine pd_ 14 (some 26) (fb 18 32767) HT_ ?_
             refine pd_ 15 (some 27) (fb 18 65535) HT_ ?_
             refine pu_ 16 (some 28) (fb 18 131071) HT_ ?_
             refine pu_ 17 (some 29) (fb 18 262143) HT_ ?_
             refine done_ (done_of HT_.out (by kernel_rfl)) ?_
             try go_wp2
             go_roundg k1
             case measure => have := HK1.out; omega
             case rel => exact ⟨(wrap64 (x7_1 + 1)), (by first | rfl | (simp; done) | (simp [*]; done)), H', ⟨by have := HK1.out; omega⟩, ⟨bsw_⟩⟩
         · replace c6 := Bool.eq_false_iff.mpr c6
           subst c6
           rw [if_neg (show ¬ (false = true) by decide)] at H
           obtain rfl := Option.some.inj H
           have p151 : 0 ≤ (x7_1 : Int) := oda_
           have q151 : x7_1 < (l0.length : Int) := oda_
           obtain ⟨ad151, A151_3, c151_3, A151_4, c151_4, e151, hx151_0, hx151_1, hx151_2, hx151_3, hx151_4, hl151_3, hi151_3, hl151_4, hi151_4⟩ := at_T26 HR0.out x7_1 p151 q151
           cases e151
           replace hx151_0 := bl_ HB hx151_0
           replace hx151_1 := bl_ HB hx151_1
           replace hx151_2 := bl_ HB hx151_2
           replace hx151_3 := bl_ HB hx151_3
           replace hx151_4 := bl_ HB hx151_4
           have HR151_3 := ak hi151_3
           have HC151_3 := ak hl151_3
           clear hi151_3 hl151_3
           have HR151_4 := ak hi151_4
           have HC151_4 := ak hl151_4
           clear hi151_4 hl151_4
           replace p151 := eq_true p151
           replace q151 := eq_true q151
           try go_wp2_with (first | ((with_reducible refine gate_dst (N := 4) rfl ?_); refine box_event ?hg (N := 4) ?hd (cs := #[.int .i64 0, .int .i64 0, .int .i64 0, .slice none 0 0, .slice none 0 0]) (t := 26) ?hr ?_; (case hd => rfl); (case hg => rfl); (case hr => first | (go_simp; done) | (go_simp; rfl)); intro gb152 hg w27 hbox hb; replace BK152 := ak (hbox); replace GW152 := ak ((by rw [hg]; exact bsz_ : w.heap.size ≤ gb152)); replace HB := ak (bst_ hb); replace GE152 := GW152; clear hb hbox hg; obtain ⟨hcz28_0, hcz28_1, hcz28_2, hcz28_3, hcz28_4, hfz28_0, hfz28_1, hfz28_2, hfz28_3, hfz28_4⟩ := bz5_ BK152))
           have n0_ : Aside0 ((((((w27.setCell ⟨gb152, 0, none⟩ (.int .i64 ((rd_T26 l0 x7_1).f0))).setCell ⟨gb152, 1, none⟩ (.int .i64 ((rd_T26 l0 x7_1).f1))).setCell ⟨gb152, 2, none⟩ (.int .i64 ((rd_T26 l0 x7_1).f2))).setCell ⟨gb152, 3, none⟩ (.slice A151_3 ((rd_T26 l0 x7_1).f3).length c151_3)).setCell ⟨gb152, 4, none⟩ (.slice A151_4 ((rd_T26 l0 x7_1).f4).length c151_4)).heap[gb152]? = some (.cells #[.int .i64 ((rd_T26 l0 x7_1).f0), .int .i64 ((rd_T26 l0 x7_1).f1), .int .i64 ((rd_T26 l0 x7_1).f2), .slice A151_3 ((rd_T26 l0 x7_1).f3).length c151_3, .slice A151_4 ((rd_T26 l0 x7_1).f4).length c151_4] 26 (0, 0))) := ⟨by (with_reducible repeat (first | refine blk_drewN ?_ _ | refine blk_drew ?_ | refine blk_alloc ?_ _)); refine blk_put (cs := #[.int .i64 ((rd_T26 l0 x7_1).f0), .int .i64 ((rd_T26 l0 x7_1).f1), .int .i64 ((rd_T26 l0 x7_1).f2), .slice A151_3 ((rd_T26 l0 x7_1).f3).length c151_3, .slice none 0 0]) ?_ 4 _ rfl; (with_reducible repeat (first | refine blk_drewN ?_ _ | refine blk_drew ?_ | refine blk_alloc ?_ _)); refine blk_put (cs := #[.int .i64 ((rd_T26 l0 x7_1).f0), .int .i64 ((rd_T26 l0 x7_1).f1), .int .i64 ((rd_T26 l0 x7_1).f2), .slice none 0 0, .slice none 0 0]) ?_ 3 _ rfl; (with_reducible repeat (first | refine blk_drewN ?_ _ | refine blk_drew ?_ | refine blk_alloc ?_ _)); refine blk_put (cs := #[.int .i64 ((rd_T26 l0 x7_1).f0), .int .i64 ((rd_T26 l0 x7_1).f1), .int .i64 0, .slice none 0 0, .slice none 0 0]) ?_ 2 _ rfl; (with_reducible repeat (first | refine blk_drewN ?_ _ | refine blk_drew ?_ | refine blk_alloc ?_ _)); refine blk_put (cs := #[.int .i64 ((rd_T26 l0 x7_1).f0), .int .i64 0, .int .i64 0, .slice none 0 0, .slice none 0 0]) ?_ 1 _ rfl; (with_reducible repeat (first | refine blk_drewN ?_ _ | refine blk_drew ?_ | refine blk_alloc ?_ _)); refine blk_put (cs := #[.int .i64 0, .int .i64 0, .int .i64 0, .slice none 0 0, .slice none 0 0]) ?_ 0 _ rfl; (with_reducible repeat (first | refine blk_drewN ?_ _ | refine blk_drew ?_ | refine blk_alloc ?_ _)); exact BK152.out⟩
           have n1_ : Aside0 (Below w.heap.size w (((((w27.setCell ⟨gb152, 0, none⟩ (.int .i64 ((rd_T26 l0 x7_1).f0))).setCell ⟨gb152, 1, none⟩ (.int .i64 ((rd_T26 l0 x7_1).f1))).setCell ⟨gb152, 2, none⟩ (.int .i64 ((rd_T26 l0 x7_1).f2))).setCell ⟨gb152, 3, none⟩ (.slice A151_3 ((rd_T26 l0 x7_1).f3).length c151_3)).setCell ⟨gb152, 4, none⟩ (.slice A151_4 ((rd_T26 l0 x7_1).f4).length c151_4))) := ⟨bsw_⟩
           (try clear BK152)
           (try clear HB)
           generalize (((((w27.setCell ⟨gb152, 0, none⟩ (.int .i64 ((rd_T26 l0 x7_1).f0))).setCell ⟨gb152, 1, none⟩ (.int .i64 ((rd_T26 l0 x7_1).f1))).setCell ⟨gb152, 2, none⟩ (.int .i64 ((rd_T26 l0 x7_1).f2))).setCell ⟨gb152, 3, none⟩ (.slice A151_3 ((rd_T26 l0 x7_1).f3).length c151_3)).setCell ⟨gb152, 4, none⟩ (.slice A151_4 ((rd_T26 l0 x7_1).f4).length c151_4)) = w29 at n0_ n1_ ⊢
           have BK152 := n0_
           have HB := n1_
           clear n0_ n1_
           have n0_ := ak (blk_drew BK152.out)
           have n1_ := ak (below_drew1 HB.out)
           clear BK152
           clear HB
           have BK152 := n0_
           have HB := n1_
           clear n0_ n1_
           refine start_ (n := 18) (S := fun w' => w'.cell? ⟨gb152, 0, none⟩ = some (.int .i64 ((rd_T26 l0 x7_1).f0)) ∧ w'.cell? ⟨gb152, 1, none⟩ = some (.int .i64 ((rd_T26 l0 x7_1).f1)) ∧ w'.cell? ⟨gb152, 2, none⟩ = some (.int .i64 ((rd_T26 l0 x7_1).f2)) ∧ w'.cell? ⟨gb152, 3, none⟩ = some (.slice A151_3 ((rd_T26 l0 x7_1).f3).length c151_3) ∧ w'.cell? ⟨gb152, 4, none⟩ = some (.slice A151_4 ((rd_T26 l0 x7_1).f4).length c151_4)) (ds := []) (fb 18 0) (by kernel_rfl) rfl rfl ⟨(blk_cell BK152.out 0).trans rfl, (blk_cell BK152.out 1).trans rfl, (blk_cell BK152.out 2).trans rfl, (blk_cell BK152.out 3).trans rfl, (blk_cell BK152.out 4).trans rfl⟩ (fun hHeld => ?_); refine with_tabW sleep_Right.tab4 sleep_Right.bits4 (fun HT_ HW_ => ?_)
           generalize w29.drew = w30 at BK152 HB hHeld ⊢
           refine ta5_ 0 (some 12) (fb 18 1) HT_ HW_ hHeld ?_
           refine one_ (i := 1) (N := some 13) (fb 18 3) rfl rfl (one_of HT_.out (by kernel_rfl)) (by decide) (fun K hK => ?_)
           refine goes_ Try.func41 (by kernel_rfl) rfl #[.agg #[.int .i64 ((rd_T26 l0 x7_1).f0), .int .i64 ((rd_T26 l0 x7_1).f1), .int .i64 ((rd_T26 l0 x7_1).f2), .slice A151_3 ((rd_T26 l0 x7_1).f3).length c151_3, .slice A151_4 ((rd_T26 l0 x7_1).f4).length c151_4]] (by rfl) rfl rfl (by (try simp only [List.map_toArray, List.map_cons, List.map_nil]); first | done | rfl | (simp only [List.length_drop, List.length_take]; rfl)) ?_
           with_reducible refine (sleep_Sleeper_may.calls k1 ((rd_T26 l0 x7_1).f0) ((rd_T26 l0 x7_1).f1) ((rd_T26 l0 x7_1).f2) _ _ ((rd_T26 l0 x7_1).f3) _ _ ((rd_T26 l0 x7_1).f4) false _ ?side1 ?side2 ?side3 ?side4 A5.out).mono ?_
           (case side1 => repeat (first | exact (Kd.C_below HR151_3.out HB.out) | with_reducible first | refine Kd.C_alloc ?_ _ | refine Kd.C_drewN ?_ _ | refine Kd.C_drew ?_))
           (case side2 => exact HC151_3.out)
           (case side3 => repeat (first | exact (Kd.C_below HR151_4.out HB.out) | with_reducible first | refine Kd.C_alloc ?_ _ | refine Kd.C_drewN ?_ _ | refine Kd.C_drew ?_))
           (case side4 => exact HC151_4.out)
           rintro e w31 ⟨rfl, hb⟩
           refine ⟨_, rfl, ?_⟩
           have n0_ := bb_ BK152 hb
           have n1_ := ak (below_step bsw_ hb)
           clear BK152
           clear HB
           have BK152 := n0_
           have HB := n1_
           clear n0_ n1_
           (try clear hb)
           (try clear hb2)
           (try clear hk)
           (try clear hi)
           refine hK.out _ _ (bc5_ BK152) (fun hHeld => ?_)
           clear hK K
           refine no_ (some 13) ?_
           refine pu_ 2 (some 14) (fb 18 7) HT_ ?_
           refine pu_ 3 (some 15) (fb 18 15) HT_ ?_
           refine pd_ 4 (some 16) (fb 18 31) HT_ ?_
           refine pd_ 5 (some 17) (fb 18 63) HT_ ?_
           refine pd_ 6 (some 18) (fb 18 127) HT_ ?_
           refine pd_ 7 (some 19) (fb 18 255) HT_ ?_
           refine pd_ 8 (some 20) (fb 18 511) HT_ ?_
           refine pd_ 9 (some 21) (fb 18 1023) HT_ ?_
           refine pd_ 10 (some 22) (fb 18 2047) HT_ ?_
           refine pd_ 11 (some 23) (fb 18 4095) HT_ ?_
           refine pd_ 12 (some 24) (fb 18 8191) HT_ ?_
           refine pd_ 13 (some 25) (fb 18 16383) HT_ ?_
           refine pd_ 14 (some 26) (fb 18 32767) HT_ ?_
           refine pd_ 15 (some 27) (fb 18 65535) HT_ ?_
           refine pd_ 16 (some 28) (fb 18 131071) HT_ ?_
           refine pu_ 17 (some 29) (fb 18 262143) HT_ ?_
           refine done_ (done_of HT_.out (by kernel_rfl)) ?_
           try go_wp2
           go_ret
           exact ⟨by first | rfl | (simp [errW_none, errW_some] <;> rfl) | (simp [*, errW_none, errW_some] <;> rfl), bsw_⟩
       · rw [if_neg c4] at H
         exact absurd H (by simp)
     · rw [if_neg c3] at H
       exact absurd H (by simp)
   · rw [if_neg c2] at H
     have c2b0 : decide (x7_1 < (l0.length : Int)) = false := decide_eq_false c2
     clear c2
     obtain rfl := Option.some.inj H
     go_wp2
     go_ret
     exact ⟨by first | rfl | (simp [errW_none, errW_some] <;> rfl) | (simp [*, errW_none, errW_some] <;> rfl), bsv_⟩

end Go.Proofs.Ytjnkpocfmpbpoaa.F
