-- PRINTED by print.py (a twelfth state) out of the translation. Not trusted: Lean checks it.
import Derived.Test.YtjnkpocfmpbpoaaFx0
import Derived.Test.YtjnkpocfmpbpoaaFx18
namespace Go.Proofs.Ytjnkpocfmpbpoaa.F
open Go.Proofs.Ytjnkpocfmpbpoaa.Ho
open Go.RowKit Go.Proofs.YtjnkpocfmpbpoaaW.PrintWords Go.Proofs.YtjnkpocfmpbpoaaW.PrintLast Go.Proofs.YtjnkpocfmpbpoaaW.PrintMore
attribute [local go_sem] max2_int min2_int max_two min_two max_three min_three max_four min_four   -- for this text's walks alone
set_option linter.unusedVariables false
set_option linter.unusedSimpArgs false

/-! ### handshakerref15_Same: function 27 -/
def handshakerref15_Same.l0 : Nat → List (S39) → List (S39) → Int → Option (Bool)
 | 0, _, _, _ => none
 | k + 1, x0, x1, x5 => if x5 < (x0.length : Int) then (if 0 ≤ x5 then (if x5 < (x1.length : Int) then ((handshakerref15_One2.f k ((rd_T39 x0 x5).f0) ((rd_T39 x0 x5).f1) ((rd_T39 x0 x5).f2) ((rd_T39 x0 x5).f3) ((rd_T39 x0 x5).f4) ((rd_T39 x1 x5).f0) ((rd_T39 x1 x5).f1) ((rd_T39 x1 x5).f2) ((rd_T39 x1 x5).f3) ((rd_T39 x1 x5).f4)).bind fun t510 => (if t510 = true then (handshakerref15_Same.l0 k x0 x1 (wrap64 (x5 + 1))) else (some false))) else (none)) else (none)) else (some true)
def handshakerref15_Same.f (k : Nat) (l0 : List (S39)) (l1 : List (S39)) : Option (Bool) := if (l0.length : Int) = (l1.length : Int) then (handshakerref15_Same.l0 k l0 l1 0) else (some false)
theorem handshakerref15_Same.mono_l : ∀ k, (∀ y0 y1 y2, LeO (handshakerref15_Same.l0 k y0 y1 y2) (handshakerref15_Same.l0 (k + 1) y0 y1 y2))
 | 0 => fun _ _ _ r h => by simp [handshakerref15_Same.l0] at h
 | k + 1 => by
  have ih0 := handshakerref15_Same.mono_l k
  · intro y0 y1 y2
    unfold handshakerref15_Same.l0
    repeat' first
    | (with_reducible exact ih0 _ _ _)
    | (with_reducible exact handshakerref15_One2.mono _ _ _ _ _ _ _ _ _ _ _)
    | (with_reducible exact LeO.refl _)
    | (with_reducible exact LeO.none _)
    | (with_reducible refine LeO.ite ?_ ?_)
    | (with_reducible refine LeO.bind ?_ (fun _ => ?_))
    | exact ih0 _ _ _
    | exact handshakerref15_One2.mono _ _ _ _ _ _ _ _ _ _ _
    | exact LeO.none _
    | refine LeO.ite ?_ ?_
    | refine LeO.bind ?_ (fun _ => ?_)
theorem handshakerref15_Same.mono : ∀ a0 a1 k, LeO (handshakerref15_Same.f k a0 a1) (handshakerref15_Same.f (k + 1) a0 a1) := by
 intro a0 a1 k
 have ih0 := handshakerref15_Same.mono_l k
 unfold handshakerref15_Same.f
 repeat' first
  | (with_reducible exact ih0 _ _ _)
  | (with_reducible exact handshakerref15_One2.mono _ _ _ _ _ _ _ _ _ _ _)
  | (with_reducible exact LeO.refl _)
  | (with_reducible exact LeO.none _)
  | (with_reducible refine LeO.ite ?_ ?_)
  | (with_reducible refine LeO.bind ?_ (fun _ => ?_))
  | exact ih0 _ _ _
  | exact handshakerref15_One2.mono _ _ _ _ _ _ _ _ _ _ _
  | exact LeO.none _
  | refine LeO.ite ?_ ?_
  | refine LeO.bind ?_ (fun _ => ?_)
def handshakerref15_Same.T6 : Bool × List (List Nat × List Nat) := (true, [([], []), ([], []), ([0, 1], [0, 1]), ([2], [2]), ([], []), ([], []), ([4, 5], [4, 5]), ([6], [6]), ([3, 7], [3, 7]), ([8, 8, 0, 1, 2, 3, 4, 5, 6, 7, 8], [8])])
def handshakerref15_Same.B6 : List Nat := [0, 0, 3, 7, 0, 0, 48, 112, 255, 511]
theorem handshakerref15_Same.tab6 : rtab .any (opsOf Try.f27 6) = handshakerref15_Same.T6 := by kernel_rfl
theorem handshakerref15_Same.bits6 : waitsOk handshakerref15_Same.T6.2 handshakerref15_Same.B6 = true := by kernel_rfl
set_option maxHeartbeats 8000000 in
set_option maxRecDepth 100000 in
theorem handshakerref15_Same.calls (k : Nat) (A0 : Option Addr) (c0 : Nat) (l0 : List (S39)) (A1 : Option Addr) (c1 : Nat) (l1 : List (S39)) (r : Bool) (w : World) (hr0 : Kd.C k39 w A0 l0.length l0) (hc0 : l0.length ≤ c0) (hr1 : Kd.C k39 w A1 l1.length l1) (hc1 : l1.length ≤ c1) (h : handshakerref15_Same.f k l0 l1 = some r) :
 Calls Try.prog 27 #[.slice A0 l0.length c0, .slice A1 l1.length c1] w fun e w' => e = .returned (.bool r) ∧ Below w.heap.size w w' := by
 have hu39 := Try.underlying39
 have HR0 := ak hr0
 have HC0 := ak hc0
 clear hr0 hc0
 have HR1 := ak hr1
 have HC1 := ak hc1
 clear hr1 hc1
 have HB := ak (Below.refl w.heap.size w)
 have H : (if (l0.length : Int) = (l1.length : Int) then (handshakerref15_Same.l0 k l0 l1 0) else (some false)) = some r := h
 clear h
 by_cases c3 : (l0.length : Int) = (l1.length : Int)
 · rw [if_pos c3] at H
   have c3b0 : ((l0.length : Int) == (l1.length : Int)) = true := beq_iff_eq.mpr c3
   have c3b1 : ((l0.length : Int) != (l1.length : Int)) = false := bne_eq_false_iff_eq.mpr c3
   have c3b2 : (l0.length == l1.length) = true := by first | simpa using c3 | (simp at c3 ⊢; omega)
   clear c3
   have H' := ak H
   clear H
   go_enter Try.func27, Try.ntmps27
   go_wp2
   go_loopg [5] k (fun kq v5 w' => ∃ (x5_1 : Int), v5 = .int .i64 x5_1 ∧ Aside0 (handshakerref15_Same.l0 kq l0 l1 x5_1 = some r) ∧ Aside0 (kq ≤ k) ∧ Aside0 (Below w.heap.size w w'))
   case atStart => exact ⟨(0), (by first | rfl | (simp; done) | (simp [*]; done)), H', ⟨Nat.le_refl _⟩, ⟨bsv_⟩⟩
   case round =>
    clear H'
    try clear c1
    try clear c2
    try clear p2
    try clear c3
    try clear c3b0
    try clear c3b1
    try clear c3b2
    obtain ⟨x5_1, rfl, HA, HK1, HB⟩ := hrel
    cases gk with
    | zero => exact absurd HA.out (by simp [handshakerref15_Same.l0])
    | succ k1 =>
     have H := HA.out
     clear HA
     simp only [handshakerref15_Same.l0] at H
     by_cases c4 : x5_1 < (l0.length : Int)
     · rw [if_pos c4] at H
       have c4b0 : decide (x5_1 < (l0.length : Int)) = true := decide_eq_true c4
       clear c4
       by_cases c5 : 0 ≤ x5_1
       · rw [if_pos c5] at H
         have c5b0 : decide (0 ≤ x5_1) = true := decide_eq_true c5
         clear c5
         by_cases c6 : x5_1 < (l1.length : Int)
         · rw [if_pos c6] at H
           have c6b0 : decide (x5_1 < (l1.length : Int)) = true := decide_eq_true c6
           clear c6
           obtain ⟨t510, A7, H⟩ := bd_ H
           by_cases c8 : t510 = true
           · subst c8
             rw [if_pos rfl] at H
             have H' := ak H
             clear H
             try go_wp2
             have n0_ := ak (below_drew1 HB.out)
             clear HB
             have HB := n0_
             clear n0_
             have p508 : 0 ≤ (x5_1 : Int) := oda_
             have q508 : x5_1 < (l0.length : Int) := oda_
             obtain ⟨ad508, A508_3, c508_3, A508_4, c508_4, e508, hx508_0, hx508_1, hx508_2, hx508_3, hx508_4, hl508_3, hi508_3, hl508_4, hi508_4⟩ := at_T39 HR0.out x5_1 p508 q508
             have hw508_4 := hx508_4
             have hw508_3 := hx508_3
             have hw508_2 := hx508_2
             have hw508_1 := hx508_1
             have hw508_0 := hx508_0
             cases e508
             replace hx508_0 := bl_ HB hx508_0
             replace hx508_1 := bl_ HB hx508_1
             replace hx508_2 := bl_ HB hx508_2
             replace hx508_3 := bl_ HB hx508_3
             replace hx508_4 := bl_ HB hx508_4
             have HR508_3 := ak hi508_3
             have HC508_3 := ak hl508_3
             clear hi508_3 hl508_3
             have HR508_4 := ak hi508_4
             have HC508_4 := ak hl508_4
             clear hi508_4 hl508_4
             replace p508 := eq_true p508
             replace q508 := eq_true q508
             have p509 : 0 ≤ (x5_1 : Int) := oda_
             have q509 : x5_1 < (l1.length : Int) := oda_
             obtain ⟨ad509, A509_3, c509_3, A509_4, c509_4, e509, hx509_0, hx509_1, hx509_2, hx509_3, hx509_4, hl509_3, hi509_3, hl509_4, hi509_4⟩ := at_T39 HR1.out x5_1 p509 q509
             have hw509_4 := hx509_4
             have hw509_3 := hx509_3
             have hw509_2 := hx509_2
             have hw509_1 := hx509_1
             have hw509_0 := hx509_0
             cases e509
             replace hx509_0 := bl_ HB hx509_0
             replace hx509_1 := bl_ HB hx509_1
             replace hx509_2 := bl_ HB hx509_2
             replace hx509_3 := bl_ HB hx509_3
             replace hx509_4 := bl_ HB hx509_4
             have HR509_3 := ak hi509_3
             have HC509_3 := ak hl509_3
             clear hi509_3 hl509_3
             have HR509_4 := ak hi509_4
             have HC509_4 := ak hl509_4
             clear hi509_4 hl509_4
             replace p509 := eq_true p509
             replace q509 := eq_true q509
             refine start_ (n := 10) (S := fun w' => w'.cell? (ad508.add ((x5_1).toNat * 5)) = some (.int .i64 ((rd_T39 l0 x5_1).f0)) ∧ w'.cell? ⟨(ad508.add ((x5_1).toNat * 5)).block, (ad508.add ((x5_1).toNat * 5)).off + 1, none⟩ = some (.int .i64 ((rd_T39 l0 x5_1).f1)) ∧ w'.cell? ⟨(ad508.add ((x5_1).toNat * 5)).block, (ad508.add ((x5_1).toNat * 5)).off + 2, none⟩ = some (.int .i64 ((rd_T39 l0 x5_1).f2)) ∧ w'.cell? ⟨(ad508.add ((x5_1).toNat * 5)).block, (ad508.add ((x5_1).toNat * 5)).off + 3, none⟩ = some (.slice A508_3 ((rd_T39 l0 x5_1).f3).length c508_3) ∧ w'.cell? ⟨(ad508.add ((x5_1).toNat * 5)).block, (ad508.add ((x5_1).toNat * 5)).off + 4, none⟩ = some (.slice A508_4 ((rd_T39 l0 x5_1).f4).length c508_4) ∧ w'.cell? (ad509.add ((x5_1).toNat * 5)) = some (.int .i64 ((rd_T39 l1 x5_1).f0)) ∧ w'.cell? ⟨(ad509.add ((x5_1).toNat * 5)).block, (ad509.add ((x5_1).toNat * 5)).off + 1, none⟩ = some (.int .i64 ((rd_T39 l1 x5_1).f1)) ∧ w'.cell? ⟨(ad509.add ((x5_1).toNat * 5)).block, (ad509.add ((x5_1).toNat * 5)).off + 2, none⟩ = some (.int .i64 ((rd_T39 l1 x5_1).f2)) ∧ w'.cell? ⟨(ad509.add ((x5_1).toNat * 5)).block, (ad509.add ((x5_1).toNat * 5)).off + 3, none⟩ = some (.slice A509_3 ((rd_T39 l1 x5_1).f3).length c509_3) ∧ w'.cell? ⟨(ad509.add ((x5_1).toNat * 5)).block, (ad509.add ((x5_1).toNat * 5)).off + 4, none⟩ = some (.slice A509_4 ((rd_T39 l1 x5_1).f4).length c509_4)) (ds := []) (fb 10 0) (by kernel_rfl) rfl rfl ⟨(bl_ HB hw508_0), (bl_ HB hw508_1), (bl_ HB hw508_2), (bl_ HB hw508_3), (bl_ HB hw508_4), (bl_ HB hw509_0), (bl_ HB hw509_1), (bl_ HB hw509_2), (bl_ HB hw509_3), (bl_ HB hw509_4)⟩ (fun hHeld => ?_); refine with_tabW handshakerref15_Same.tab6 handshakerref15_Same.bits6 (fun HT_ HW_ => ?_)
             generalize wr.drew = w9 at HB HR508_3 HR508_4 HR509_3 HR509_4 hx508_0 hx508_1 hx508_2 hx508_3 hx508_4 hx509_0 hx509_1 hx509_2 hx509_3 hx509_4 hHeld ⊢
             refine pu_ 0 (some 18) (fb 10 1) HT_ ?_
             refine pu_ 1 (some 19) (fb 10 3) HT_ ?_
             refine pu_ 2 (some 20) (fb 10 7) HT_ ?_
             refine pu_ 4 (some 22) (fb 10 23) HT_ ?_
             refine pu_ 5 (some 23) (fb 10 55) HT_ ?_
             refine pu_ 6 (some 24) (fb 10 119) HT_ ?_
             refine ta10_ 3 (some 21) (fb 10 127) HT_ HW_ hHeld ?_
             refine ta10_ 7 (some 25) (fb 10 255) HT_ HW_ hHeld ?_
             refine one_ (i := 8) (N := some 26) (fb 10 511) rfl rfl (one_of HT_.out (by kernel_rfl)) (by decide) (fun K hK => ?_)
             refine goes_ Try.func25 (by kernel_rfl) rfl #[.agg #[.int .i64 ((rd_T39 l0 x5_1).f0), .int .i64 ((rd_T39 l0 x5_1).f1), .int .i64 ((rd_T39 l0 x5_1).f2), .slice A508_3 ((rd_T39 l0 x5_1).f3).length c508_3, .slice A508_4 ((rd_T39 l0 x5_1).f4).length c508_4], .agg #[.int .i64 ((rd_T39 l1 x5_1).f0), .int .i64 ((rd_T39 l1 x5_1).f1), .int .i64 ((rd_T39 l1 x5_1).f2), .slice A509_3 ((rd_T39 l1 x5_1).f3).length c509_3, .slice A509_4 ((rd_T39 l1 x5_1).f4).length c509_4]] (by rfl) rfl rfl (by (try simp only [List.map_toArray, List.map_cons, List.map_nil]); first | done | rfl | (simp only [List.length_drop, List.length_take]; rfl)) ?_
             with_reducible refine (handshakerref15_One2.calls k1 ((rd_T39 l0 x5_1).f0) ((rd_T39 l0 x5_1).f1) ((rd_T39 l0 x5_1).f2) _ _ ((rd_T39 l0 x5_1).f3) _ _ ((rd_T39 l0 x5_1).f4) ((rd_T39 l1 x5_1).f0) ((rd_T39 l1 x5_1).f1) ((rd_T39 l1 x5_1).f2) _ _ ((rd_T39 l1 x5_1).f3) _ _ ((rd_T39 l1 x5_1).f4) true _ ?side1 ?side2 ?side3 ?side4 ?side5 ?side6 ?side7 ?side8 A7.out).mono ?_
             (case side1 => repeat (first | exact (Kd.C_below HR508_3.out HB.out) | with_reducible first | refine Kd.C_alloc ?_ _ | refine Kd.C_drewN ?_ _ | refine Kd.C_drew ?_))
             (case side2 => exact HC508_3.out)
             (case side3 => repeat (first | exact (Kd.C_below HR508_4.out HB.out) | with_reducible first | refine Kd.C_alloc ?_ _ | refine Kd.C_drewN ?_ _ | refine Kd.C_drew ?_))
             (case side4 => exact HC508_4.out)
             (case side5 => repeat (first | exact (Kd.C_below HR509_3.out HB.out) | with_reducible first | refine Kd.C_alloc ?_ _ | refine Kd.C_drewN ?_ _ | refine Kd.C_drew ?_))
             (case side6 => exact HC509_3.out)
             (case side7 => repeat (first | exact (Kd.C_below HR509_4.out HB.out) | with_reducible first | refine Kd.C_alloc ?_ _ | refine Kd.C_drewN ?_ _ | refine Kd.C_drew ?_))
             (case side8 => exact HC509_4.out)
             rintro e w10 ⟨rfl, hb⟩
             refine ⟨_, rfl, ?_⟩
             have n0_ := ak (bst_ hb)
             clear HB
             have HB := n0_
             clear n0_
             (try clear hb)
             (try clear hb2)
             (try clear hk)
             (try clear hi)
             refine hK.out _ _ ⟨(bl_ HB hw508_0), (bl_ HB hw508_1), (bl_ HB hw508_2), (bl_ HB hw508_3), (bl_ HB hw508_4), (bl_ HB hw509_0), (bl_ HB hw509_1), (bl_ HB hw509_2), (bl_ HB hw509_3), (bl_ HB hw509_4)⟩ (fun hHeld => ?_)
             clear hK K
             refine no_ (some 26) ?_
             refine pu_ 9 (some 6) (fb 10 1023) HT_ ?_
             refine done_ (done_of HT_.out (by kernel_rfl)) ?_
             try go_wp2
             go_roundg k1
             case measure => have := HK1.out; omega
             case rel => exact ⟨(wrap64 (x5_1 + 1)), (by first | rfl | (simp; done) | (simp [*]; done)), H', ⟨by have := HK1.out; omega⟩, ⟨bsv_⟩⟩
           · replace c8 := Bool.eq_false_iff.mpr c8
             subst c8
             rw [if_neg (show ¬ (false = true) by decide)] at H
             obtain rfl := Option.some.inj H
             try go_wp2
             have n0_ := ak (below_drew1 HB.out)
             clear HB
             have HB := n0_
             clear n0_
             have p508 : 0 ≤ (x5_1 : Int) := oda_
             have q508 : x5_1 < (l0.length : Int) := oda_
             obtain ⟨ad508, A508_3, c508_3, A508_4, c508_4, e508, hx508_0, hx508_1, hx508_2, hx508_3, hx508_4, hl508_3, hi508_3, hl508_4, hi508_4⟩ := at_T39 HR0.out x5_1 p508 q508
             have hw508_4 := hx508_4
             have hw508_3 := hx508_3
             have hw508_2 := hx508_2
             have hw508_1 := hx508_1
             have hw508_0 := hx508_0
             cases e508
             replace hx508_0 := bl_ HB hx508_0
             replace hx508_1 := bl_ HB hx508_1
             replace hx508_2 := bl_ HB hx508_2
             replace hx508_3 := bl_ HB hx508_3
             replace hx508_4 := bl_ HB hx508_4
             have HR508_3 := ak hi508_3
             have HC508_3 := ak hl508_3
             clear hi508_3 hl508_3
             have HR508_4 := ak hi508_4
             have HC508_4 := ak hl508_4
             clear hi508_4 hl508_4
             replace p508 := eq_true p508
             replace q508 := eq_true q508
             have p509 : 0 ≤ (x5_1 : Int) := oda_
             have q509 : x5_1 < (l1.length : Int) := oda_
             obtain ⟨ad509, A509_3, c509_3, A509_4, c509_4, e509, hx509_0, hx509_1, hx509_2, hx509_3, hx509_4, hl509_3, hi509_3, hl509_4, hi509_4⟩ := at_T39 HR1.out x5_1 p509 q509
             have hw509_4 := hx509_4
             have hw509_3 := hx509_3
             have hw509_2 := hx509_2
             have hw509_1 := hx509_1
             have hw509_0 := hx509_0
             cases e509
             replace hx509_0 := bl_ HB hx509_0
             replace hx509_1 := bl_ HB hx509_1
             replace hx509_2 := bl_ HB hx509_2
             replace hx509_3 := bl_ HB hx509_3
             replace hx509_4 := bl_ HB hx509_4
             have HR509_3 := ak hi509_3
             have HC509_3 := ak hl509_3
             clear hi509_3 hl509_3
             have HR509_4 := ak hi509_4
             have HC509_4 := ak hl509_4
             clear hi509_4 hl509_4
             replace p509 := eq_true p509
             replace q509 := eq_true q509
             refine start_ (n := 10) (S := fun w' => w'.cell? (ad508.add ((x5_1).toNat * 5)) = some (.int .i64 ((rd_T39 l0 x5_1).f0)) ∧ w'.cell? ⟨(ad508.add ((x5_1).toNat * 5)).block, (ad508.add ((x5_1).toNat * 5)).off + 1, none⟩ = some (.int .i64 ((rd_T39 l0 x5_1).f1)) ∧ w'.cell? ⟨(ad508.add ((x5_1).toNat * 5)).block, (ad508.add ((x5_1).toNat * 5)).off + 2, none⟩ = some (.int .i64 ((rd_T39 l0 x5_1).f2)) ∧ w'.cell? ⟨(ad508.add ((x5_1).toNat * 5)).block, (ad508.add ((x5_1).toNat * 5)).off + 3, none⟩ = some (.slice A508_3 ((rd_T39 l0 x5_1).f3).length c508_3) ∧ w'.cell? ⟨(ad508.add ((x5_1).toNat * 5)).block, (ad508.add ((x5_1).toNat * 5)).off + 4, none⟩ = some (.slice A508_4 ((rd_T39 l0 x5_1).f4).length c508_4) ∧ w'.cell? (ad509.add ((x5_1).toNat * 5)) = some (.int .i64 ((rd_T39 l1 x5_1).f0)) ∧ w'.cell? ⟨(ad509.add ((x5_1).toNat * 5)).block, (ad509.add ((x5_1).toNat * 5)).off + 1, none⟩ = some (.int .i64 ((rd_T39 l1 x5_1).f1)) ∧ w'.cell? ⟨(ad509.add ((x5_1).toNat * 5)).block, (ad509.add ((x5_1).toNat * 5)).off + 2, none⟩ = some (.int .i64 ((rd_T39 l1 x5_1).f2)) ∧ w'.cell? ⟨(ad509.add ((x5_1).toNat * 5)).block, (ad509.add ((x5_1).toNat * 5)).off + 3, none⟩ = some (.slice A509_3 ((rd_T39 l1 x5_1).f3).length c509_3) ∧ w'.cell? ⟨(ad509.add ((x5_1).toNat * 5)).block, (ad509.add ((x5_1).toNat * 5)).off + 4, none⟩ = some (.slice A509_4 ((rd_T39 l1 x5_1).f4).length c509_4)) (ds := []) (fb 10 0) (by kernel_rfl) rfl rfl ⟨(bl_ HB hw508_0), (bl_ HB hw508_1), (bl_ HB hw508_2), (bl_ HB hw508_3), (bl_ HB hw508_4), (bl_ HB hw509_0), (bl_ HB hw509_1), (bl_ HB hw509_2), (bl_ HB hw509_3), (bl_ HB hw509_4)⟩ (fun hHeld => ?_); refine with_tabW handshakerref15_Same.tab6 handshakerref15_Same.bits6 (fun HT_ HW_ => ?_)
             generalize wr.drew = w11 at HB HR508_3 HR508_4 HR509_3 HR509_4 hx508_0 hx508_1 hx508_2 hx508_3 hx508_4 hx509_0 hx509_1 hx509_2 hx509_3 hx509_4 hHeld ⊢
             refine pu_ 0 (some 18) (fb 10 1) HT_ ?_
             refine pu_ 1 (some 19) (fb 10 3) HT_ ?_
             refine pu_ 2 (some 20) (fb 10 7) HT_ ?_
             refine pu_ 4 (some 22) (fb 10 23) HT_ ?_
             refine pu_ 5 (some 23) (fb 10 55) HT_ ?_
             refine pu_ 6 (some 24) (fb 10 119) HT_ ?_
             refine ta10_ 3 (some 21) (fb 10 127) HT_ HW_ hHeld ?_
             refine ta10_ 7 (some 25) (fb 10 255) HT_ HW_ hHeld ?_
             refine one_ (i := 8) (N := some 26) (fb 10 511) rfl rfl (one_of HT_.out (by kernel_rfl)) (by decide) (fun K hK => ?_)
             refine goes_ Try.func25 (by kernel_rfl) rfl #[.agg #[.int .i64 ((rd_T39 l0 x5_1).f0), .int .i64 ((rd_T39 l0 x5_1).f1), .int .i64 ((rd_T39 l0 x5_1).f2), .slice A508_3 ((rd_T39 l0 x5_1).f3).length c508_3, .slice A508_4 ((rd_T39 l0 x5_1).f4).length c508_4], .agg #[.int .i64 ((rd_T39 l1 x5_1).f0), .int .i64 ((rd_T39 l1 x5_1).f1), .int .i64 ((rd_T39 l1 x5_1).f2), .slice A509_3 ((rd_T39 l1 x5_1).f3).length c509_3, .slice A509_4 ((rd_T39 l1 x5_1).f4).length c509_4]] (by rfl) rfl rfl (by (try simp only [List.map_toArray, List.map_cons, List.map_nil]); first | done | rfl | (simp only [List.length_drop, List.length_take]; rfl)) ?_
             with_reducible refine (handshakerref15_One2.calls k1 ((rd_T39 l0 x5_1).f0) ((rd_T39 l0 x5_1).f1) ((rd_T39 l0 x5_1).f2) _ _ ((rd_T39 l0 x5_1).f3) _ _ ((rd_T39 l0 x5_1).f4) ((rd_T39 l1 x5_1).f0) ((rd_T39 l1 x5_1).f1) ((rd_T39 l1 x5_1).f2) _ _ ((rd_T39 l1 x5_1).f3) _ _ ((rd_T39 l1 x5_1).f4) false _ ?side1 ?side2 ?side3 ?side4 ?side5 ?side6 ?side7 ?side8 A7.out).mono ?_
             (case side1 => repeat (first | exact (Kd.C_below HR508_3.out HB.out) | with_reducible first | refine Kd.C_alloc ?_ _ | refine Kd.C_drewN ?_ _ | refine Kd.C_drew ?_))
             (case side2 => exact HC508_3.out)
             (case side3 => repeat (first | exact (Kd.C_below HR508_4.out HB.out) | with_reducible first | refine Kd.C_alloc ?_ _ | refine Kd.C_drewN ?_ _ | refine Kd.C_drew ?_))
             (case side4 => exact HC508_4.out)
             (case side5 => repeat (first | exact (Kd.C_below HR509_3.out HB.out) | with_reducible first | refine Kd.C_alloc ?_ _ | refine Kd.C_drewN ?_ _ | refine Kd.C_drew ?_))
             (case side6 => exact HC509_3.out)
             (case side7 => repeat (first | exact (Kd.C_below HR509_4.out HB.out) | with_reducible first | refine Kd.C_alloc ?_ _ | refine Kd.C_drewN ?_ _ | refine Kd.C_drew ?_))
             (case side8 => exact HC509_4.out)
             rintro e w12 ⟨rfl, hb⟩
             refine ⟨_, rfl, ?_⟩
             have n0_ := ak (bst_ hb)
             clear HB
             have HB := n0_
             clear n0_
             (try clear hb)
             (try clear hb2)
             (try clear hk)
             (try clear hi)
             refine hK.out _ _ ⟨(bl_ HB hw508_0), (bl_ HB hw508_1), (bl_ HB hw508_2), (bl_ HB hw508_3), (bl_ HB hw508_4), (bl_ HB hw509_0), (bl_ HB hw509_1), (bl_ HB hw509_2), (bl_ HB hw509_3), (bl_ HB hw509_4)⟩ (fun hHeld => ?_)
             clear hK K
             refine no_ (some 26) ?_
             refine pu_ 9 (some 6) (fb 10 1023) HT_ ?_
             refine done_ (done_of HT_.out (by kernel_rfl)) ?_
             try go_wp2
             go_ret
             exact ⟨by first | rfl | (simp [errW_none, errW_some] <;> rfl) | (simp [*, errW_none, errW_some] <;> rfl), bsv_⟩
         · rw [if_neg c6] at H
           exact absurd H (by simp)
       · rw [if_neg c5] at H
         exact absurd H (by simp)
     · rw [if_neg c4] at H
       have c4b0 : decide (x5_1 < (l0.length : Int)) = false := decide_eq_false c4
       clear c4
       obtain rfl := Option.some.inj H
       go_wp2
       go_ret
       exact ⟨by first | rfl | (simp [errW_none, errW_some] <;> rfl) | (simp [*, errW_none, errW_some] <;> rfl), bsv_⟩
 · rw [if_neg c3] at H
   have c3b0 : ((l0.length : Int) == (l1.length : Int)) = false := beq_eq_false_iff_ne.mpr c3
   have c3b1 : ((l0.length : Int) != (l1.length : Int)) = true := bne_iff_ne.mpr c3
   have c3b2 : (l0.length == l1.length) = false := by first | simpa using c3 | (simp at c3 ⊢; omega)
   obtain rfl := Option.some.inj H
   go_enter Try.func27, Try.ntmps27
   go_wp2
   go_ret
   exact ⟨by first | rfl | (simp [errW_none, errW_some] <;> rfl) | (simp [*, errW_none, errW_some] <;> rfl), bsv_⟩

end Go.Proofs.Ytjnkpocfmpbpoaa.F
