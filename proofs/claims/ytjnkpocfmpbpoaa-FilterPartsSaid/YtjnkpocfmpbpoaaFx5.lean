-- PRINTED by print.py (a twelfth state) out of the translation. Not trusted: Lean checks it.
import Derived.Test.YtjnkpocfmpbpoaaFx0
import Derived.Test.YtjnkpocfmpbpoaaFx3
import Derived.Test.YtjnkpocfmpbpoaaFx4
namespace Go.Proofs.Ytjnkpocfmpbpoaa.F
open Go.Proofs.Ytjnkpocfmpbpoaa.Ho
open Go.RowKit Go.Proofs.YtjnkpocfmpbpoaaW.PrintWords Go.Proofs.YtjnkpocfmpbpoaaW.PrintLast Go.Proofs.YtjnkpocfmpbpoaaW.PrintMore
attribute [local go_sem] max2_int min2_int max_two min_two max_three min_three max_four min_four   -- for this text's walks alone
set_option linter.unusedVariables false
set_option linter.unusedSimpArgs false

/-! ### sleep_Sleeper_may: function 41 -/
def sleep_Sleeper_may.j0 : Nat → Bool → Int → Int → Int → List (S62) → List (S80) → Option (Bool)
 | 0, _, _, _, _, _, _ => none
 | k + 1, x23, x140000, x140001, x140002, x140003, x140004 => if x23 = true then (some false) else (if x140001 = 3 then ((any_at_sleep_Sleeper_may_1.f x140004).bind fun t142 => ((term_Check.f k x140004).bind fun t143 => (if t143 = 0 then (if t142 = true then (some false) else ((sleep_Sleeper_cells.f k x140000 x140001 x140002 x140003 x140004).bind fun t144 => ((term_Cells.f k x140004).bind fun t147 => ((slices_Equal.f k t144 t147).bind fun t150 => (some t150))))) else (some false)))) else (if x140001 = 1 then (some ((x140004.length : Int) == 0)) else (if x140001 = 2 then (some ((x140004.length : Int) == 0)) else (some false))))
def sleep_Sleeper_may.f (k : Nat) (a0_0 : Int) (a0_1 : Int) (a0_2 : Int) (l0_3 : List (S62)) (l0_4 : List (S80)) : Option (Bool) := if a0_0 < 1 then (sleep_Sleeper_may.j0 k true a0_0 a0_1 a0_2 l0_3 l0_4) else (if a0_0 > 8 then (sleep_Sleeper_may.j0 k true a0_0 a0_1 a0_2 l0_3 l0_4) else ((tick_Right.f a0_2).bind fun t140 => (if t140 = true then ((sleep_watches.f k l0_3).bind fun t141 => (sleep_Sleeper_may.j0 k (!t141) a0_0 a0_1 a0_2 l0_3 l0_4)) else (sleep_Sleeper_may.j0 k true a0_0 a0_1 a0_2 l0_3 l0_4))))
theorem sleep_Sleeper_may.mono_l : ∀ k, (∀ y0 y1 y2 y3 y4 y5, LeO (sleep_Sleeper_may.j0 k y0 y1 y2 y3 y4 y5) (sleep_Sleeper_may.j0 (k + 1) y0 y1 y2 y3 y4 y5))
 | 0 => fun _ _ _ _ _ _ r h => by simp [sleep_Sleeper_may.j0] at h
 | k + 1 => by
  have ih0 := sleep_Sleeper_may.mono_l k
  · intro y0 y1 y2 y3 y4 y5
    unfold sleep_Sleeper_may.j0
    repeat' first
    | (with_reducible exact ih0 _ _ _ _ _ _)
    | (with_reducible exact sleep_Sleeper_cells.mono _ _ _ _ _ _)
    | (with_reducible exact sleep_watches.mono _ _)
    | (with_reducible exact slices_Equal.mono _ _ _)
    | (with_reducible exact term_Cells.mono _ _)
    | (with_reducible exact term_Check.mono _ _)
    | (with_reducible exact LeO.refl _)
    | (with_reducible exact LeO.none _)
    | (with_reducible refine LeO.ite ?_ ?_)
    | (with_reducible refine LeO.bind ?_ (fun _ => ?_))
    | exact ih0 _ _ _ _ _ _
    | exact sleep_Sleeper_cells.mono _ _ _ _ _ _
    | exact sleep_watches.mono _ _
    | exact slices_Equal.mono _ _ _
    | exact term_Cells.mono _ _
    | exact term_Check.mono _ _
    | exact LeO.none _
    | refine LeO.ite ?_ ?_
    | refine LeO.bind ?_ (fun _ => ?_)
theorem sleep_Sleeper_may.mono : ∀ a0 a1 a2 a3 a4 k, LeO (sleep_Sleeper_may.f k a0 a1 a2 a3 a4) (sleep_Sleeper_may.f (k + 1) a0 a1 a2 a3 a4) := by
 intro a0 a1 a2 a3 a4 k
 have ih0 := sleep_Sleeper_may.mono_l k
 unfold sleep_Sleeper_may.f
 repeat' first
  | (with_reducible exact ih0 _ _ _ _ _ _)
  | (with_reducible exact sleep_Sleeper_cells.mono _ _ _ _ _ _)
  | (with_reducible exact sleep_watches.mono _ _)
  | (with_reducible exact slices_Equal.mono _ _ _)
  | (with_reducible exact term_Cells.mono _ _)
  | (with_reducible exact term_Check.mono _ _)
  | (with_reducible exact LeO.refl _)
  | (with_reducible exact LeO.none _)
  | (with_reducible refine LeO.ite ?_ ?_)
  | (with_reducible refine LeO.bind ?_ (fun _ => ?_))
  | exact ih0 _ _ _ _ _ _
  | exact sleep_Sleeper_cells.mono _ _ _ _ _ _
  | exact sleep_watches.mono _ _
  | exact slices_Equal.mono _ _ _
  | exact term_Cells.mono _ _
  | exact term_Check.mono _ _
  | exact LeO.none _
  | refine LeO.ite ?_ ?_
  | refine LeO.bind ?_ (fun _ => ?_)
def sleep_Sleeper_may.T6 : Bool × List (List Nat × List Nat) := (true, [([], []), ([0], [0]), ([1], [1]), ([2], [2]), ([3, 2], [3]), ([4], [4]), ([5, 4], [4, 5]), ([4, 6], [4, 6]), ([7, 4], [7]), ([8], [8]), ([9, 8, 8], [8, 9]), ([8], [8]), ([11, 8], [8, 11]), ([12, 10, 8], [8, 12]), ([10, 13, 13, 8], [8, 10, 13]), ([8, 14], [8, 14]), ([15, 14, 0, 1, 2, 3, 4, 5, 6, 7, 8, 9, 10, 11, 12, 13, 14, 15], [15])])
def sleep_Sleeper_may.B6 : List Nat := [0, 1, 3, 7, 15, 31, 63, 127, 255, 511, 1023, 511, 2559, 8191, 16383, 32767, 65535]
theorem sleep_Sleeper_may.tab6 : rtab .any (opsOf Try.f41 6) = sleep_Sleeper_may.T6 := by kernel_rfl
theorem sleep_Sleeper_may.bits6 : waitsOk sleep_Sleeper_may.T6.2 sleep_Sleeper_may.B6 = true := by kernel_rfl
set_option maxHeartbeats 8000000 in
set_option maxRecDepth 100000 in
theorem sleep_Sleeper_may.calls (k : Nat) (a0_0 : Int) (a0_1 : Int) (a0_2 : Int) (A0_3 : Option Addr) (c0_3 : Nat) (l0_3 : List (S62)) (A0_4 : Option Addr) (c0_4 : Nat) (l0_4 : List (S80)) (r : Bool) (w : World) (hr0_3 : Kd.C k62 w A0_3 l0_3.length l0_3) (hc0_3 : l0_3.length ≤ c0_3) (hr0_4 : Kd.C k80 w A0_4 l0_4.length l0_4) (hc0_4 : l0_4.length ≤ c0_4) (h : sleep_Sleeper_may.f k a0_0 a0_1 a0_2 l0_3 l0_4 = some r) :
 Calls Try.prog 41 #[.agg #[.int .i64 a0_0, .int .i64 a0_1, .int .i64 a0_2, .slice A0_3 l0_3.length c0_3, .slice A0_4 l0_4.length c0_4]] w fun e w' => e = .returned (.bool r) ∧ Below w.heap.size w w' := by
 have hu26 := Try.underlying26
 have HR0_3 := ak hr0_3
 have HC0_3 := ak hc0_3
 clear hr0_3 hc0_3
 have HR0_4 := ak hr0_4
 have HC0_4 := ak hc0_4
 clear hr0_4 hc0_4
 have HB := ak (Below.refl w.heap.size w)
 have H : (if a0_0 < 1 then (sleep_Sleeper_may.j0 k true a0_0 a0_1 a0_2 l0_3 l0_4) else (if a0_0 > 8 then (sleep_Sleeper_may.j0 k true a0_0 a0_1 a0_2 l0_3 l0_4) else ((tick_Right.f a0_2).bind fun t140 => (if t140 = true then ((sleep_watches.f k l0_3).bind fun t141 => (sleep_Sleeper_may.j0 k (!t141) a0_0 a0_1 a0_2 l0_3 l0_4)) else (sleep_Sleeper_may.j0 k true a0_0 a0_1 a0_2 l0_3 l0_4))))) = some r := h
 clear h
 have HC2 := ak H
 clear H
 go_enter Try.func41, Try.ntmps41
 go_upto_region 1 with (first | ((with_reducible refine gate_dst (N := 1) rfl ?_); (try (refine gate_guard (by rfl) ?_; dsimp only)); refine box_event ?hg (N := 1) ?hd (cs := #[.int .i64 a0_0, .int .i64 a0_1, .int .i64 a0_2, .slice A0_3 l0_3.length c0_3, .slice A0_4 l0_4.length c0_4]) (t := 26) ?hr ?_; (case hd => rfl); (case hg => rfl); (case hr => first | (go_simp; done) | (go_simp; rfl)); intro gb139 hg w3 hbox hb; replace BK139 := ak (hbox); replace GW139 := ak ((by rw [hg]; exact bsz_ : w.heap.size ≤ gb139)); replace HB := ak (bst_ hb); replace GE139 := GW139; clear hb hbox hg))
 (try simp only [Act.put, List.setIfInBounds_toArray, List.set_cons_zero, List.set_cons_succ])
 go_cut [23] (fun v23 wc => ∃ (kq : Nat) (x23_1 : Bool), v23 = .bool x23_1 ∧ Aside0 (sleep_Sleeper_may.j0 kq x23_1 a0_0 a0_1 a0_2 l0_3 l0_4 = some r) ∧ Aside0 (kq ≤ k) ∧ Aside0 (wc.heap[gb139]? = some (.cells #[.int .i64 a0_0, .int .i64 a0_1, .int .i64 a0_2, (.slice A0_3 l0_3.length c0_3), (.slice A0_4 l0_4.length c0_4)] 26 (0, 0))) ∧ Aside0 (Below w.heap.size w wc))
 case first =>
  have H := HC2.out
  clear HC2
  by_cases c4 : a0_0 < 1
  · rw [if_pos c4] at H
    have c4b0 : decide (a0_0 < 1) = true := decide_eq_true c4
    clear c4
    (first | rw [c4b0] | (simp only [i64_w, i32_w]; rw [c4b0]) | skip)
    have H' := ak H
    clear H
    obtain ⟨hcz5_0, hcz5_1, hcz5_2, hcz5_3, hcz5_4, hfz5_0, hfz5_1, hfz5_2, hfz5_3, hfz5_4⟩ := bz5_ BK139
    go_wp2
    go_meet
    case rel => exact ⟨_, (true), (by first | rfl | (simp; done) | (simp [*]; done)), H', ⟨by first | omega | exact Nat.le_refl _⟩, ⟨bq_ BK139⟩, ⟨bsw_⟩⟩
  · rw [if_neg c4] at H
    have c4b0 : decide (a0_0 < 1) = false := decide_eq_false c4
    clear c4
    (first | rw [c4b0] | (simp only [i64_w, i32_w]; rw [c4b0]) | skip)
    by_cases c6 : a0_0 > 8
    · rw [if_pos c6] at H
      have c6b0 : decide (8 < a0_0) = true := decide_eq_true c6
      clear c6
      have H' := ak H
      clear H
      obtain ⟨hcz7_0, hcz7_1, hcz7_2, hcz7_3, hcz7_4, hfz7_0, hfz7_1, hfz7_2, hfz7_3, hfz7_4⟩ := bz5_ BK139
      go_wp2
      go_meet
      case rel => exact ⟨_, (true), (by first | rfl | (simp; done) | (simp [*]; done)), H', ⟨by first | omega | exact Nat.le_refl _⟩, ⟨bq_ BK139⟩, ⟨bsw_⟩⟩
    · rw [if_neg c6] at H
      have c6b0 : decide (8 < a0_0) = false := decide_eq_false c6
      clear c6
      obtain ⟨t140, A8, H⟩ := bd_ H
      by_cases c9 : t140 = true
      · subst c9
        rw [if_pos rfl] at H
        obtain ⟨t141, A10, H⟩ := bd_ H
        have H' := ak H
        clear H
        obtain ⟨hcz11_0, hcz11_1, hcz11_2, hcz11_3, hcz11_4, hfz11_0, hfz11_1, hfz11_2, hfz11_3, hfz11_4⟩ := bz5_ BK139
        go_wp2_with (first | (go_at_call 58; (with_reducible refine (tick_Right.calls a0_2 true _ A8.out).mono ?_); rintro e w' ⟨rfl, ⟨nd, rfl⟩⟩) | (go_at_call 67; (with_reducible refine (sleep_watches.calls k _ _ l0_3 t141 _ ?side1 ?side2 A10.out).mono ?_); (case side1 => repeat (first | exact (Kd.C_below HR0_3.out bsw_) | with_reducible first | refine Kd.C_alloc ?_ _ | refine Kd.C_drewN ?_ _ | refine Kd.C_drew ?_)); (case side2 => exact HC0_3.out); rintro e w12 ⟨rfl, hb⟩; replace BK139 := bb_ BK139 hb; replace HB := ak (below_step bsw_ hb); (try clear hb); (try clear hb2); (try clear hk); (try clear hi)))
        go_meet
        case rel => exact ⟨_, (!t141), (by first | rfl | (simp; done) | (simp [*]; done)), H', ⟨by first | omega | exact Nat.le_refl _⟩, ⟨bq_ BK139⟩, ⟨bsw_⟩⟩
      · replace c9 := Bool.eq_false_iff.mpr c9
        subst c9
        rw [if_neg (show ¬ (false = true) by decide)] at H
        have H' := ak H
        clear H
        obtain ⟨hcz13_0, hcz13_1, hcz13_2, hcz13_3, hcz13_4, hfz13_0, hfz13_1, hfz13_2, hfz13_3, hfz13_4⟩ := bz5_ BK139
        go_wp2_with (first | (go_at_call 58; (with_reducible refine (tick_Right.calls a0_2 false _ A8.out).mono ?_); rintro e w' ⟨rfl, ⟨nd, rfl⟩⟩))
        go_meet
        case rel => exact ⟨_, (true), (by first | rfl | (simp; done) | (simp [*]; done)), H', ⟨by first | omega | exact Nat.le_refl _⟩, ⟨bq_ BK139⟩, ⟨bsw_⟩⟩
 case rest =>
  clear HC2
  try clear p2
  try clear c4
  try clear c4b0
  try clear c6
  try clear c6b0
  try clear c9
  try clear hcz11_0
  try clear hcz11_1
  try clear hcz11_2
  try clear hcz11_3
  try clear hcz11_4
  try clear hcz13_0
  try clear hcz13_1
  try clear hcz13_2
  try clear hcz13_3
  try clear hcz13_4
  try clear hcz5_0
  try clear hcz5_1
  try clear hcz5_2
  try clear hcz5_3
  try clear hcz5_4
  try clear hcz7_0
  try clear hcz7_1
  try clear hcz7_2
  try clear hcz7_3
  try clear hcz7_4
  try clear hfz11_0
  try clear hfz11_1
  try clear hfz11_2
  try clear hfz11_3
  try clear hfz11_4
  try clear hfz13_0
  try clear hfz13_1
  try clear hfz13_2
  try clear hfz13_3
  try clear hfz13_4
  try clear hfz5_0
  try clear hfz5_1
  try clear hfz5_2
  try clear hfz5_3
  try clear hfz5_4
  try clear hfz7_0
  try clear hfz7_1
  try clear hfz7_2
  try clear hfz7_3
  try clear hfz7_4
  obtain ⟨kq, x23_1, rfl, HA, HJ1, BK139, HB⟩ := hcut
  cases kq with
  | zero => exact absurd HA.out (by simp [sleep_Sleeper_may.j0])
  | succ kj1 =>
   have H := HA.out
   clear HA
   simp only [sleep_Sleeper_may.j0] at H
   by_cases c14 : x23_1 = true
   · subst c14
     rw [if_pos rfl] at H
     obtain rfl := Option.some.inj H
     go_wp2
     go_ret
     exact ⟨by first | rfl | (simp [errW_none, errW_some] <;> rfl) | (simp [*, errW_none, errW_some] <;> rfl), bsw_⟩
   · replace c14 := Bool.eq_false_iff.mpr c14
     subst c14
     rw [if_neg (show ¬ (false = true) by decide)] at H
     by_cases c15 : a0_1 = 3
     · rw [if_pos c15] at H
       have c15b0 : (a0_1 == 3) = true := beq_iff_eq.mpr c15
       have c15b1 : (a0_1 != 3) = false := bne_eq_false_iff_eq.mpr c15
       clear c15
       obtain ⟨t142, A16, H⟩ := bd_ H
       obtain ⟨t143, A17, H⟩ := bd_ H
       by_cases c18 : t143 = 0
       · rw [if_pos c18] at H
         have c18b0 : (t143 == 0) = true := beq_iff_eq.mpr c18
         have c18b1 : (t143 != 0) = false := bne_eq_false_iff_eq.mpr c18
         clear c18
         by_cases c19 : t142 = true
         · subst c19
           rw [if_pos rfl] at H
           obtain rfl := Option.some.inj H
           obtain ⟨hcz20_0, hcz20_1, hcz20_2, hcz20_3, hcz20_4, hfz20_0, hfz20_1, hfz20_2, hfz20_3, hfz20_4⟩ := bz5_ BK139
           try go_wp2_with (first | ((with_reducible refine gate_callee (f := 68) rfl ?_); refine goesL_ (some 43) rfl rfl Try.func68 (by kernel_rfl) rfl #[.slice A0_4 l0_4.length c0_4, .func (.func 69) #[] #[]] rfl mp_ ?_; (with_reducible refine (any_at_sleep_Sleeper_may_1.calls _ _ l0_4 true _ ?side1 ?side2 A16.out).mono ?_); (case side1 => repeat (first | exact (Kd.C_below HR0_4.out HB.out) | with_reducible first | refine Kd.C_alloc ?_ _ | refine Kd.C_drewN ?_ _ | refine Kd.C_drew ?_)); (case side2 => exact HC0_4.out); rintro e w21 ⟨rfl, hb⟩; refine ⟨_, rfl, ?_⟩; replace BK139 := bb_ BK139 hb; replace HB := ak (below_step bsw_ hb); (try clear hb); (try clear hb2); (try clear hk); (try clear hi)))
           have n0_ := ak (blk_drew BK139.out)
           have n1_ := ak (below_drew1 HB.out)
           clear BK139
           clear HB
           have BK139 := n0_
           have HB := n1_
           clear n0_ n1_
           refine start_ (n := 17) (S := fun w' => w'.cell? ⟨gb139, 0, none⟩ = some (.int .i64 a0_0) ∧ w'.cell? ⟨gb139, 1, none⟩ = some (.int .i64 a0_1) ∧ w'.cell? ⟨gb139, 2, none⟩ = some (.int .i64 a0_2) ∧ w'.cell? ⟨gb139, 3, none⟩ = some (.slice A0_3 l0_3.length c0_3) ∧ w'.cell? ⟨gb139, 4, none⟩ = some (.slice A0_4 l0_4.length c0_4)) (ds := []) (fb 17 0) (by kernel_rfl) rfl rfl ⟨(blk_cell BK139.out 0).trans rfl, (blk_cell BK139.out 1).trans rfl, (blk_cell BK139.out 2).trans rfl, (blk_cell BK139.out 3).trans rfl, (blk_cell BK139.out 4).trans rfl⟩ (fun hHeld => ?_); refine with_tabW sleep_Sleeper_may.tab6 sleep_Sleeper_may.bits6 (fun HT_ HW_ => ?_)
           generalize w21.drew = w22 at BK139 HB hHeld ⊢
           refine pu_ 0 (some 44) (fb 17 1) HT_ ?_
           refine ta5_ 1 (some 45) (fb 17 3) HT_ HW_ hHeld ?_
           refine one_ (i := 2) (N := some 46) (fb 17 7) rfl rfl (one_of HT_.out (by kernel_rfl)) (by decide) (fun K hK => ?_)
           refine goes_ Try.func70 (by kernel_rfl) rfl #[.slice A0_4 l0_4.length c0_4] (by rfl) rfl rfl (by (try simp only [List.map_toArray, List.map_cons, List.map_nil]); first | done | rfl | (simp only [List.length_drop, List.length_take]; rfl)) ?_
           with_reducible refine (term_Check.calls kj1 _ _ l0_4 t143 _ ?side1 ?side2 A17.out).mono ?_
           (case side1 => repeat (first | exact (Kd.C_below HR0_4.out HB.out) | with_reducible first | refine Kd.C_alloc ?_ _ | refine Kd.C_drewN ?_ _ | refine Kd.C_drew ?_))
           (case side2 => exact HC0_4.out)
           rintro e w23 ⟨rfl, hb⟩
           refine ⟨_, rfl, ?_⟩
           have n0_ := bb_ BK139 hb
           have n1_ := ak (below_step bsw_ hb)
           clear BK139
           clear HB
           have BK139 := n0_
           have HB := n1_
           clear n0_ n1_
           (try clear hb)
           (try clear hb2)
           (try clear hk)
           (try clear hi)
           refine hK.out _ _ (bc5_ BK139) (fun hHeld => ?_)
           clear hK K
           refine no_ (some 46) ?_
           refine pu_ 3 (some 47) (fb 17 15) HT_ ?_
           refine pu_ 4 (some 48) (fb 17 31) HT_ ?_
           refine pu_ 5 (some 49) (fb 17 63) HT_ ?_
           refine pu_ 6 (some 50) (fb 17 127) HT_ ?_
           refine pu_ 7 (some 51) (fb 17 255) HT_ ?_
           refine pu_ 8 (some 52) (fb 17 511) HT_ ?_
           refine pd_ 9 (some 53) (fb 17 1023) HT_ ?_
           refine pd_ 10 (some 54) (fb 17 2047) HT_ ?_
           refine pd_ 11 (some 55) (fb 17 4095) HT_ ?_
           refine pd_ 12 (some 56) (fb 17 8191) HT_ ?_
           refine pd_ 13 (some 57) (fb 17 16383) HT_ ?_
           refine pd_ 14 (some 58) (fb 17 32767) HT_ ?_
           refine pu_ 15 (some 59) (fb 17 65535) HT_ ?_
           refine pu_ 16 (some 2) (fb 17 131071) HT_ ?_
           refine done_ (done_of HT_.out (by kernel_rfl)) ?_
           try go_wp2
           go_ret
           exact ⟨by first | rfl | (simp [errW_none, errW_some] <;> rfl) | (simp [*, errW_none, errW_some] <;> rfl), bsw_⟩
         · replace c19 := Bool.eq_false_iff.mpr c19
           subst c19
           rw [if_neg (show ¬ (false = true) by decide)] at H
           obtain ⟨t144, A24, H⟩ := bd_ H
           obtain ⟨t147, A25, H⟩ := bd_ H
           obtain ⟨t150, A26, H⟩ := bd_ H
           obtain rfl := Option.some.inj H
           obtain ⟨hcz27_0, hcz27_1, hcz27_2, hcz27_3, hcz27_4, hfz27_0, hfz27_1, hfz27_2, hfz27_3, hfz27_4⟩ := bz5_ BK139
           try go_wp2_with (first | ((with_reducible refine gate_callee (f := 68) rfl ?_); refine goesL_ (some 43) rfl rfl Try.func68 (by kernel_rfl) rfl #[.slice A0_4 l0_4.length c0_4, .func (.func 69) #[] #[]] rfl mp_ ?_; (with_reducible refine (any_at_sleep_Sleeper_may_1.calls _ _ l0_4 false _ ?side1 ?side2 A16.out).mono ?_); (case side1 => repeat (first | exact (Kd.C_below HR0_4.out HB.out) | with_reducible first | refine Kd.C_alloc ?_ _ | refine Kd.C_drewN ?_ _ | refine Kd.C_drew ?_)); (case side2 => exact HC0_4.out); rintro e w28 ⟨rfl, hb⟩; refine ⟨_, rfl, ?_⟩; replace BK139 := bb_ BK139 hb; replace HB := ak (below_step bsw_ hb); (try clear hb); (try clear hb2); (try clear hk); (try clear hi)))
           have n0_ := ak (blk_drew BK139.out)
           have n1_ := ak (below_drew1 HB.out)
           clear BK139
           clear HB
           have BK139 := n0_
           have HB := n1_
           clear n0_ n1_
           refine start_ (n := 17) (S := fun w' => w'.cell? ⟨gb139, 0, none⟩ = some (.int .i64 a0_0) ∧ w'.cell? ⟨gb139, 1, none⟩ = some (.int .i64 a0_1) ∧ w'.cell? ⟨gb139, 2, none⟩ = some (.int .i64 a0_2) ∧ w'.cell? ⟨gb139, 3, none⟩ = some (.slice A0_3 l0_3.length c0_3) ∧ w'.cell? ⟨gb139, 4, none⟩ = some (.slice A0_4 l0_4.length c0_4)) (ds := []) (fb 17 0) (by kernel_rfl) rfl rfl ⟨(blk_cell BK139.out 0).trans rfl, (blk_cell BK139.out 1).trans rfl, (blk_cell BK139.out 2).trans rfl, (blk_cell BK139.out 3).trans rfl, (blk_cell BK139.out 4).trans rfl⟩ (fun hHeld => ?_); refine with_tabW sleep_Sleeper_may.tab6 sleep_Sleeper_may.bits6 (fun HT_ HW_ => ?_)
           generalize w28.drew = w29 at BK139 HB hHeld ⊢
           refine pu_ 0 (some 44) (fb 17 1) HT_ ?_
           refine ta5_ 1 (some 45) (fb 17 3) HT_ HW_ hHeld ?_
           refine one_ (i := 2) (N := some 46) (fb 17 7) rfl rfl (one_of HT_.out (by kernel_rfl)) (by decide) (fun K hK => ?_)
           refine goes_ Try.func70 (by kernel_rfl) rfl #[.slice A0_4 l0_4.length c0_4] (by rfl) rfl rfl (by (try simp only [List.map_toArray, List.map_cons, List.map_nil]); first | done | rfl | (simp only [List.length_drop, List.length_take]; rfl)) ?_
           with_reducible refine (term_Check.calls kj1 _ _ l0_4 t143 _ ?side1 ?side2 A17.out).mono ?_
           (case side1 => repeat (first | exact (Kd.C_below HR0_4.out HB.out) | with_reducible first | refine Kd.C_alloc ?_ _ | refine Kd.C_drewN ?_ _ | refine Kd.C_drew ?_))
           (case side2 => exact HC0_4.out)
           rintro e w30 ⟨rfl, hb⟩
           refine ⟨_, rfl, ?_⟩
           have n0_ := bb_ BK139 hb
           have n1_ := ak (below_step bsw_ hb)
           clear BK139
           clear HB
           have BK139 := n0_
           have HB := n1_
           clear n0_ n1_
           (try clear hb)
           (try clear hb2)
           (try clear hk)
           (try clear hi)
           refine hK.out _ _ (bc5_ BK139) (fun hHeld => ?_)
           clear hK K
           refine no_ (some 46) ?_
           refine pu_ 3 (some 47) (fb 17 15) HT_ ?_
           refine pu_ 4 (some 48) (fb 17 31) HT_ ?_
           refine pu_ 5 (some 49) (fb 17 63) HT_ ?_
           refine pu_ 6 (some 50) (fb 17 127) HT_ ?_
           refine pu_ 7 (some 51) (fb 17 255) HT_ ?_
           refine pu_ 8 (some 52) (fb 17 511) HT_ ?_
           refine pu_ 11 (some 55) (fb 17 2559) HT_ ?_
           refine ta5_ 9 (some 53) (fb 17 3071) HT_ HW_ hHeld ?_
           refine ta5_ 12 (some 56) (fb 17 7167) HT_ HW_ hHeld ?_
           refine one_ (i := 10) (N := some 54) (fb 17 8191) rfl rfl (one_of HT_.out (by kernel_rfl)) (by decide) (fun K hK => ?_)
           refine goes_ Try.func50 (by kernel_rfl) rfl #[.agg #[.int .i64 a0_0, .int .i64 a0_1, .int .i64 a0_2, .slice A0_3 l0_3.length c0_3, .slice A0_4 l0_4.length c0_4]] (by rfl) rfl rfl (by (try simp only [List.map_toArray, List.map_cons, List.map_nil]); first | done | rfl | (simp only [List.length_drop, List.length_take]; rfl)) ?_
           with_reducible refine (sleep_Sleeper_cells.calls kj1 a0_0 a0_1 a0_2 _ _ l0_3 _ _ l0_4 t144 _ ?side1 ?side2 ?side3 ?side4 A24.out).mono ?_
           (case side1 => repeat (first | exact (Kd.C_below HR0_3.out HB.out) | with_reducible first | refine Kd.C_alloc ?_ _ | refine Kd.C_drewN ?_ _ | refine Kd.C_drew ?_))
           (case side2 => exact HC0_3.out)
           (case side3 => repeat (first | exact (Kd.C_below HR0_4.out HB.out) | with_reducible first | refine Kd.C_alloc ?_ _ | refine Kd.C_drewN ?_ _ | refine Kd.C_drew ?_))
           (case side4 => exact HC0_4.out)
           rintro e w31 ⟨v145, rfl, ho0, hb⟩
           refine ⟨_, rfl, ?_⟩
           have n0_ := ak (Kd.R_lower ho0 (below_size bsw_))
           have n1_ := bb_ BK139 hb
           have n2_ := ak (below_step bsw_ hb)
           clear BK139
           clear HB
           have HO146 := n0_
           have BK139 := n1_
           have HB := n2_
           clear n0_ n1_ n2_
           (try clear hb)
           (try clear hb2)
           (try clear hk)
           (try clear hi)
           (try clear ho0)
           refine hK.out _ _ (bc5_ BK139) (fun hHeld => ?_)
           clear hK K
           refine no_ (some 54) ?_
           refine one_ (i := 13) (N := some 57) (fb 17 16383) rfl rfl (one_of HT_.out (by kernel_rfl)) (by decide) (fun K hK => ?_)
           refine goes_ Try.func72 (by kernel_rfl) rfl #[.slice A0_4 l0_4.length c0_4] (by rfl) rfl rfl (by (try simp only [List.map_toArray, List.map_cons, List.map_nil]); first | done | rfl | (simp only [List.length_drop, List.length_take]; rfl)) ?_
           with_reducible refine (term_Cells.calls kj1 _ _ l0_4 t147 _ ?side1 ?side2 A25.out).mono ?_
           (case side1 => repeat (first | exact (Kd.C_below HR0_4.out HB.out) | with_reducible first | refine Kd.C_alloc ?_ _ | refine Kd.C_drewN ?_ _ | refine Kd.C_drew ?_))
           (case side2 => exact HC0_4.out)
           rintro e w32 ⟨v148, rfl, ho0, hb⟩
           refine ⟨_, rfl, ?_⟩
           have n0_ := ak (Kd.R_elder' (rq_ HO146) (Kd.R_base ho0) hb)
           have n1_ := ak (Kd.R_lower (Kd.R_new' ho0 (Kd.R_lt (rq_ HO146))) (below_size bsw_))
           have n2_ := bb_ BK139 hb
           have n3_ := ak (below_step bsw_ hb)
           clear HO146
           clear BK139
           clear HB
           have HO146 := n0_
           have HO149 := n1_
           have BK139 := n2_
           have HB := n3_
           clear n0_ n1_ n2_ n3_
           (try clear hb)
           (try clear hb2)
           (try clear hk)
           (try clear hi)
           (try clear ho0)
           obtain ⟨Ao33, co33, eo33⟩ := Kd.R_slice HO146.out
           (first | subst eo33 | (injection eo33 with f1_ f2_ f3_; have f4_ := f1_.symm; have f5_ := f3_.symm; clear f1_ f2_ f3_; subst f4_; subst f5_))
           obtain ⟨Ao34, co34, eo34⟩ := Kd.R_slice HO149.out
           (first | subst eo34 | (injection eo34 with f1_ f2_ f3_; have f4_ := f1_.symm; have f5_ := f3_.symm; clear f1_ f2_ f3_; subst f4_; subst f5_))
           refine hK.out _ _ (bc5_ BK139) (fun hHeld => ?_)
           clear hK K
           refine no_ (some 57) ?_
           refine one_ (i := 14) (N := some 58) (fb 17 32767) rfl rfl (one_of HT_.out (by kernel_rfl)) (by decide) (fun K hK => ?_)
           refine goes_ Try.func71 (by kernel_rfl) rfl #[.slice Ao33 t144.length co33, .slice Ao34 t147.length co34] (by rfl) rfl rfl (by (try simp only [List.map_toArray, List.map_cons, List.map_nil]); first | done | rfl | (simp only [List.length_drop, List.length_take]; rfl)) ?_
           with_reducible refine (slices_Equal.calls kj1 _ _ t144 _ _ t147 t150 _ ?side1 ?side2 ?side3 ?side4 A26.out).mono ?_
           (case side1 => repeat (first | exact (Kd.R_reads' HO146.out).2.2 | with_reducible first | refine Kd.C_alloc ?_ _ | refine Kd.C_drewN ?_ _ | refine Kd.C_drew ?_))
           (case side2 => exact (Kd.R_reads' HO146.out).2.1)
           (case side3 => repeat (first | exact (Kd.R_reads' HO149.out).2.2 | with_reducible first | refine Kd.C_alloc ?_ _ | refine Kd.C_drewN ?_ _ | refine Kd.C_drew ?_))
           (case side4 => exact (Kd.R_reads' HO149.out).2.1)
           rintro e w' ⟨rfl, ⟨nd, rfl⟩⟩
           refine ⟨_, rfl, ?_⟩
           refine hK.out _ _ (bc5_ BK139) (fun hHeld => ?_)
           clear hK K
           refine no_ (some 58) ?_
           refine pu_ 15 (some 59) (fb 17 65535) HT_ ?_
           refine pu_ 16 (some 2) (fb 17 131071) HT_ ?_
           refine done_ (done_of HT_.out (by kernel_rfl)) ?_
           try go_wp2
           go_ret
           exact ⟨by first | rfl | (simp [errW_none, errW_some] <;> rfl) | (simp [*, errW_none, errW_some] <;> rfl), bsw_⟩
       · rw [if_neg c18] at H
         have c18b0 : (t143 == 0) = false := beq_eq_false_iff_ne.mpr c18
         have c18b1 : (t143 != 0) = true := bne_iff_ne.mpr c18
         obtain rfl := Option.some.inj H
         obtain ⟨hcz35_0, hcz35_1, hcz35_2, hcz35_3, hcz35_4, hfz35_0, hfz35_1, hfz35_2, hfz35_3, hfz35_4⟩ := bz5_ BK139
         try go_wp2_with (first | ((with_reducible refine gate_callee (f := 68) rfl ?_); refine goesL_ (some 43) rfl rfl Try.func68 (by kernel_rfl) rfl #[.slice A0_4 l0_4.length c0_4, .func (.func 69) #[] #[]] rfl mp_ ?_; (with_reducible refine (any_at_sleep_Sleeper_may_1.calls _ _ l0_4 t142 _ ?side1 ?side2 A16.out).mono ?_); (case side1 => repeat (first | exact (Kd.C_below HR0_4.out HB.out) | with_reducible first | refine Kd.C_alloc ?_ _ | refine Kd.C_drewN ?_ _ | refine Kd.C_drew ?_)); (case side2 => exact HC0_4.out); rintro e w36 ⟨rfl, hb⟩; refine ⟨_, rfl, ?_⟩; replace BK139 := bb_ BK139 hb; replace HB := ak (below_step bsw_ hb); (try clear hb); (try clear hb2); (try clear hk); (try clear hi)))
         have n0_ := ak (blk_drew BK139.out)
         have n1_ := ak (below_drew1 HB.out)
         clear BK139
         clear HB
         have BK139 := n0_
         have HB := n1_
         clear n0_ n1_
         refine start_ (n := 17) (S := fun w' => w'.cell? ⟨gb139, 0, none⟩ = some (.int .i64 a0_0) ∧ w'.cell? ⟨gb139, 1, none⟩ = some (.int .i64 a0_1) ∧ w'.cell? ⟨gb139, 2, none⟩ = some (.int .i64 a0_2) ∧ w'.cell? ⟨gb139, 3, none⟩ = some (.slice A0_3 l0_3.length c0_3) ∧ w'.cell? ⟨gb139, 4, none⟩ = some (.slice A0_4 l0_4.length c0_4)) (ds := []) (fb 17 0) (by kernel_rfl) rfl rfl ⟨(blk_cell BK139.out 0).trans rfl, (blk_cell BK139.out 1).trans rfl, (blk_cell BK139.out 2).trans rfl, (blk_cell BK139.out 3).trans rfl, (blk_cell BK139.out 4).trans rfl⟩ (fun hHeld => ?_); refine with_tabW sleep_Sleeper_may.tab6 sleep_Sleeper_may.bits6 (fun HT_ HW_ => ?_)
         generalize w36.drew = w37 at BK139 HB hHeld ⊢
         refine pu_ 0 (some 44) (fb 17 1) HT_ ?_
         refine ta5_ 1 (some 45) (fb 17 3) HT_ HW_ hHeld ?_
         refine one_ (i := 2) (N := some 46) (fb 17 7) rfl rfl (one_of HT_.out (by kernel_rfl)) (by decide) (fun K hK => ?_)
         refine goes_ Try.func70 (by kernel_rfl) rfl #[.slice A0_4 l0_4.length c0_4] (by rfl) rfl rfl (by (try simp only [List.map_toArray, List.map_cons, List.map_nil]); first | done | rfl | (simp only [List.length_drop, List.length_take]; rfl)) ?_
         with_reducible refine (term_Check.calls kj1 _ _ l0_4 t143 _ ?side1 ?side2 A17.out).mono ?_
         (case side1 => repeat (first | exact (Kd.C_below HR0_4.out HB.out) | with_reducible first | refine Kd.C_alloc ?_ _ | refine Kd.C_drewN ?_ _ | refine Kd.C_drew ?_))
         (case side2 => exact HC0_4.out)
         rintro e w38 ⟨rfl, hb⟩
         refine ⟨_, rfl, ?_⟩
         have n0_ := bb_ BK139 hb
         have n1_ := ak (below_step bsw_ hb)
         clear BK139
         clear HB
         have BK139 := n0_
         have HB := n1_
         clear n0_ n1_
         (try clear hb)
         (try clear hb2)
         (try clear hk)
         (try clear hi)
         refine hK.out _ _ (bc5_ BK139) (fun hHeld => ?_)
         clear hK K
         refine no_ (some 46) ?_
         refine pu_ 3 (some 47) (fb 17 15) HT_ ?_
         refine pu_ 4 (some 48) (fb 17 31) HT_ ?_
         refine pd_ 5 (some 49) (fb 17 63) HT_ ?_
         refine pd_ 6 (some 50) (fb 17 127) HT_ ?_
         refine pu_ 7 (some 51) (fb 17 255) HT_ ?_
         refine pu_ 8 (some 52) (fb 17 511) HT_ ?_
         refine pd_ 9 (some 53) (fb 17 1023) HT_ ?_
         refine pd_ 10 (some 54) (fb 17 2047) HT_ ?_
         refine pd_ 11 (some 55) (fb 17 4095) HT_ ?_
         refine pd_ 12 (some 56) (fb 17 8191) HT_ ?_
         refine pd_ 13 (some 57) (fb 17 16383) HT_ ?_
         refine pd_ 14 (some 58) (fb 17 32767) HT_ ?_
         refine pu_ 15 (some 59) (fb 17 65535) HT_ ?_
         refine pu_ 16 (some 2) (fb 17 131071) HT_ ?_
         refine done_ (done_of HT_.out (by kernel_rfl)) ?_
         try go_wp2
         go_ret
         exact ⟨by first | rfl | (simp [errW_none, errW_some] <;> rfl) | (simp [*, errW_none, errW_some] <;> rfl), bsw_⟩
     · rw [if_neg c15] at H
       have c15b0 : (a0_1 == 3) = false := beq_eq_false_iff_ne.mpr c15
       have c15b1 : (a0_1 != 3) = true := bne_iff_ne.mpr c15
       by_cases c39 : a0_1 = 1
       · rw [if_pos c39] at H
         have c39b0 : (a0_1 == 1) = true := beq_iff_eq.mpr c39
         have c39b1 : (a0_1 != 1) = false := bne_eq_false_iff_eq.mpr c39
         clear c39
         obtain rfl := Option.some.inj H
         obtain ⟨hcz40_0, hcz40_1, hcz40_2, hcz40_3, hcz40_4, hfz40_0, hfz40_1, hfz40_2, hfz40_3, hfz40_4⟩ := bz5_ BK139
         go_wp2
         go_ret
         exact ⟨by first | rfl | (simp [errW_none, errW_some] <;> rfl) | (simp [*, errW_none, errW_some] <;> rfl), bsw_⟩
       · rw [if_neg c39] at H
         have c39b0 : (a0_1 == 1) = false := beq_eq_false_iff_ne.mpr c39
         have c39b1 : (a0_1 != 1) = true := bne_iff_ne.mpr c39
         by_cases c41 : a0_1 = 2
         · rw [if_pos c41] at H
           have c41b0 : (a0_1 == 2) = true := beq_iff_eq.mpr c41
           have c41b1 : (a0_1 != 2) = false := bne_eq_false_iff_eq.mpr c41
           clear c41
           obtain rfl := Option.some.inj H
           obtain ⟨hcz42_0, hcz42_1, hcz42_2, hcz42_3, hcz42_4, hfz42_0, hfz42_1, hfz42_2, hfz42_3, hfz42_4⟩ := bz5_ BK139
           go_wp2
           go_ret
           exact ⟨by first | rfl | (simp [errW_none, errW_some] <;> rfl) | (simp [*, errW_none, errW_some] <;> rfl), bsw_⟩
         · rw [if_neg c41] at H
           have c41b0 : (a0_1 == 2) = false := beq_eq_false_iff_ne.mpr c41
           have c41b1 : (a0_1 != 2) = true := bne_iff_ne.mpr c41
           obtain rfl := Option.some.inj H
           obtain ⟨hcz43_0, hcz43_1, hcz43_2, hcz43_3, hcz43_4, hfz43_0, hfz43_1, hfz43_2, hfz43_3, hfz43_4⟩ := bz5_ BK139
           go_wp2
           go_ret
           exact ⟨by first | rfl | (simp [errW_none, errW_some] <;> rfl) | (simp [*, errW_none, errW_some] <;> rfl), bsw_⟩

end Go.Proofs.Ytjnkpocfmpbpoaa.F
