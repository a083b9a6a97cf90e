-- PRINTED by print.py (a twelfth state) out of the translation. Not trusted: Lean checks it.
import Derived.Test.YtjnkpocfmpbpoaaSdx0
import Derived.Test.YtjnkpocfmpbpoaaSdx1
import Derived.Test.YtjnkpocfmpbpoaaSdx9
import Derived.Test.YtjnkpocfmpbpoaaSdx10
namespace Go.Proofs.Ytjnkpocfmpbpoaa.Sd
open Go.Proofs.Ytjnkpocfmpbpoaa.Ho
open Go.RowKit Go.Proofs.YtjnkpocfmpbpoaaW.PrintWords Go.Proofs.YtjnkpocfmpbpoaaW.PrintLast Go.Proofs.YtjnkpocfmpbpoaaW.PrintMore
attribute [local go_sem] max2_int min2_int max_two min_two max_three min_three max_four min_four   -- for this text's walks alone
set_option linter.unusedVariables false
set_option linter.unusedSimpArgs false

attribute [local go_sem high] eqA62
/-! ### handshakerlaw15_SleepWatch: function 8 -/
mutual
def handshakerlaw15_SleepWatch.j0 : Nat → List (S57) → Int → Bool → Option (Bool)
 | 0, _, _, _ => none
 | k + 1, x0, x1, x20 => if x20 = true then ((handshakerlaw15_awake.f k).bind fun t313 => (some t313)) else (handshakerlaw15_SleepWatch.l0 k x0 x1 ([] : List (S57)) (x0.length : Int) 0)
def handshakerlaw15_SleepWatch.l0 : Nat → List (S57) → Int → List (S57) → Int → Int → Option (Bool)
 | 0, _, _, _, _, _ => none
 | k + 1, x0, x1, x5, x23, x24 => if x24 < x23 then (if (x0.length : Int) = 0 then (none) else (if 0 ≤ (Int.tmod (wrap64 ((wrap64 ((x0.length : Int) - x24)) + (wrap64 (x1)))) (x0.length : Int)) then (if (Int.tmod (wrap64 ((wrap64 ((x0.length : Int) - x24)) + (wrap64 (x1)))) (x0.length : Int)) < (x0.length : Int) then (if x5.length < 5864062014805 then (handshakerlaw15_SleepWatch.l0 k x0 x1 (x5 ++ [(⟨(rd_T57 x0 (Int.tmod (wrap64 ((wrap64 ((x0.length : Int) - x24)) + (wrap64 (x1)))) (x0.length : Int))).f0, (rd_T57 x0 (Int.tmod (wrap64 ((wrap64 ((x0.length : Int) - x24)) + (wrap64 (x1)))) (x0.length : Int))).f1, (rd_T57 x0 (Int.tmod (wrap64 ((wrap64 ((x0.length : Int) - x24)) + (wrap64 (x1)))) (x0.length : Int))).f2⟩ : S57)]) x23 (wrap64 (x24 + 1))) else (none)) else (none)) else (none))) else ((sleep_Watched.f k x0).bind fun t318 => (if (t318.length : Int) = 0 then ((reads_Right.f k x0).bind fun t321 => (if t321 = true then (some false) else ((handshakerlaw15_awake.f k).bind fun t322 => (some t322)))) else (handshakerlaw15_SleepWatch.l1 k x0 x5 t318 x0 (x0.length : Int) 0)))
def handshakerlaw15_SleepWatch.l1 : Nat → List (S57) → List (S57) → List (S62) → List (S57) → Int → Int → Option (Bool)
 | 0, _, _, _, _, _, _ => none
 | k + 1, x0, x5, x7, x55, x56, x57 => if x57 < x56 then (if 0 ≤ x57 then (if x57 < (x55.length : Int) then (handshakerlaw15_SleepWatch.l2 k x0 x5 x7 false x55 x56 x57 x7 (x7.length : Int) 0 ((rd_T57 x55 x57).f0) ((rd_T57 x55 x57).f1) ((rd_T57 x55 x57).f2)) else (none)) else (none)) else (if (x7.length : Int) = (x0.length : Int) then ((sleep_Watched.f k x5).bind fun t323 => ((handshakerref06_List.f k t323 x7).bind fun t326 => (if t326 = true then ((handshakerlaw15_awake.f k).bind fun t327 => (some t327)) else (some false)))) else (some false))
def handshakerlaw15_SleepWatch.l2 : Nat → List (S57) → List (S57) → List (S62) → Bool → List (S57) → Int → Int → List (S62) → Int → Int → Int → Int → Int → Option (Bool)
 | 0, _, _, _, _, _, _, _, _, _, _, _, _, _ => none
 | k + 1, x0, x5, x7, x10, x55, x56, x57, x61, x62, x63, x330000, x330001, x330002 => if x63 < x62 then (if 0 ≤ x63 then (if x63 < (x61.length : Int) then (if x10 = true then (handshakerlaw15_SleepWatch.l2 k x0 x5 x7 true x55 x56 x57 x61 x62 (wrap64 (x63 + 1)) x330000 x330001 x330002) else (handshakerlaw15_SleepWatch.l2 k x0 x5 x7 (((rd_T62 x61 x63).f0) == x330000 && (((rd_T62 x61 x63).f1) == x330002)) x55 x56 x57 x61 x62 (wrap64 (x63 + 1)) x330000 x330001 x330002)) else (none)) else (none)) else (if x10 = true then (handshakerlaw15_SleepWatch.l1 k x0 x5 x7 x55 x56 (wrap64 (x57 + 1))) else (some false))
end
def handshakerlaw15_SleepWatch.f (k : Nat) (l0 : List (S57)) (a1 : Int) : Option (Bool) := if (l0.length : Int) > 24 then (handshakerlaw15_SleepWatch.j0 k l0 a1 true) else (handshakerlaw15_SleepWatch.j0 k l0 a1 ((l0.length : Int) == 0))
theorem handshakerlaw15_SleepWatch.mono_l : ∀ k, (∀ y0 y1 y2, LeO (handshakerlaw15_SleepWatch.j0 k y0 y1 y2) (handshakerlaw15_SleepWatch.j0 (k + 1) y0 y1 y2)) ∧ (∀ y0 y1 y2 y3 y4, LeO (handshakerlaw15_SleepWatch.l0 k y0 y1 y2 y3 y4) (handshakerlaw15_SleepWatch.l0 (k + 1) y0 y1 y2 y3 y4)) ∧ (∀ y0 y1 y2 y3 y4 y5, LeO (handshakerlaw15_SleepWatch.l1 k y0 y1 y2 y3 y4 y5) (handshakerlaw15_SleepWatch.l1 (k + 1) y0 y1 y2 y3 y4 y5)) ∧ (∀ y0 y1 y2 y3 y4 y5 y6 y7 y8 y9 y10 y11 y12, LeO (handshakerlaw15_SleepWatch.l2 k y0 y1 y2 y3 y4 y5 y6 y7 y8 y9 y10 y11 y12) (handshakerlaw15_SleepWatch.l2 (k + 1) y0 y1 y2 y3 y4 y5 y6 y7 y8 y9 y10 y11 y12))
 | 0 => ⟨fun _ _ _ r h => by simp [handshakerlaw15_SleepWatch.j0] at h, fun _ _ _ _ _ r h => by simp [handshakerlaw15_SleepWatch.l0] at h, fun _ _ _ _ _ _ r h => by simp [handshakerlaw15_SleepWatch.l1] at h, fun _ _ _ _ _ _ _ _ _ _ _ _ _ r h => by simp [handshakerlaw15_SleepWatch.l2] at h⟩
 | k + 1 => by
  obtain ⟨ih0, ih1, ih2, ih3⟩ := handshakerlaw15_SleepWatch.mono_l k
  refine ⟨?_, ?_, ?_, ?_⟩
  · intro y0 y1 y2
    unfold handshakerlaw15_SleepWatch.j0
    repeat' first
    | (with_reducible exact ih0 _ _ _)
    | (with_reducible exact ih1 _ _ _ _ _)
    | (with_reducible exact ih2 _ _ _ _ _ _)
    | (with_reducible exact ih3 _ _ _ _ _ _ _ _ _ _ _ _ _)
    | (with_reducible exact handshakerlaw15_awake.mono _)
    | (with_reducible exact handshakerref06_List.mono _ _ _)
    | (with_reducible exact reads_Right.mono _ _)
    | (with_reducible exact sleep_Watched.mono _ _)
    | (with_reducible exact LeO.refl _)
    | (with_reducible exact LeO.none _)
    | (with_reducible refine LeO.ite ?_ ?_)
    | (with_reducible refine LeO.bind ?_ (fun _ => ?_))
    | exact ih0 _ _ _
    | exact ih1 _ _ _ _ _
    | exact ih2 _ _ _ _ _ _
    | exact ih3 _ _ _ _ _ _ _ _ _ _ _ _ _
    | exact handshakerlaw15_awake.mono _
    | exact handshakerref06_List.mono _ _ _
    | exact reads_Right.mono _ _
    | exact sleep_Watched.mono _ _
    | exact LeO.none _
    | refine LeO.ite ?_ ?_
    | refine LeO.bind ?_ (fun _ => ?_)
  · intro y0 y1 y2 y3 y4
    unfold handshakerlaw15_SleepWatch.l0
    repeat' first
    | (with_reducible exact ih0 _ _ _)
    | (with_reducible exact ih1 _ _ _ _ _)
    | (with_reducible exact ih2 _ _ _ _ _ _)
    | (with_reducible exact ih3 _ _ _ _ _ _ _ _ _ _ _ _ _)
    | (with_reducible exact handshakerlaw15_awake.mono _)
    | (with_reducible exact handshakerref06_List.mono _ _ _)
    | (with_reducible exact reads_Right.mono _ _)
    | (with_reducible exact sleep_Watched.mono _ _)
    | (with_reducible exact LeO.refl _)
    | (with_reducible exact LeO.none _)
    | (with_reducible refine LeO.ite ?_ ?_)
    | (with_reducible refine LeO.bind ?_ (fun _ => ?_))
    | exact ih0 _ _ _
    | exact ih1 _ _ _ _ _
    | exact ih2 _ _ _ _ _ _
    | exact ih3 _ _ _ _ _ _ _ _ _ _ _ _ _
    | exact handshakerlaw15_awake.mono _
    | exact handshakerref06_List.mono _ _ _
    | exact reads_Right.mono _ _
    | exact sleep_Watched.mono _ _
    | exact LeO.none _
    | refine LeO.ite ?_ ?_
    | refine LeO.bind ?_ (fun _ => ?_)
  · intro y0 y1 y2 y3 y4 y5
    unfold handshakerlaw15_SleepWatch.l1
    repeat' first
    | (with_reducible exact ih0 _ _ _)
    | (with_reducible exact ih1 _ _ _ _ _)
    | (with_reducible exact ih2 _ _ _ _ _ _)
    | (with_reducible exact ih3 _ _ _ _ _ _ _ _ _ _ _ _ _)
    | (with_reducible exact handshakerlaw15_awake.mono _)
    | (with_reducible exact handshakerref06_List.mono _ _ _)
    | (with_reducible exact reads_Right.mono _ _)
    | (with_reducible exact sleep_Watched.mono _ _)
    | (with_reducible exact LeO.refl _)
    | (with_reducible exact LeO.none _)
    | (with_reducible refine LeO.ite ?_ ?_)
    | (with_reducible refine LeO.bind ?_ (fun _ => ?_))
    | exact ih0 _ _ _
    | exact ih1 _ _ _ _ _
    | exact ih2 _ _ _ _ _ _
    | exact ih3 _ _ _ _ _ _ _ _ _ _ _ _ _
    | exact handshakerlaw15_awake.mono _
    | exact handshakerref06_List.mono _ _ _
    | exact reads_Right.mono _ _
    | exact sleep_Watched.mono _ _
    | exact LeO.none _
    | refine LeO.ite ?_ ?_
    | refine LeO.bind ?_ (fun _ => ?_)
  · intro y0 y1 y2 y3 y4 y5 y6 y7 y8 y9 y10 y11 y12
    unfold handshakerlaw15_SleepWatch.l2
    repeat' first
    | (with_reducible exact ih0 _ _ _)
    | (with_reducible exact ih1 _ _ _ _ _)
    | (with_reducible exact ih2 _ _ _ _ _ _)
    | (with_reducible exact ih3 _ _ _ _ _ _ _ _ _ _ _ _ _)
    | (with_reducible exact handshakerlaw15_awake.mono _)
    | (with_reducible exact handshakerref06_List.mono _ _ _)
    | (with_reducible exact reads_Right.mono _ _)
    | (with_reducible exact sleep_Watched.mono _ _)
    | (with_reducible exact LeO.refl _)
    | (with_reducible exact LeO.none _)
    | (with_reducible refine LeO.ite ?_ ?_)
    | (with_reducible refine LeO.bind ?_ (fun _ => ?_))
    | exact ih0 _ _ _
    | exact ih1 _ _ _ _ _
    | exact ih2 _ _ _ _ _ _
    | exact ih3 _ _ _ _ _ _ _ _ _ _ _ _ _
    | exact handshakerlaw15_awake.mono _
    | exact handshakerref06_List.mono _ _ _
    | exact reads_Right.mono _ _
    | exact sleep_Watched.mono _ _
    | exact LeO.none _
    | refine LeO.ite ?_ ?_
    | refine LeO.bind ?_ (fun _ => ?_)
theorem handshakerlaw15_SleepWatch.mono : ∀ a0 a1 k, LeO (handshakerlaw15_SleepWatch.f k a0 a1) (handshakerlaw15_SleepWatch.f (k + 1) a0 a1) := by
 intro a0 a1 k
 obtain ⟨ih0, ih1, ih2, ih3⟩ := handshakerlaw15_SleepWatch.mono_l k
 unfold handshakerlaw15_SleepWatch.f
 repeat' first
  | (with_reducible exact ih0 _ _ _)
  | (with_reducible exact ih1 _ _ _ _ _)
  | (with_reducible exact ih2 _ _ _ _ _ _)
  | (with_reducible exact ih3 _ _ _ _ _ _ _ _ _ _ _ _ _)
  | (with_reducible exact handshakerlaw15_awake.mono _)
  | (with_reducible exact handshakerref06_List.mono _ _ _)
  | (with_reducible exact reads_Right.mono _ _)
  | (with_reducible exact sleep_Watched.mono _ _)
  | (with_reducible exact LeO.refl _)
  | (with_reducible exact LeO.none _)
  | (with_reducible refine LeO.ite ?_ ?_)
  | (with_reducible refine LeO.bind ?_ (fun _ => ?_))
  | exact ih0 _ _ _
  | exact ih1 _ _ _ _ _
  | exact ih2 _ _ _ _ _ _
  | exact ih3 _ _ _ _ _ _ _ _ _ _ _ _ _
  | exact handshakerlaw15_awake.mono _
  | exact handshakerref06_List.mono _ _ _
  | exact reads_Right.mono _ _
  | exact sleep_Watched.mono _ _
  | exact LeO.none _
  | refine LeO.ite ?_ ?_
  | refine LeO.bind ?_ (fun _ => ?_)
set_option maxHeartbeats 8000000 in
set_option maxRecDepth 100000 in
theorem handshakerlaw15_SleepWatch.calls (k : Nat) (A0 : Option Addr) (c0 : Nat) (l0 : List (S57)) (a1 : Int) (r : Bool) (w : World) (HT : Aside0 (r = true)) (hr0 : Kd.C k57 w A0 l0.length l0) (hc0 : l0.length ≤ c0) (h : handshakerlaw15_SleepWatch.f k l0 a1 = some r) :
 Calls Try.prog 8 #[.slice A0 l0.length c0, .int .u8 a1] w fun e w' => e = .returned (.bool r) ∧ Below w.heap.size w w' := by
 have hu57 := Try.underlying57
 have hu62 := Try.underlying62
 have HR0 := Aside0.mk hr0
 have HC0 := Aside0.mk hc0
 clear hr0 hc0
 have HB := Aside0.mk (Below.refl w.heap.size w)
 have H : (if (l0.length : Int) > 24 then (handshakerlaw15_SleepWatch.j0 k l0 a1 true) else (handshakerlaw15_SleepWatch.j0 k l0 a1 ((l0.length : Int) == 0))) = some r := h
 clear h
 have HC3 := Aside0.mk H
 clear H
 go_enter Try.func8, Try.ntmps8
 go_upto_region 1 with (fail)
 go_cut [20] (fun v20 wc => ∃ (kq : Nat) (x20_2 : Bool), v20 = .bool x20_2 ∧ Aside0 (handshakerlaw15_SleepWatch.j0 kq l0 a1 x20_2 = some r) ∧ Aside0 (kq ≤ k) ∧ Aside0 (Below w.heap.size w wc))
 case first =>
  have H := HC3.out
  clear HC3
  by_cases c4 : (l0.length : Int) > 24
  · rw [if_pos c4] at H
    have c4b0 : decide (24 < (l0.length : Int)) = true := decide_eq_true c4
    have c4b1 : decide (24 < l0.length) = true := decide_eq_true (by omega)
    clear c4
    (first | rw [c4b0] | (simp only [i64_w, i32_w]; rw [c4b0]) | skip)
    have H' := Aside0.mk H
    clear H
    go_wp2
    go_meet
    case rel => exact ⟨_, (true), (by first | rfl | (simp; done) | (simp [*]; done)), H', ⟨by first | omega | exact Nat.le_refl _⟩, ⟨bsv_⟩⟩
  · rw [if_neg c4] at H
    have c4b0 : decide (24 < (l0.length : Int)) = false := decide_eq_false c4
    have c4b1 : decide (24 < l0.length) = false := decide_eq_false (by omega)
    clear c4
    (first | rw [c4b0] | (simp only [i64_w, i32_w]; rw [c4b0]) | skip)
    have H' := Aside0.mk H
    clear H
    go_wp2
    go_meet
    case rel => exact ⟨_, (((l0.length : Int) == 0)), (by first | rfl | (simp; done) | (simp [*]; done)), H', ⟨by first | omega | exact Nat.le_refl _⟩, ⟨bsv_⟩⟩
 case rest =>
  clear HC3
  try clear p2
  try clear c4
  try clear c4b0
  try clear c4b1
  obtain ⟨kq, x20_2, rfl, HA, HJ2, HB⟩ := hcut
  cases kq with
  | zero => exact absurd HA.out (by simp [handshakerlaw15_SleepWatch.j0])
  | succ kj2 =>
   have H := HA.out
   clear HA
   simp only [handshakerlaw15_SleepWatch.j0] at H
   by_cases c5 : x20_2 = true
   · subst c5
     rw [if_pos rfl] at H
     replace H := Option.bind_eq_some_iff.mp H
     obtain ⟨t313, A60, H⟩ := H
     have A6 := Aside0.mk A60
     clear A60
     obtain rfl := Option.some.inj H
     go_wp2_with (first | ((with_reducible refine gate_callee (f := 15) rfl ?_); refine goesL_ (some 21) rfl rfl Try.func15 (by kernel_rfl) rfl #[] rfl mp_ ?_; (with_reducible refine (handshakerlaw15_awake.calls kj2  t313 _ A6.out).mono ?_); rintro e w7 ⟨rfl, hb⟩; refine ⟨_, rfl, ?_⟩; replace HB := Aside0.mk (bst_ hb); (try clear hb); (try clear hb2); (try clear hk); (try clear hi)))
     go_ret
     exact ⟨by first | rfl | (simp [errW_none, errW_some] <;> rfl) | (simp [*, errW_none, errW_some] <;> rfl), bsv_⟩
   · replace c5 := Bool.eq_false_iff.mpr c5
     subst c5
     rw [if_neg (show ¬ (false = true) by decide)] at H
     have H' := Aside0.mk H
     clear H
     go_wp2
     go_loopg [5, 24] kj2 (fun kq v5 v24 w' => ∃ (x5_2 : List (S57)) (x24_2 : Int), v24 = .int .i64 x24_2 ∧ Aside0 (handshakerlaw15_SleepWatch.l0 kq l0 a1 x5_2 (l0.length : Int) x24_2 = some r) ∧ Aside0 (kq ≤ kj2) ∧ Aside0 (Kd.R k57 57 w' w.heap.size (fun _ => True) v5 x5_2) ∧ Aside0 (Below w.heap.size w w'))
     case atStart => exact ⟨(([] : List (S57))), (0), (by first | rfl | (simp; done) | (simp [*]; done)), H', ⟨Nat.le_refl _⟩, ⟨by first | exact Kd.R_nil _ _ _ _ _ | exact Kd.N_nil _ _ _ _ _ | exact Kd.V_nil _ _ _ _ _ | exact Kd.Q_nil _ _ _ _ _ | exact Kd.S_nil _ _ _ _ _⟩, ⟨bsv_⟩⟩
     case round =>
      clear H'
      try clear c1
      try clear p2
      try clear c4
      try clear c4b0
      try clear c4b1
      try clear c5
      try clear p2
      obtain ⟨x5_2, x24_2, rfl, HA, HK2, HO_5, HB⟩ := hrel
      cases gk with
      | zero => exact absurd HA.out (by simp [handshakerlaw15_SleepWatch.l0])
      | succ k2 =>
       have H := HA.out
       clear HA
       simp only [handshakerlaw15_SleepWatch.l0] at H
       by_cases c8 : x24_2 < (l0.length : Int)
       · rw [if_pos c8] at H
         have c8b0 : decide (x24_2 < (l0.length : Int)) = true := decide_eq_true c8
         clear c8
         by_cases c9 : (l0.length : Int) = 0
         · rw [if_pos c9] at H
           exact absurd H (by simp)
         · rw [if_neg c9] at H
           have c9b0 : ((l0.length : Int) == 0) = false := beq_eq_false_iff_ne.mpr c9
           have c9b1 : ((l0.length : Int) != 0) = true := bne_iff_ne.mpr c9
           have c9b2 : ¬ (l0 = []) := fun h_ => c9 (by rw [h_]; rfl)
           obtain ⟨ji10, hji10⟩ : ∃ j_ : Int, (Int.tmod (wrap64 ((wrap64 ((l0.length : Int) - x24_2)) + (wrap64 (a1)))) (l0.length : Int)) = j_ := ⟨_, rfl⟩
           replace H : (if 0 ≤ (ji10) then (if (ji10) < (l0.length : Int) then (if x5_2.length < 5864062014805 then (handshakerlaw15_SleepWatch.l0 k2 l0 a1 (x5_2 ++ [(⟨(rd_T57 l0 (ji10)).f0, (rd_T57 l0 (ji10)).f1, (rd_T57 l0 (ji10)).f2⟩ : S57)]) (l0.length : Int) (wrap64 (x24_2 + 1))) else (none)) else (none)) else (none)) = some r := by first | (rw [hji10] at H; exact H) | (simp only [hji10] at H ⊢; exact H)
           by_cases c11 : 0 ≤ (ji10)
           · rw [if_pos c11] at H
             have c11b0 : decide (0 ≤ (ji10)) = true := decide_eq_true c11
             clear c11
             by_cases c12 : (ji10) < (l0.length : Int)
             · rw [if_pos c12] at H
               have c12b0 : decide ((ji10) < (l0.length : Int)) = true := decide_eq_true c12
               clear c12
               by_cases c13 : x5_2.length < 5864062014805
               · rw [if_pos c13] at H
                 have LMc13 := Aside0.mk c13
                 clear c13
                 obtain ⟨y315, hy315⟩ : ∃ y_ : List (S57), y_ = (x5_2 ++ [(⟨(rd_T57 l0 (ji10)).f0, (rd_T57 l0 (ji10)).f1, (rd_T57 l0 (ji10)).f2⟩ : S57)]) := ⟨_, rfl⟩
                 replace H : (handshakerlaw15_SleepWatch.l0 k2 l0 a1 y315 (l0.length : Int) (wrap64 (x24_2 + 1))) = some r := by first | (rw [hy315]; with_reducible exact H) | (have H2_ := (Option.bind_some _ _).symm.trans H; rw [hy315]; with_reducible exact H2_) | (have H2_ := (Option.bind_some _ _).symm.trans H; with_reducible exact H2_) | with_reducible exact H | (rw [hy315]; exact H) | exact H
                 have Ny315 := Aside0.mk hy315
                 clear hy315
                 have H' := Aside0.mk H
                 clear H
                 have p314 : 0 ≤ ((ji10) : Int) := oda_
                 have q314 : (ji10) < (l0.length : Int) := oda_
                 obtain ⟨ad314, e314, hx314_0, hx314_1, hx314_2⟩ := at_T57 HR0.out (ji10) p314 q314
                 cases e314
                 replace hx314_0 := (HB.out.cell (World.block_lt_of_cell? w _ hx314_0)).trans hx314_0
                 replace hx314_1 := (HB.out.cell (World.block_lt_of_cell? w _ hx314_1)).trans hx314_1
                 replace hx314_2 := (HB.out.cell (World.block_lt_of_cell? w _ hx314_2)).trans hx314_2
                 replace p314 := eq_true p314
                 replace q314 := eq_true q314
                 go_wp2_with (first | ((with_reducible refine gate_builtin (b := .append) (xs := #[.tmp 27, .tmp 41]) rfl ?_); (try (refine gate_guard (by rfl) ?_; dsimp only)); at_builtin; refine Kd.R_append k57 (w0 := w) w.heap.size rfl (.tmp 27) (.tmp 41) 54 57 (.agg #[(.int .i64 0), (.int .i64 0), (.int .i64 0)]) 24 rfl Try.underlying54 info57 rfl (by decide) (by omega) u5 x5_2 (⟨(rd_T57 l0 (ji10)).f0, (rd_T57 l0 (ji10)).f1, (rd_T57 l0 (ji10)).f2⟩ : S57) [.int .i64 ((rd_T57 l0 (ji10)).f0), .int .i64 ((rd_T57 l0 (ji10)).f1), .int .i64 ((rd_T57 l0 (ji10)).f2)] (fun _ => True) (fun _ => False) rfl rfl ?aP (fun _ hk => hk.elim) ?aF ?aO ?aB ?aS ?aL ?_; (case aP => exact k57_mkM _ _ _ (⟨(rd_T57 l0 (ji10)).f0, (rd_T57 l0 (ji10)).f1, (rd_T57 l0 (ji10)).f2⟩ : S57)); (case aB => exact bsv_); (case aF => exact (fun _ _ => trivial)); (case aO => exact (rq_ HO_5)); (case aS => exact bsz_); (case aL => have := LMc13.out; omega); intro v316 w14 ho hb hg hat; rw [← Ny315.out] at ho; replace HB := Aside0.mk (hb); replace HO317 := Aside0.mk (ho); clear HO_5; clear ho hb hg hat))
                 go_roundg k2
                 case measure => have := HJ2.out; have := HK2.out; omega
                 case rel => exact ⟨(y315), (wrap64 (x24_2 + 1)), (by first | rfl | (simp; done) | (simp [*]; done)), H', ⟨by have := HJ2.out; have := HK2.out; omega⟩, ⟨rq_ HO317⟩, ⟨bsv_⟩⟩
               · rw [if_neg c13] at H
                 exact absurd H (by simp)
             · rw [if_neg c12] at H
               exact absurd H (by simp)
           · rw [if_neg c11] at H
             exact absurd H (by simp)
       · rw [if_neg c8] at H
         have c8b0 : decide (x24_2 < (l0.length : Int)) = false := decide_eq_false c8
         clear c8
         replace H := Option.bind_eq_some_iff.mp H
         obtain ⟨t318, A150, H⟩ := H
         have A15 := Aside0.mk A150
         clear A150
         by_cases c16 : (t318.length : Int) = 0
         · rw [if_pos c16] at H
           have c16b0 : ((t318.length : Int) == 0) = true := beq_iff_eq.mpr c16
           have c16b1 : ((t318.length : Int) != 0) = false := bne_eq_false_iff_eq.mpr c16
           clear c16
           replace H := Option.bind_eq_some_iff.mp H
           obtain ⟨t321, A170, H⟩ := H
           have A17 := Aside0.mk A170
           clear A170
           by_cases c18 : t321 = true
           · subst c18
             rw [if_pos rfl] at H
             exact absurd (Option.some.inj H) (by rw [HT.out]; decide)
           · replace c18 := Bool.eq_false_iff.mpr c18
             subst c18
             rw [if_neg (show ¬ (false = true) by decide)] at H
             replace H := Option.bind_eq_some_iff.mp H
             obtain ⟨t322, A190, H⟩ := H
             have A19 := Aside0.mk A190
             clear A190
             obtain rfl := Option.some.inj H
             go_wp2_with (first | ((with_reducible refine gate_callee (f := 31) rfl ?_); refine goesL_ (some 45) rfl rfl Try.func31 (by kernel_rfl) rfl #[.slice A0 l0.length c0] rfl mp_ ?_; (with_reducible refine (sleep_Watched.calls k2 _ _ l0 t318 _ ?side1 ?side2 A15.out).mono ?_); (case side1 => repeat (first | exact (Kd.C_below HR0.out HB.out) | with_reducible first | refine Kd.C_alloc ?_ _ | refine Kd.C_drewN ?_ _ | refine Kd.C_drew ?_)); (case side2 => exact HC0.out); rintro e w20 ⟨v319, rfl, ho0, hb⟩; refine ⟨_, rfl, ?_⟩; replace HO_5 := rb_ HO_5 hb; replace HO320 := Aside0.mk (Kd.R_lower ho0 bsz_); replace HB := Aside0.mk (bst_ hb); (try clear hb); (try clear hb2); (try clear hk); (try clear hi); (try clear ho0); obtain ⟨Ao21, co21, eo21⟩ := Kd.R_slice HO320.out; subst eo21) | ((with_reducible refine gate_callee (f := 34) rfl ?_); refine goesL_ (some 50) rfl rfl Try.func34 (by kernel_rfl) rfl #[.slice A0 l0.length c0] rfl mp_ ?_; (with_reducible refine (reads_Right.calls k2 _ _ l0 false _ ?side1 ?side2 A17.out).mono ?_); (case side1 => repeat (first | exact (Kd.C_below HR0.out HB.out) | with_reducible first | refine Kd.C_alloc ?_ _ | refine Kd.C_drewN ?_ _ | refine Kd.C_drew ?_)); (case side2 => exact HC0.out); rintro e w22 ⟨rfl, hb⟩; refine ⟨_, rfl, ?_⟩; replace HO_5 := rb_ HO_5 hb; replace HO320 := rb_ HO320 hb; replace HB := Aside0.mk (bst_ hb); (try clear hb); (try clear hb2); (try clear hk); (try clear hi)) | (go_at_call 15; (with_reducible refine (handshakerlaw15_awake.calls k2  t322 _ A19.out).mono ?_); rintro e w23 ⟨rfl, hb⟩; replace HO_5 := rb_ HO_5 hb; replace HO320 := rb_ HO320 hb; replace HB := Aside0.mk (bst_ hb); (try clear hb); (try clear hb2); (try clear hk); (try clear hi)))
             go_ret
             exact ⟨by first | rfl | (simp [errW_none, errW_some] <;> rfl) | (simp [*, errW_none, errW_some] <;> rfl), bsv_⟩
         · rw [if_neg c16] at H
           have c16b0 : ((t318.length : Int) == 0) = false := beq_eq_false_iff_ne.mpr c16
           have c16b1 : ((t318.length : Int) != 0) = true := bne_iff_ne.mpr c16
           have c16b2 : ¬ (t318 = []) := fun h_ => c16 (by rw [h_]; rfl)
           have H' := Aside0.mk H
           clear H
           go_wp2_with (first | ((with_reducible refine gate_callee (f := 31) rfl ?_); refine goesL_ (some 45) rfl rfl Try.func31 (by kernel_rfl) rfl #[.slice A0 l0.length c0] rfl mp_ ?_; (with_reducible refine (sleep_Watched.calls k2 _ _ l0 t318 _ ?side1 ?side2 A15.out).mono ?_); (case side1 => repeat (first | exact (Kd.C_below HR0.out HB.out) | with_reducible first | refine Kd.C_alloc ?_ _ | refine Kd.C_drewN ?_ _ | refine Kd.C_drew ?_)); (case side2 => exact HC0.out); rintro e w24 ⟨v319, rfl, ho0, hb⟩; refine ⟨_, rfl, ?_⟩; replace HO_5 := rb_ HO_5 hb; replace HO320 := Aside0.mk (Kd.R_lower ho0 bsz_); replace HB := Aside0.mk (bst_ hb); (try clear hb); (try clear hb2); (try clear hk); (try clear hi); (try clear ho0); obtain ⟨Ao25, co25, eo25⟩ := Kd.R_slice HO320.out; subst eo25))
           go_loopg [57] k2 (fun kq v57 w' => ∃ (x57_3 : Int), v57 = .int .i64 x57_3 ∧ Aside0 (handshakerlaw15_SleepWatch.l1 kq l0 x5_2 t318 l0 (l0.length : Int) x57_3 = some r) ∧ Aside0 (kq ≤ k2) ∧ Aside0 (Kd.R k57 57 w' w.heap.size (fun _ => True) u5 x5_2) ∧ Aside0 (Kd.R k62 62 w' w.heap.size (fun _ => True) (.slice Ao25 t318.length co25) t318) ∧ Aside0 (Below w.heap.size w w'))
           case atStart => exact ⟨(0), (by first | rfl | (simp; done) | (simp [*]; done)), H', ⟨Nat.le_refl _⟩, ⟨rq_ HO_5⟩, ⟨rq_ HO320⟩, ⟨bsv_⟩⟩
           case round =>
            clear H'
            try clear c1
            try clear p2
            try clear c3
            try clear p3
            try clear q3
            try clear hx3
            try clear c4
            try clear c4b0
            try clear c4b1
            try clear c5
            try clear p6
            try clear c8
            try clear c8b0
            try clear c9
            try clear c9b0
            try clear c9b1
            try clear c9b2
            try clear c11
            try clear c11b0
            try clear c12
            try clear c12b0
            try clear c13
            try clear c15
            try clear c16
            try clear c16b0
            try clear c16b1
            try clear c16b2
            try clear c18
            try clear hx314_0
            try clear hx314_1
            try clear hx314_2
            try clear p2
            try clear p314
            try clear q314
            obtain ⟨x57_3, rfl, HA, HK3, HO_5, HO_7, HB⟩ := hrel
            cases gk with
            | zero => exact absurd HA.out (by simp [handshakerlaw15_SleepWatch.l1])
            | succ k3 =>
             have H := HA.out
             clear HA
             simp only [handshakerlaw15_SleepWatch.l1] at H
             by_cases c26 : x57_3 < (l0.length : Int)
             · rw [if_pos c26] at H
               have c26b0 : decide (x57_3 < (l0.length : Int)) = true := decide_eq_true c26
               clear c26
               by_cases c27 : 0 ≤ x57_3
               · rw [if_pos c27] at H
                 have c27b0 : decide (0 ≤ x57_3) = true := decide_eq_true c27
                 clear c27
                 by_cases c28 : x57_3 < (l0.length : Int)
                 · rw [if_pos c28] at H
                   have c28b0 : decide (x57_3 < (l0.length : Int)) = true := decide_eq_true c28
                   clear c28
                   have H' := Aside0.mk H
                   clear H
                   have p328 : 0 ≤ (x57_3 : Int) := oda_
                   have q328 : x57_3 < (l0.length : Int) := oda_
                   obtain ⟨ad328, e328, hx328_0, hx328_1, hx328_2⟩ := at_T57 HR0.out x57_3 p328 q328
                   cases e328
                   replace hx328_0 := (HB.out.cell (World.block_lt_of_cell? w _ hx328_0)).trans hx328_0
                   replace hx328_1 := (HB.out.cell (World.block_lt_of_cell? w _ hx328_1)).trans hx328_1
                   replace hx328_2 := (HB.out.cell (World.block_lt_of_cell? w _ hx328_2)).trans hx328_2
                   replace p328 := eq_true p328
                   replace q328 := eq_true q328
                   go_wp2_with (first | ((with_reducible refine gate_dst (N := 9) rfl ?_); (try (refine gate_guard (by rfl) ?_; dsimp only)); refine box_event ?hg (N := 9) ?hd (cs := #[.int .i64 0, .int .i64 0, .int .i64 0]) (t := 57) ?hr ?_; (case hd => rfl); (case hg => rfl); (case hr => first | (go_simp; done) | (go_simp; rfl)); intro gb329 hg w29 hbox hb; replace HO_5 := Aside0.mk (Kd.R_below (Kd.R_elderB (rq_ HO_5) gb329 (Nat.le_of_eq hg.symm)) hb); replace HO_7 := rb_ HO_7 hb; replace BK329 := Aside0.mk (hbox); replace GW329 := Aside0.mk ((by rw [hg]; exact bsz_ : w.heap.size ≤ gb329)); replace HB := Aside0.mk (bst_ hb); replace GE329 := GW329; clear hb hbox hg; have hcz30_0 : w29.cell? ⟨gb329, 0, none⟩ = some (.int .i64 0) := (blk_cell BK329.out 0).trans rfl; have hcz30_1 : w29.cell? ⟨gb329, 1, none⟩ = some (.int .i64 0) := (blk_cell BK329.out 1).trans rfl; have hcz30_2 : w29.cell? ⟨gb329, 2, none⟩ = some (.int .i64 0) := (blk_cell BK329.out 2).trans rfl; have hfz30_0 := blk_frozen BK329.out 0; have hfz30_1 := blk_frozen BK329.out 1; have hfz30_2 := blk_frozen BK329.out 2))
                   go_loopg [10, 63] k3 (fun kq v10 v63 w' => ∃ (x10_4 : Bool) (x63_4 : Int), v10 = .bool x10_4 ∧ v63 = .int .i64 x63_4 ∧ Aside0 (handshakerlaw15_SleepWatch.l2 kq l0 x5_2 t318 x10_4 l0 (l0.length : Int) x57_3 t318 (t318.length : Int) x63_4 ((rd_T57 l0 x57_3).f0) ((rd_T57 l0 x57_3).f1) ((rd_T57 l0 x57_3).f2) = some r) ∧ Aside0 (kq ≤ k3) ∧ Aside0 (Kd.R k57 57 w' w.heap.size (fun k_ => k_ ≠ gb329) u5 x5_2) ∧ Aside0 (Kd.R k62 62 w' w.heap.size (fun _ => True) (.slice Ao25 t318.length co25) t318) ∧ Aside0 (Kd.R k62 62 w' w.heap.size (fun _ => True) (.slice Ao25 t318.length co25) t318) ∧ Aside0 (w'.heap[gb329]? = some (.cells #[.int .i64 ((rd_T57 l0 x57_3).f0), .int .i64 ((rd_T57 l0 x57_3).f1), .int .i64 ((rd_T57 l0 x57_3).f2)] 57 (0, 0))) ∧ Aside0 (Below w.heap.size w w'))
                   case atStart => exact ⟨(false), (0), (by first | rfl | (simp; done) | (simp [*]; done)), (by first | rfl | (simp; done) | (simp [*]; done)), H', ⟨Nat.le_refl _⟩, ⟨by (with_reducible repeat (first | apply Kd.R_alloc | apply Kd.R_drewN | apply Kd.R_drew)); exact Kd.R_mono (Kd.R_far (p := ⟨gb329, 2, none⟩) (Kd.R_far (p := ⟨gb329, 1, none⟩) (Kd.R_far (p := ⟨gb329, 0, none⟩) (Kd.R_mono HO_5.out (fun k_ hk => (⟨hk, hk.2⟩ : _ ∧ k_ ≠ gb329))) (fun _ hk => hk.2) (.int .i64 ((rd_T57 l0 x57_3).f0))) (fun _ hk => hk.2) (.int .i64 ((rd_T57 l0 x57_3).f1))) (fun _ hk => hk.2) (.int .i64 ((rd_T57 l0 x57_3).f2))) (fun _ hk => hk.1.2)⟩, ⟨by (with_reducible repeat (first | apply Kd.R_alloc | apply Kd.R_drewN | apply Kd.R_drew)); exact Kd.R_mono (Kd.R_far (p := ⟨gb329, 2, none⟩) (Kd.R_far (p := ⟨gb329, 1, none⟩) (Kd.R_far (p := ⟨gb329, 0, none⟩) (Kd.R_types HO_7.out BK329.out (by decide)) (fun _ hk => hk.2) (.int .i64 ((rd_T57 l0 x57_3).f0))) (fun _ hk => hk.2) (.int .i64 ((rd_T57 l0 x57_3).f1))) (fun _ hk => hk.2) (.int .i64 ((rd_T57 l0 x57_3).f2))) (fun _ hk => trivial)⟩, ⟨by (with_reducible repeat (first | apply Kd.R_alloc | apply Kd.R_drewN | apply Kd.R_drew)); exact Kd.R_mono (Kd.R_far (p := ⟨gb329, 2, none⟩) (Kd.R_far (p := ⟨gb329, 1, none⟩) (Kd.R_far (p := ⟨gb329, 0, none⟩) (Kd.R_types HO_7.out BK329.out (by decide)) (fun _ hk => hk.2) (.int .i64 ((rd_T57 l0 x57_3).f0))) (fun _ hk => hk.2) (.int .i64 ((rd_T57 l0 x57_3).f1))) (fun _ hk => hk.2) (.int .i64 ((rd_T57 l0 x57_3).f2))) (fun _ hk => trivial)⟩, ⟨by (with_reducible repeat (first | refine blk_drewN ?_ _ | refine blk_drew ?_ | refine blk_alloc ?_ _)); refine blk_put (cs := #[.int .i64 ((rd_T57 l0 x57_3).f0), .int .i64 ((rd_T57 l0 x57_3).f1), .int .i64 0]) ?_ 2 _ rfl; (with_reducible repeat (first | refine blk_drewN ?_ _ | refine blk_drew ?_ | refine blk_alloc ?_ _)); refine blk_put (cs := #[.int .i64 ((rd_T57 l0 x57_3).f0), .int .i64 0, .int .i64 0]) ?_ 1 _ rfl; (with_reducible repeat (first | refine blk_drewN ?_ _ | refine blk_drew ?_ | refine blk_alloc ?_ _)); refine blk_put (cs := #[.int .i64 0, .int .i64 0, .int .i64 0]) ?_ 0 _ rfl; (with_reducible repeat (first | refine blk_drewN ?_ _ | refine blk_drew ?_ | refine blk_alloc ?_ _)); exact BK329.out⟩, ⟨bsw_⟩⟩
                   case round =>
                    clear H'
                    try clear c1
                    try clear c2
                    try clear p2
                    try clear c3
                    try clear p3
                    try clear q3
                    try clear hx3
                    try clear c4
                    try clear c4b0
                    try clear c4b1
                    try clear c5
                    try clear p6
                    try clear c8
                    try clear c8b0
                    try clear c9
                    try clear c9b0
                    try clear c9b1
                    try clear c9b2
                    try clear c11
                    try clear c11b0
                    try clear c12
                    try clear c12b0
                    try clear c13
                    try clear c15
                    try clear c16
                    try clear c16b0
                    try clear c16b1
                    try clear c16b2
                    try clear c18
                    try clear c26
                    try clear c26b0
                    try clear c27
                    try clear c27b0
                    try clear c28
                    try clear c28b0
                    try clear hcz30_0
                    try clear hcz30_1
                    try clear hcz30_2
                    try clear hfz30_0
                    try clear hfz30_1
                    try clear hfz30_2
                    try clear hx314_0
                    try clear hx314_1
                    try clear hx314_2
                    try clear hx328_0
                    try clear hx328_1
                    try clear hx328_2
                    try clear p2
                    try clear p3
                    try clear p314
                    try clear p328
                    try clear p6
                    try clear q3
                    try clear q314
                    try clear q328
                    obtain ⟨x10_4, x63_4, rfl, rfl, HA, HK4, HO_5, HO_7, HO_61, BK329, HB⟩ := hrel
                    cases gk with
                    | zero => exact absurd HA.out (by simp [handshakerlaw15_SleepWatch.l2])
                    | succ k4 =>
                     have H := HA.out
                     clear HA
                     simp only [handshakerlaw15_SleepWatch.l2] at H
                     by_cases c31 : x63_4 < (t318.length : Int)
                     · rw [if_pos c31] at H
                       have c31b0 : decide (x63_4 < (t318.length : Int)) = true := decide_eq_true c31
                       clear c31
                       by_cases c32 : 0 ≤ x63_4
                       · rw [if_pos c32] at H
                         have c32b0 : decide (0 ≤ x63_4) = true := decide_eq_true c32
                         clear c32
                         by_cases c33 : x63_4 < (t318.length : Int)
                         · rw [if_pos c33] at H
                           have c33b0 : decide (x63_4 < (t318.length : Int)) = true := decide_eq_true c33
                           clear c33
                           by_cases c34 : x10_4 = true
                           · subst c34
                             rw [if_pos rfl] at H
                             have H' := Aside0.mk H
                             clear H
                             have p330 : 0 ≤ (x63_4 : Int) := oda_
                             have q330 : x63_4 < (t318.length : Int) := oda_
                             obtain ⟨ad330, e330, hx330_0, hx330_1⟩ := at_T62 (Kd.R_reads' HO_61.out).2.2 x63_4 p330 q330
                             cases e330
                             replace p330 := eq_true p330
                             replace q330 := eq_true q330
                             go_wp2_with (first | ((with_reducible refine gate_dst (N := 12) rfl ?_); (try (refine gate_guard (by rfl) ?_; dsimp only)); refine box_event ?hg (N := 12) ?hd (cs := #[.int .i64 0, .int .i64 0]) (t := 62) ?hr ?_; (case hd => rfl); (case hg => rfl); (case hr => first | (go_simp; done) | (go_simp; rfl)); intro gb331 hg w35 hbox hb; replace HO_5 := rb_ HO_5 hb; replace HO_7 := Aside0.mk (Kd.R_below (Kd.R_elderB (rq_ HO_7) gb331 (Nat.le_of_eq hg.symm)) hb); replace HO_61 := Aside0.mk (Kd.R_below (Kd.R_elderB (rq_ HO_61) gb331 (Nat.le_of_eq hg.symm)) hb); replace BK331 := Aside0.mk (hbox); replace GW331 := Aside0.mk ((by rw [hg]; exact (below_size bsw_) : w.heap.size ≤ gb331)); replace HB := Aside0.mk (below_step bsw_ hb); replace GE331 := GW331; replace NB329_331 := Aside0.mk ((by rw [hg]; exact Nat.ne_of_lt (blk_lt (g := gb329) (o := .cells #[.int .i64 ((rd_T57 l0 x57_3).f0), .int .i64 ((rd_T57 l0 x57_3).f1), .int .i64 ((rd_T57 l0 x57_3).f2)] 57 (0, 0)) (bq_ BK329)) : gb329 ≠ gb331)); replace NB331_329 := Aside0.mk ((by rw [hg]; exact Nat.ne_of_gt (blk_lt (g := gb329) (o := .cells #[.int .i64 ((rd_T57 l0 x57_3).f0), .int .i64 ((rd_T57 l0 x57_3).f1), .int .i64 ((rd_T57 l0 x57_3).f2)] 57 (0, 0)) (bq_ BK329)) : gb331 ≠ gb329)); replace BK329 := bb_ BK329 hb; clear hb hbox hg; have hnb36 := NB331_329.out; have hnc36 := NB329_331.out; have hcz37_0 : w35.cell? ⟨gb331, 0, none⟩ = some (.int .i64 0) := (blk_cell BK331.out 0).trans rfl; have hcz37_1 : w35.cell? ⟨gb331, 1, none⟩ = some (.int .i64 0) := (blk_cell BK331.out 1).trans rfl; have hfz37_0 := blk_frozen BK331.out 0; have hfz37_1 := blk_frozen BK331.out 1))
                             go_roundg k4
                             case measure => have := HJ2.out; have := HK2.out; have := HK3.out; have := HK4.out; omega
                             case rel => exact ⟨(true), (wrap64 (x63_4 + 1)), (by first | rfl | (simp; done) | (simp [*]; done)), (by first | rfl | (simp; done) | (simp [*]; done)), H', ⟨by have := HJ2.out; have := HK2.out; have := HK3.out; have := HK4.out; omega⟩, ⟨by (with_reducible repeat (first | apply Kd.R_alloc | apply Kd.R_drewN | apply Kd.R_drew)); exact Kd.R_mono (Kd.R_far (p := ⟨gb331, 1, none⟩) (Kd.R_far (p := ⟨gb331, 0, none⟩) (Kd.R_types HO_5.out BK331.out (by decide)) (fun _ hk => hk.2) (.int .i64 ((rd_T62 t318 x63_4).f0))) (fun _ hk => hk.2) (.int .i64 ((rd_T62 t318 x63_4).f1))) (fun _ hk => hk.1)⟩, ⟨by (with_reducible repeat (first | apply Kd.R_alloc | apply Kd.R_drewN | apply Kd.R_drew)); exact Kd.R_mono (Kd.R_far (p := ⟨gb331, 1, none⟩) (Kd.R_far (p := ⟨gb331, 0, none⟩) (Kd.R_mono HO_7.out (fun k_ hk => (⟨hk, hk.2⟩ : _ ∧ k_ ≠ gb331))) (fun _ hk => hk.2) (.int .i64 ((rd_T62 t318 x63_4).f0))) (fun _ hk => hk.2) (.int .i64 ((rd_T62 t318 x63_4).f1))) (fun _ hk => trivial)⟩, ⟨by (with_reducible repeat (first | apply Kd.R_alloc | apply Kd.R_drewN | apply Kd.R_drew)); exact Kd.R_mono (Kd.R_far (p := ⟨gb331, 1, none⟩) (Kd.R_far (p := ⟨gb331, 0, none⟩) (Kd.R_mono HO_61.out (fun k_ hk => (⟨hk, hk.2⟩ : _ ∧ k_ ≠ gb331))) (fun _ hk => hk.2) (.int .i64 ((rd_T62 t318 x63_4).f0))) (fun _ hk => hk.2) (.int .i64 ((rd_T62 t318 x63_4).f1))) (fun _ hk => trivial)⟩, ⟨by (with_reducible repeat (first | refine blk_drewN ?_ _ | refine blk_drew ?_ | refine blk_alloc ?_ _)); refine blk_far ?_ NB329_331.out _; (with_reducible repeat (first | refine blk_drewN ?_ _ | refine blk_drew ?_ | refine blk_alloc ?_ _)); refine blk_far ?_ NB329_331.out _; (with_reducible repeat (first | refine blk_drewN ?_ _ | refine blk_drew ?_ | refine blk_alloc ?_ _)); exact BK329.out⟩, ⟨by repeat (first | (with_reducible first | exact HB.out | apply below_alloc | apply pw_below_drewN | apply below_drew1 | refine below_set ?_ GE329.out | refine below_set ?_ GE331.out) | exact HB.out)⟩⟩
                           · replace c34 := Bool.eq_false_iff.mpr c34
                             subst c34
                             rw [if_neg (show ¬ (false = true) by decide)] at H
                             have H' := Aside0.mk H
                             clear H
                             have p330 : 0 ≤ (x63_4 : Int) := oda_
                             have q330 : x63_4 < (t318.length : Int) := oda_
                             obtain ⟨ad330, e330, hx330_0, hx330_1⟩ := at_T62 (Kd.R_reads' HO_61.out).2.2 x63_4 p330 q330
                             cases e330
                             replace p330 := eq_true p330
                             replace q330 := eq_true q330
                             go_wp2_with (first | ((with_reducible refine gate_dst (N := 12) rfl ?_); (try (refine gate_guard (by rfl) ?_; dsimp only)); refine box_event ?hg (N := 12) ?hd (cs := #[.int .i64 0, .int .i64 0]) (t := 62) ?hr ?_; (case hd => rfl); (case hg => rfl); (case hr => first | (go_simp; done) | (go_simp; rfl)); intro gb331 hg w38 hbox hb; replace HO_5 := rb_ HO_5 hb; replace HO_7 := Aside0.mk (Kd.R_below (Kd.R_elderB (rq_ HO_7) gb331 (Nat.le_of_eq hg.symm)) hb); replace HO_61 := Aside0.mk (Kd.R_below (Kd.R_elderB (rq_ HO_61) gb331 (Nat.le_of_eq hg.symm)) hb); replace BK331 := Aside0.mk (hbox); replace GW331 := Aside0.mk ((by rw [hg]; exact (below_size bsw_) : w.heap.size ≤ gb331)); replace HB := Aside0.mk (below_step bsw_ hb); replace GE331 := GW331; replace NB329_331 := Aside0.mk ((by rw [hg]; exact Nat.ne_of_lt (blk_lt (g := gb329) (o := .cells #[.int .i64 ((rd_T57 l0 x57_3).f0), .int .i64 ((rd_T57 l0 x57_3).f1), .int .i64 ((rd_T57 l0 x57_3).f2)] 57 (0, 0)) (bq_ BK329)) : gb329 ≠ gb331)); replace NB331_329 := Aside0.mk ((by rw [hg]; exact Nat.ne_of_gt (blk_lt (g := gb329) (o := .cells #[.int .i64 ((rd_T57 l0 x57_3).f0), .int .i64 ((rd_T57 l0 x57_3).f1), .int .i64 ((rd_T57 l0 x57_3).f2)] 57 (0, 0)) (bq_ BK329)) : gb331 ≠ gb329)); replace BK329 := bb_ BK329 hb; clear hb hbox hg; have hnb39 := NB331_329.out; have hnc39 := NB329_331.out; have hcz40_0 : w38.cell? ⟨gb331, 0, none⟩ = some (.int .i64 0) := (blk_cell BK331.out 0).trans rfl; have hcz40_1 : w38.cell? ⟨gb331, 1, none⟩ = some (.int .i64 0) := (blk_cell BK331.out 1).trans rfl; have hfz40_0 := blk_frozen BK331.out 0; have hfz40_1 := blk_frozen BK331.out 1; have hcz41_0 : w38.cell? ⟨gb329, 0, none⟩ = some (.int .i64 ((rd_T57 l0 x57_3).f0)) := (blk_cell BK329.out 0).trans rfl; have hcz41_1 : w38.cell? ⟨gb329, 1, none⟩ = some (.int .i64 ((rd_T57 l0 x57_3).f1)) := (blk_cell BK329.out 1).trans rfl; have hcz41_2 : w38.cell? ⟨gb329, 2, none⟩ = some (.int .i64 ((rd_T57 l0 x57_3).f2)) := (blk_cell BK329.out 2).trans rfl; have hfz41_0 := blk_frozen BK329.out 0; have hfz41_1 := blk_frozen BK329.out 1; have hfz41_2 := blk_frozen BK329.out 2))
                             go_roundg k4
                             case measure => have := HJ2.out; have := HK2.out; have := HK3.out; have := HK4.out; omega
                             case rel => exact ⟨((((rd_T62 t318 x63_4).f0) == ((rd_T57 l0 x57_3).f0) && (((rd_T62 t318 x63_4).f1) == ((rd_T57 l0 x57_3).f2)))), (wrap64 (x63_4 + 1)), (by first | rfl | (simp; done) | (simp [*]; done)), (by first | rfl | (simp; done) | (simp [*]; done)), H', ⟨by have := HJ2.out; have := HK2.out; have := HK3.out; have := HK4.out; omega⟩, ⟨by (with_reducible repeat (first | apply Kd.R_alloc | apply Kd.R_drewN | apply Kd.R_drew)); exact Kd.R_mono (Kd.R_far (p := ⟨gb331, 1, none⟩) (Kd.R_far (p := ⟨gb331, 0, none⟩) (Kd.R_types HO_5.out BK331.out (by decide)) (fun _ hk => hk.2) (.int .i64 ((rd_T62 t318 x63_4).f0))) (fun _ hk => hk.2) (.int .i64 ((rd_T62 t318 x63_4).f1))) (fun _ hk => hk.1)⟩, ⟨by (with_reducible repeat (first | apply Kd.R_alloc | apply Kd.R_drewN | apply Kd.R_drew)); exact Kd.R_mono (Kd.R_far (p := ⟨gb331, 1, none⟩) (Kd.R_far (p := ⟨gb331, 0, none⟩) (Kd.R_mono HO_7.out (fun k_ hk => (⟨hk, hk.2⟩ : _ ∧ k_ ≠ gb331))) (fun _ hk => hk.2) (.int .i64 ((rd_T62 t318 x63_4).f0))) (fun _ hk => hk.2) (.int .i64 ((rd_T62 t318 x63_4).f1))) (fun _ hk => trivial)⟩, ⟨by (with_reducible repeat (first | apply Kd.R_alloc | apply Kd.R_drewN | apply Kd.R_drew)); exact Kd.R_mono (Kd.R_far (p := ⟨gb331, 1, none⟩) (Kd.R_far (p := ⟨gb331, 0, none⟩) (Kd.R_mono HO_61.out (fun k_ hk => (⟨hk, hk.2⟩ : _ ∧ k_ ≠ gb331))) (fun _ hk => hk.2) (.int .i64 ((rd_T62 t318 x63_4).f0))) (fun _ hk => hk.2) (.int .i64 ((rd_T62 t318 x63_4).f1))) (fun _ hk => trivial)⟩, ⟨by (with_reducible repeat (first | refine blk_drewN ?_ _ | refine blk_drew ?_ | refine blk_alloc ?_ _)); refine blk_far ?_ NB329_331.out _; (with_reducible repeat (first | refine blk_drewN ?_ _ | refine blk_drew ?_ | refine blk_alloc ?_ _)); refine blk_far ?_ NB329_331.out _; (with_reducible repeat (first | refine blk_drewN ?_ _ | refine blk_drew ?_ | refine blk_alloc ?_ _)); exact BK329.out⟩, ⟨by repeat (first | (with_reducible first | exact HB.out | apply below_alloc | apply pw_below_drewN | apply below_drew1 | refine below_set ?_ GE329.out | refine below_set ?_ GE331.out) | exact HB.out)⟩⟩
                         · rw [if_neg c33] at H
                           exact absurd H (by simp)
                       · rw [if_neg c32] at H
                         exact absurd H (by simp)
                     · rw [if_neg c31] at H
                       have c31b0 : decide (x63_4 < (t318.length : Int)) = false := decide_eq_false c31
                       clear c31
                       by_cases c42 : x10_4 = true
                       · subst c42
                         rw [if_pos rfl] at H
                         have H' := Aside0.mk H
                         clear H
                         go_wp2
                         go_roundg k4
                         case measure => have := HJ2.out; have := HK2.out; have := HK3.out; have := HK4.out; omega
                         case rel => exact ⟨(wrap64 (x57_3 + 1)), (by first | rfl | (simp; done) | (simp [*]; done)), H', ⟨by have := HJ2.out; have := HK2.out; have := HK3.out; have := HK4.out; omega⟩, ⟨Kd.R_mono (rq_ HO_5) (fun _ hk => trivial)⟩, ⟨rq_ HO_7⟩, ⟨bsw_⟩⟩
                       · replace c42 := Bool.eq_false_iff.mpr c42
                         subst c42
                         rw [if_neg (show ¬ (false = true) by decide)] at H
                         exact absurd (Option.some.inj H) (by rw [HT.out]; decide)
                 · rw [if_neg c28] at H
                   exact absurd H (by simp)
               · rw [if_neg c27] at H
                 exact absurd H (by simp)
             · rw [if_neg c26] at H
               have c26b0 : decide (x57_3 < (l0.length : Int)) = false := decide_eq_false c26
               clear c26
               by_cases c43 : (t318.length : Int) = (l0.length : Int)
               · rw [if_pos c43] at H
                 have c43b0 : ((t318.length : Int) == (l0.length : Int)) = true := beq_iff_eq.mpr c43
                 have c43b1 : ((t318.length : Int) != (l0.length : Int)) = false := bne_eq_false_iff_eq.mpr c43
                 have c43b2 : (t318.length == l0.length) = true := by first | simpa using c43 | (simp at c43 ⊢; omega)
                 clear c43
                 replace H := Option.bind_eq_some_iff.mp H
                 obtain ⟨t323, A440, H⟩ := H
                 have A44 := Aside0.mk A440
                 clear A440
                 replace H := Option.bind_eq_some_iff.mp H
                 obtain ⟨t326, A450, H⟩ := H
                 have A45 := Aside0.mk A450
                 clear A450
                 by_cases c46 : t326 = true
                 · subst c46
                   rw [if_pos rfl] at H
                   replace H := Option.bind_eq_some_iff.mp H
                   obtain ⟨t327, A470, H⟩ := H
                   have A47 := Aside0.mk A470
                   clear A470
                   obtain rfl := Option.some.inj H
                   obtain ⟨Ao48, co48, eo48⟩ := Kd.R_slice HO_5.out
                   subst eo48
                   go_wp2_with (first | (go_at_call 31; (with_reducible refine (sleep_Watched.calls k3 _ _ x5_2 t323 _ ?side1 ?side2 A44.out).mono ?_); (case side1 => repeat (first | exact (Kd.R_reads' HO_5.out).2.2 | with_reducible first | refine Kd.C_alloc ?_ _ | refine Kd.C_drewN ?_ _ | refine Kd.C_drew ?_)); (case side2 => exact (Kd.R_reads' HO_5.out).2.1); rintro e w49 ⟨v324, rfl, ho0, hb⟩; replace HO_5 := rb_ HO_5 hb; replace HO325 := Aside0.mk (Kd.R_lower (Kd.R_new' ho0 (Kd.R_lt (rq_ HO_7))) bsz_); replace HO_7 := Aside0.mk (Kd.R_elder' (rq_ HO_7) (Kd.R_base ho0) hb); replace HB := Aside0.mk (bst_ hb); (try clear hb); (try clear hb2); (try clear hk); (try clear hi); (try clear ho0); obtain ⟨Ao50, co50, eo50⟩ := Kd.R_slice HO325.out; subst eo50) | (go_at_call 32; (with_reducible refine (handshakerref06_List.calls k3 _ _ t323 _ _ t318 true _ ?side1 ?side2 ?side3 ?side4 A45.out).mono ?_); (case side1 => repeat (first | exact (Kd.R_reads' HO325.out).2.2 | with_reducible first | refine Kd.C_alloc ?_ _ | refine Kd.C_drewN ?_ _ | refine Kd.C_drew ?_)); (case side2 => exact (Kd.R_reads' HO325.out).2.1); (case side3 => repeat (first | exact (Kd.R_reads' HO_7.out).2.2 | with_reducible first | refine Kd.C_alloc ?_ _ | refine Kd.C_drewN ?_ _ | refine Kd.C_drew ?_)); (case side4 => exact (Kd.R_reads' HO_7.out).2.1); rintro e w' ⟨rfl, ⟨nd, rfl⟩⟩) | (go_at_call 15; (with_reducible refine (handshakerlaw15_awake.calls k3  t327 _ A47.out).mono ?_); rintro e w51 ⟨rfl, hb⟩; replace HO_5 := rb_ HO_5 hb; replace HO_7 := rb_ HO_7 hb; replace HO325 := rb_ HO325 hb; replace HB := Aside0.mk (bst_ hb); (try clear hb); (try clear hb2); (try clear hk); (try clear hi)))
                   go_ret
                   exact ⟨by first | rfl | (simp [errW_none, errW_some] <;> rfl) | (simp [*, errW_none, errW_some] <;> rfl), bsv_⟩
                 · replace c46 := Bool.eq_false_iff.mpr c46
                   subst c46
                   rw [if_neg (show ¬ (false = true) by decide)] at H
                   exact absurd (Option.some.inj H) (by rw [HT.out]; decide)
               · rw [if_neg c43] at H
                 have c43b0 : ((t318.length : Int) == (l0.length : Int)) = false := beq_eq_false_iff_ne.mpr c43
                 have c43b1 : ((t318.length : Int) != (l0.length : Int)) = true := bne_iff_ne.mpr c43
                 have c43b2 : (t318.length == l0.length) = false := by first | simpa using c43 | (simp at c43 ⊢; omega)
                 exact absurd (Option.some.inj H) (by rw [HT.out]; decide)

/-- THE ONE PURE STATEMENT of handshakerlaw15_SleepWatch. -/
def handshakerlaw15_SleepWatch.Pure : Prop := ∀ (l0 : List (S57)) (a1 : Int), l0.length ≤ maxLen → l0.length * 24 ≤ 140737488351232 → (∀ y ∈ l0, wfS57 y) → (Lit.int .u8 a1).wf = true → ∃ k, handshakerlaw15_SleepWatch.f k l0 a1 = some true

end Go.Proofs.Ytjnkpocfmpbpoaa.Sd
