-- PRINTED by print.py (a twelfth state) out of the translation. Not trusted: Lean checks it.
import Derived.Test.YtihcnbhcemkncaaBx0
import Derived.Test.YtihcnbhcemkncaaBx1
import Derived.Test.YtihcnbhcemkncaaBx2
namespace Go.Proofs.Ytihcnbhcemkncaa.B
open Go.Proofs.Ytihcnbhcemkncaa.Ho
open Go.RowKit Go.Proofs.YtihcnbhcemkncaaW.PrintWords Go.Proofs.YtihcnbhcemkncaaW.PrintLast Go.Proofs.YtihcnbhcemkncaaW.PrintMore
attribute [local go_sem] max2_int min2_int max_two min_two max_three min_three max_four min_four   -- for this text's walks alone
set_option linter.unusedVariables false
set_option linter.unusedSimpArgs false

attribute [local go_sem high] eqA66 eqA87
/-! ### handshakerref22_Same: function 26 -/
mutual
def handshakerref22_Same.l0 : Nat → List (S39) → List (S39) → Int → Option (Bool)
 | 0, _, _, _ => none
 | k + 1, x0, x1, x5 => if x5 < (x0.length : Int) then (if 0 ≤ x5 then (if x5 < (x1.length : Int) then (if ((rd_T39 x0 x5).f0) = ((rd_T39 x1 x5).f0) then (handshakerref22_Same.j1 k x0 x1 x5 ((((rd_T39 x0 x5).f1).length : Int) != (((rd_T39 x1 x5).f1).length : Int))) else (handshakerref22_Same.j1 k x0 x1 x5 true)) else (none)) else (none)) else (some true)
def handshakerref22_Same.j1 : Nat → List (S39) → List (S39) → Int → Bool → Option (Bool)
 | 0, _, _, _, _ => none
 | k + 1, x0, x1, x5, x43 => if x43 = true then (some false) else (handshakerref22_Same.l1 k x0 x1 x5 0)
def handshakerref22_Same.l1 : Nat → List (S39) → List (S39) → Int → Int → Option (Bool)
 | 0, _, _, _, _ => none
 | k + 1, x0, x1, x5, x6 => if 0 ≤ x5 then (if x5 < (x0.length : Int) then (if x6 < (((rd_T39 x0 x5).f1).length : Int) then (if 0 ≤ x6 then (if x5 < (x1.length : Int) then (if x6 < (((rd_T39 x1 x5).f1).length : Int) then (if (!(((rd_T87 ((rd_T39 x0 x5).f1) x6).f0) == ((rd_T87 ((rd_T39 x1 x5).f1) x6).f0)) || (!(((rd_T87 ((rd_T39 x0 x5).f1) x6).f1) == ((rd_T87 ((rd_T39 x1 x5).f1) x6).f1)) || (!(((rd_T87 ((rd_T39 x0 x5).f1) x6).f2) == ((rd_T87 ((rd_T39 x1 x5).f1) x6).f2))))) = true then (some false) else (handshakerref22_Same.l1 k x0 x1 x5 (wrap64 (x6 + 1)))) else (none)) else (none)) else (none)) else (handshakerref22_Same.l0 k x0 x1 (wrap64 (x5 + 1)))) else (none)) else (none)
end
def handshakerref22_Same.f (k : Nat) (l0 : List (S39)) (l1 : List (S39)) : Option (Bool) := if (l0.length : Int) = (l1.length : Int) then (handshakerref22_Same.l0 k l0 l1 0) else (some false)
theorem handshakerref22_Same.mono_l : ∀ k, (∀ y0 y1 y2, LeO (handshakerref22_Same.l0 k y0 y1 y2) (handshakerref22_Same.l0 (k + 1) y0 y1 y2)) ∧ (∀ y0 y1 y2 y3, LeO (handshakerref22_Same.j1 k y0 y1 y2 y3) (handshakerref22_Same.j1 (k + 1) y0 y1 y2 y3)) ∧ (∀ y0 y1 y2 y3, LeO (handshakerref22_Same.l1 k y0 y1 y2 y3) (handshakerref22_Same.l1 (k + 1) y0 y1 y2 y3))
 | 0 => ⟨fun _ _ _ r h => by simp [handshakerref22_Same.l0] at h, fun _ _ _ _ r h => by simp [handshakerref22_Same.j1] at h, fun _ _ _ _ r h => by simp [handshakerref22_Same.l1] at h⟩
 | k + 1 => by
  obtain ⟨ih0, ih1, ih2⟩ := handshakerref22_Same.mono_l k
  refine ⟨?_, ?_, ?_⟩
  · intro y0 y1 y2
    unfold handshakerref22_Same.l0
    repeat' first
    | (with_reducible exact ih0 _ _ _)
    | (with_reducible exact ih1 _ _ _ _)
    | (with_reducible exact ih2 _ _ _ _)
    | (with_reducible exact LeO.refl _)
    | (with_reducible exact LeO.none _)
    | (with_reducible refine LeO.ite ?_ ?_)
    | (with_reducible refine LeO.bind ?_ (fun _ => ?_))
    | exact ih0 _ _ _
    | exact ih1 _ _ _ _
    | exact ih2 _ _ _ _
    | exact LeO.none _
    | refine LeO.ite ?_ ?_
    | refine LeO.bind ?_ (fun _ => ?_)
  · intro y0 y1 y2 y3
    unfold handshakerref22_Same.j1
    repeat' first
    | (with_reducible exact ih0 _ _ _)
    | (with_reducible exact ih1 _ _ _ _)
    | (with_reducible exact ih2 _ _ _ _)
    | (with_reducible exact LeO.refl _)
    | (with_reducible exact LeO.none _)
    | (with_reducible refine LeO.ite ?_ ?_)
    | (with_reducible refine LeO.bind ?_ (fun _ => ?_))
    | exact ih0 _ _ _
    | exact ih1 _ _ _ _
    | exact ih2 _ _ _ _
    | exact LeO.none _
    | refine LeO.ite ?_ ?_
    | refine LeO.bind ?_ (fun _ => ?_)
  · intro y0 y1 y2 y3
    unfold handshakerref22_Same.l1
    repeat' first
    | (with_reducible exact ih0 _ _ _)
    | (with_reducible exact ih1 _ _ _ _)
    | (with_reducible exact ih2 _ _ _ _)
    | (with_reducible exact LeO.refl _)
    | (with_reducible exact LeO.none _)
    | (with_reducible refine LeO.ite ?_ ?_)
    | (with_reducible refine LeO.bind ?_ (fun _ => ?_))
    | exact ih0 _ _ _
    | exact ih1 _ _ _ _
    | exact ih2 _ _ _ _
    | exact LeO.none _
    | refine LeO.ite ?_ ?_
    | refine LeO.bind ?_ (fun _ => ?_)
theorem handshakerref22_Same.mono : ∀ a0 a1 k, LeO (handshakerref22_Same.f k a0 a1) (handshakerref22_Same.f (k + 1) a0 a1) := by
 intro a0 a1 k
 obtain ⟨ih0, ih1, ih2⟩ := handshakerref22_Same.mono_l k
 unfold handshakerref22_Same.f
 repeat' first
  | (with_reducible exact ih0 _ _ _)
  | (with_reducible exact ih1 _ _ _ _)
  | (with_reducible exact ih2 _ _ _ _)
  | (with_reducible exact LeO.refl _)
  | (with_reducible exact LeO.none _)
  | (with_reducible refine LeO.ite ?_ ?_)
  | (with_reducible refine LeO.bind ?_ (fun _ => ?_))
  | exact ih0 _ _ _
  | exact ih1 _ _ _ _
  | exact ih2 _ _ _ _
  | exact LeO.none _
  | refine LeO.ite ?_ ?_
  | refine LeO.bind ?_ (fun _ => ?_)
set_option maxHeartbeats 8000000 in
set_option maxRecDepth 100000 in
theorem handshakerref22_Same.calls (k : Nat) (A0 : Option Addr) (c0 : Nat) (l0 : List (S39)) (A1 : Option Addr) (c1 : Nat) (l1 : List (S39)) (r : Bool) (w : World) (hr0 : Kd.C k39 w A0 l0.length l0) (hc0 : l0.length ≤ c0) (hr1 : Kd.C k39 w A1 l1.length l1) (hc1 : l1.length ≤ c1) (h : handshakerref22_Same.f k l0 l1 = some r) :
 Calls Try.prog 26 #[.slice A0 l0.length c0, .slice A1 l1.length c1] w fun e w' => e = .returned (.bool r) ∧ Drawn0 w w' := by
 have hu87 := Try.underlying87
 have HR0 := Aside0.mk hr0
 have HC0 := Aside0.mk hc0
 clear hr0 hc0
 have HR1 := Aside0.mk hr1
 have HC1 := Aside0.mk hc1
 clear hr1 hc1
 have H : (if (l0.length : Int) = (l1.length : Int) then (handshakerref22_Same.l0 k l0 l1 0) else (some false)) = some r := h
 clear h
 by_cases c3 : (l0.length : Int) = (l1.length : Int)
 · rw [if_pos c3] at H
   have c3b0 : ((l0.length : Int) == (l1.length : Int)) = true := beq_iff_eq.mpr c3
   have c3b1 : ((l0.length : Int) != (l1.length : Int)) = false := bne_eq_false_iff_eq.mpr c3
   have c3b2 : (l0.length == l1.length) = true := by first | simpa using c3 | (simp at c3 ⊢; omega)
   clear c3
   have H' := Aside0.mk H
   clear H
   go_enter Try.func26, Try.ntmps26
   go_wp2
   repeat (go_quiet (fail); try go_wp2)
   go_loopg [5] k (fun kq v5 w' => ∃ (x5_1 : Int), v5 = .int .i64 x5_1 ∧ Aside0 (handshakerref22_Same.l0 kq l0 l1 x5_1 = some r) ∧ Aside0 (kq ≤ k) ∧ Drawn0 w w')
   case atStart => exact ⟨(0), (by first | rfl | (simp; done) | (simp [*]; done)), H', ⟨Nat.le_refl _⟩, by repeat (first | exact Drawn0.refl _ | apply Drawn0.step)⟩
   case round =>
    clear H'
    try clear c1
    try clear c2
    try clear p2
    try clear c3
    try clear c3b0
    try clear c3b1
    try clear c3b2
    obtain ⟨x5_1, rfl, HA, HK1, ⟨m1, rfl⟩⟩ := hrel
    cases gk with
    | zero => exact absurd HA.out (by simp [handshakerref22_Same.l0])
    | succ k1 =>
     have H := HA.out
     clear HA
     simp only [handshakerref22_Same.l0] at H
     by_cases c4 : x5_1 < (l0.length : Int)
     · rw [if_pos c4] at H
       have c4b0 : decide (x5_1 < (l0.length : Int)) = true := decide_eq_true c4
       clear c4
       have HC5 := Aside0.mk H
       clear H
       go_upto_region 6 with (fail)
       repeat (go_quiet (fail); go_upto_region 6 with (fail))
       go_cut [43] (fun v43 wc => ∃ (kq : Nat) (x43_4 : Bool), v43 = .bool x43_4 ∧ Aside0 (handshakerref22_Same.j1 kq l0 l1 x5_1 x43_4 = some r) ∧ Aside0 (kq ≤ k1) ∧ Drawn0 w wc)
       case first =>
        have H := HC5.out
        clear HC5
        by_cases c6 : 0 ≤ x5_1
        · rw [if_pos c6] at H
          have c6b0 : decide (0 ≤ x5_1) = true := decide_eq_true c6
          clear c6
          (first | rw [c6b0] | (simp only [i64_w, i32_w]; rw [c6b0]) | skip)
          by_cases c7 : x5_1 < (l1.length : Int)
          · rw [if_pos c7] at H
            have c7b0 : decide (x5_1 < (l1.length : Int)) = true := decide_eq_true c7
            clear c7
            by_cases c8 : ((rd_T39 l0 x5_1).f0) = ((rd_T39 l1 x5_1).f0)
            · rw [if_pos c8] at H
              have c8b0 : (((rd_T39 l0 x5_1).f0) == ((rd_T39 l1 x5_1).f0)) = true := beq_iff_eq.mpr c8
              have c8b1 : (((rd_T39 l0 x5_1).f0) != ((rd_T39 l1 x5_1).f0)) = false := bne_eq_false_iff_eq.mpr c8
              clear c8
              have H' := Aside0.mk H
              clear H
              have p407 : 0 ≤ (x5_1 : Int) := oda_
              have q407 : x5_1 < (l0.length : Int) := oda_
              obtain ⟨ad407, A407_1, c407_1, e407, hx407_0, hx407_1, hl407_1, hi407_1⟩ := at_T39 HR0.out x5_1 p407 q407
              cases e407
              have HR407_1 := Aside0.mk hi407_1
              have HC407_1 := Aside0.mk hl407_1
              clear hi407_1 hl407_1
              replace p407 := eq_true p407
              replace q407 := eq_true q407
              have p408 : 0 ≤ (x5_1 : Int) := oda_
              have q408 : x5_1 < (l1.length : Int) := oda_
              obtain ⟨ad408, A408_1, c408_1, e408, hx408_0, hx408_1, hl408_1, hi408_1⟩ := at_T39 HR1.out x5_1 p408 q408
              cases e408
              have HR408_1 := Aside0.mk hi408_1
              have HC408_1 := Aside0.mk hl408_1
              clear hi408_1 hl408_1
              replace p408 := eq_true p408
              replace q408 := eq_true q408
              have p409 : 0 ≤ (x5_1 : Int) := oda_
              have q409 : x5_1 < (l0.length : Int) := oda_
              obtain ⟨ad409, A409_1, c409_1, e409, hx409_0, hx409_1, hl409_1, hi409_1⟩ := at_T39 HR0.out x5_1 p409 q409
              obtain rfl : ad407 = ad409 := (by injection e409)
              have HR409_1 := Aside0.mk hi409_1
              have HC409_1 := Aside0.mk hl409_1
              clear hi409_1 hl409_1
              replace p409 := eq_true p409
              replace q409 := eq_true q409
              have ea_ := Option.some.inj (hx407_1.symm.trans hx409_1)
              injection ea_ with ea_ en_ ec_
              subst ea_
              subst ec_
              clear en_
              have p410 : 0 ≤ (x5_1 : Int) := oda_
              have q410 : x5_1 < (l1.length : Int) := oda_
              obtain ⟨ad410, A410_1, c410_1, e410, hx410_0, hx410_1, hl410_1, hi410_1⟩ := at_T39 HR1.out x5_1 p410 q410
              obtain rfl : ad408 = ad410 := (by injection e410)
              have HR410_1 := Aside0.mk hi410_1
              have HC410_1 := Aside0.mk hl410_1
              clear hi410_1 hl410_1
              replace p410 := eq_true p410
              replace q410 := eq_true q410
              have ea_ := Option.some.inj (hx408_1.symm.trans hx410_1)
              injection ea_ with ea_ en_ ec_
              subst ea_
              subst ec_
              clear en_
              go_wp2
              repeat (go_quiet (fail); try go_wp2)
              go_meet
              case rel => exact ⟨_, (((((rd_T39 l0 x5_1).f1).length : Int) != (((rd_T39 l1 x5_1).f1).length : Int))), (by first | rfl | (simp; done) | (simp [*]; done)), H', ⟨by have := HK1.out; first | omega | exact Nat.le_refl _⟩, by repeat (first | exact Drawn0.refl _ | apply Drawn0.step)⟩
            · rw [if_neg c8] at H
              have c8b0 : (((rd_T39 l0 x5_1).f0) == ((rd_T39 l1 x5_1).f0)) = false := beq_eq_false_iff_ne.mpr c8
              have c8b1 : (((rd_T39 l0 x5_1).f0) != ((rd_T39 l1 x5_1).f0)) = true := bne_iff_ne.mpr c8
              have H' := Aside0.mk H
              clear H
              have p407 : 0 ≤ (x5_1 : Int) := oda_
              have q407 : x5_1 < (l0.length : Int) := oda_
              obtain ⟨ad407, A407_1, c407_1, e407, hx407_0, hx407_1, hl407_1, hi407_1⟩ := at_T39 HR0.out x5_1 p407 q407
              cases e407
              have HR407_1 := Aside0.mk hi407_1
              have HC407_1 := Aside0.mk hl407_1
              clear hi407_1 hl407_1
              replace p407 := eq_true p407
              replace q407 := eq_true q407
              have p408 : 0 ≤ (x5_1 : Int) := oda_
              have q408 : x5_1 < (l1.length : Int) := oda_
              obtain ⟨ad408, A408_1, c408_1, e408, hx408_0, hx408_1, hl408_1, hi408_1⟩ := at_T39 HR1.out x5_1 p408 q408
              cases e408
              have HR408_1 := Aside0.mk hi408_1
              have HC408_1 := Aside0.mk hl408_1
              clear hi408_1 hl408_1
              replace p408 := eq_true p408
              replace q408 := eq_true q408
              go_wp2
              repeat (go_quiet (fail); try go_wp2)
              go_meet
              case rel => exact ⟨_, (true), (by first | rfl | (simp; done) | (simp [*]; done)), H', ⟨by have := HK1.out; first | omega | exact Nat.le_refl _⟩, by repeat (first | exact Drawn0.refl _ | apply Drawn0.step)⟩
          · rw [if_neg c7] at H
            exact absurd H (by simp)
        · rw [if_neg c6] at H
          exact absurd H (by simp)
       case rest =>
        clear HC5
        try clear c1
        try clear c2
        try clear p2
        try clear c3
        try clear c3b0
        try clear c3b1
        try clear c3b2
        try clear c4
        try clear c4b0
        try clear p4
        try clear q4
        try clear hx4
        try clear c6
        try clear c6b0
        try clear c7
        try clear c7b0
        try clear c8
        try clear c8b0
        try clear c8b1
        try clear hx407_0
        try clear hx407_1
        try clear hx408_0
        try clear hx408_1
        try clear hx409_0
        try clear hx409_1
        try clear hx410_0
        try clear hx410_1
        try clear p2
        try clear p407
        try clear p408
        try clear p409
        try clear p410
        try clear q407
        try clear q408
        try clear q409
        try clear q410
        obtain ⟨kq, x43_4, rfl, HA, HJ4, ⟨mc4, rfl⟩⟩ := hcut
        cases kq with
        | zero => exact absurd HA.out (by simp [handshakerref22_Same.j1])
        | succ kj4 =>
         have H := HA.out
         clear HA
         simp only [handshakerref22_Same.j1] at H
         by_cases c9 : x43_4 = true
         · subst c9
           rw [if_pos rfl] at H
           obtain rfl := Option.some.inj H
           go_wp2
           repeat (go_quiet (fail); try go_wp2)
           go_ret
           exact ⟨by first | rfl | (simp; done) | (simp [*]; done), by repeat (first | exact Drawn0.refl _ | apply Drawn0.step)⟩
         · replace c9 := Bool.eq_false_iff.mpr c9
           subst c9
           rw [if_neg (show ¬ (false = true) by decide)] at H
           have H' := Aside0.mk H
           clear H
           go_wp2
           repeat (go_quiet (fail); try go_wp2)
           go_loopg [6] kj4 (fun kq v6 w' => ∃ (x6_3 : Int), v6 = .int .i64 x6_3 ∧ Aside0 (handshakerref22_Same.l1 kq l0 l1 x5_1 x6_3 = some r) ∧ Aside0 (kq ≤ kj4) ∧ Drawn0 w w')
           case atStart => exact ⟨(0), (by first | rfl | (simp; done) | (simp [*]; done)), H', ⟨Nat.le_refl _⟩, by repeat (first | exact Drawn0.refl _ | apply Drawn0.step)⟩
           case round =>
            clear H'
            try clear c1
            try clear c2
            try clear p2
            try clear c3
            try clear c3b0
            try clear c3b1
            try clear c3b2
            try clear c4
            try clear c4b0
            try clear p4
            try clear q4
            try clear hx4
            try clear c6
            try clear c6b0
            try clear c7
            try clear c7b0
            try clear c8
            try clear c8b0
            try clear c8b1
            try clear c9
            try clear hx407_0
            try clear hx407_1
            try clear hx408_0
            try clear hx408_1
            try clear hx409_0
            try clear hx409_1
            try clear hx410_0
            try clear hx410_1
            try clear p2
            try clear p4
            try clear p407
            try clear p408
            try clear p409
            try clear p410
            try clear q4
            try clear q407
            try clear q408
            try clear q409
            try clear q410
            obtain ⟨x6_3, rfl, HA, HK3, ⟨m3, rfl⟩⟩ := hrel
            cases gk with
            | zero => exact absurd HA.out (by simp [handshakerref22_Same.l1])
            | succ k3 =>
             have H := HA.out
             clear HA
             simp only [handshakerref22_Same.l1] at H
             by_cases c10 : 0 ≤ x5_1
             · rw [if_pos c10] at H
               have c10b0 : decide (0 ≤ x5_1) = true := decide_eq_true c10
               clear c10
               by_cases c11 : x5_1 < (l0.length : Int)
               · rw [if_pos c11] at H
                 have c11b0 : decide (x5_1 < (l0.length : Int)) = true := decide_eq_true c11
                 clear c11
                 by_cases c12 : x6_3 < (((rd_T39 l0 x5_1).f1).length : Int)
                 · rw [if_pos c12] at H
                   have c12b0 : decide (x6_3 < (((rd_T39 l0 x5_1).f1).length : Int)) = true := decide_eq_true c12
                   clear c12
                   by_cases c13 : 0 ≤ x6_3
                   · rw [if_pos c13] at H
                     have c13b0 : decide (0 ≤ x6_3) = true := decide_eq_true c13
                     clear c13
                     by_cases c14 : x5_1 < (l1.length : Int)
                     · rw [if_pos c14] at H
                       have c14b0 : decide (x5_1 < (l1.length : Int)) = true := decide_eq_true c14
                       clear c14
                       by_cases c15 : x6_3 < (((rd_T39 l1 x5_1).f1).length : Int)
                       · rw [if_pos c15] at H
                         have c15b0 : decide (x6_3 < (((rd_T39 l1 x5_1).f1).length : Int)) = true := decide_eq_true c15
                         clear c15
                         by_cases c16 : (!(((rd_T87 ((rd_T39 l0 x5_1).f1) x6_3).f0) == ((rd_T87 ((rd_T39 l1 x5_1).f1) x6_3).f0)) || (!(((rd_T87 ((rd_T39 l0 x5_1).f1) x6_3).f1) == ((rd_T87 ((rd_T39 l1 x5_1).f1) x6_3).f1)) || (!(((rd_T87 ((rd_T39 l0 x5_1).f1) x6_3).f2) == ((rd_T87 ((rd_T39 l1 x5_1).f1) x6_3).f2))))) = true
                         · rw [if_pos c16] at H
                           have c16b0 : (!(((rd_T87 ((rd_T39 l0 x5_1).f1) x6_3).f0) == ((rd_T87 ((rd_T39 l1 x5_1).f1) x6_3).f0)) || (!(((rd_T87 ((rd_T39 l0 x5_1).f1) x6_3).f1) == ((rd_T87 ((rd_T39 l1 x5_1).f1) x6_3).f1)) || (!(((rd_T87 ((rd_T39 l0 x5_1).f1) x6_3).f2) == ((rd_T87 ((rd_T39 l1 x5_1).f1) x6_3).f2))))) = true := c16
                           clear c16
                           obtain rfl := Option.some.inj H
                           have p411 : 0 ≤ (x5_1 : Int) := oda_
                           have q411 : x5_1 < (l0.length : Int) := oda_
                           obtain ⟨ad411, A411_1, c411_1, e411, hx411_0, hx411_1, hl411_1, hi411_1⟩ := at_T39 HR0.out x5_1 p411 q411
                           cases e411
                           have HR411_1 := Aside0.mk hi411_1
                           have HC411_1 := Aside0.mk hl411_1
                           clear hi411_1 hl411_1
                           replace p411 := eq_true p411
                           replace q411 := eq_true q411
                           have p412 : 0 ≤ (x5_1 : Int) := oda_
                           have q412 : x5_1 < (l0.length : Int) := oda_
                           obtain ⟨ad412, A412_1, c412_1, e412, hx412_0, hx412_1, hl412_1, hi412_1⟩ := at_T39 HR0.out x5_1 p412 q412
                           obtain rfl : ad411 = ad412 := (by injection e412)
                           have HR412_1 := Aside0.mk hi412_1
                           have HC412_1 := Aside0.mk hl412_1
                           clear hi412_1 hl412_1
                           replace p412 := eq_true p412
                           replace q412 := eq_true q412
                           have ea_ := Option.some.inj (hx411_1.symm.trans hx412_1)
                           injection ea_ with ea_ en_ ec_
                           subst ea_
                           subst ec_
                           clear en_
                           have p413 : 0 ≤ (x6_3 : Int) := oda_
                           have q413 : x6_3 < (((rd_T39 l0 x5_1).f1).length : Int) := oda_
                           obtain ⟨ad413, e413, hx413_0, hx413_1, hx413_2⟩ := at_T87 HR412_1.out x6_3 p413 q413
                           cases e413
                           replace p413 := eq_true p413
                           replace q413 := eq_true q413
                           have p414 : 0 ≤ (x5_1 : Int) := oda_
                           have q414 : x5_1 < (l1.length : Int) := oda_
                           obtain ⟨ad414, A414_1, c414_1, e414, hx414_0, hx414_1, hl414_1, hi414_1⟩ := at_T39 HR1.out x5_1 p414 q414
                           cases e414
                           have HR414_1 := Aside0.mk hi414_1
                           have HC414_1 := Aside0.mk hl414_1
                           clear hi414_1 hl414_1
                           replace p414 := eq_true p414
                           replace q414 := eq_true q414
                           have p415 : 0 ≤ (x6_3 : Int) := oda_
                           have q415 : x6_3 < (((rd_T39 l1 x5_1).f1).length : Int) := oda_
                           obtain ⟨ad415, e415, hx415_0, hx415_1, hx415_2⟩ := at_T87 HR414_1.out x6_3 p415 q415
                           cases e415
                           replace p415 := eq_true p415
                           replace q415 := eq_true q415
                           go_wp2
                           repeat (go_quiet (fail); try go_wp2)
                           go_ret
                           exact ⟨by first | rfl | (simp; done) | (simp [*]; done), by repeat (first | exact Drawn0.refl _ | apply Drawn0.step)⟩
                         · rw [if_neg c16] at H
                           have c16b0 : (!(((rd_T87 ((rd_T39 l0 x5_1).f1) x6_3).f0) == ((rd_T87 ((rd_T39 l1 x5_1).f1) x6_3).f0)) || (!(((rd_T87 ((rd_T39 l0 x5_1).f1) x6_3).f1) == ((rd_T87 ((rd_T39 l1 x5_1).f1) x6_3).f1)) || (!(((rd_T87 ((rd_T39 l0 x5_1).f1) x6_3).f2) == ((rd_T87 ((rd_T39 l1 x5_1).f1) x6_3).f2))))) = false := by simpa using c16
                           clear c16
                           have H' := Aside0.mk H
                           clear H
                           have p411 : 0 ≤ (x5_1 : Int) := oda_
                           have q411 : x5_1 < (l0.length : Int) := oda_
                           obtain ⟨ad411, A411_1, c411_1, e411, hx411_0, hx411_1, hl411_1, hi411_1⟩ := at_T39 HR0.out x5_1 p411 q411
                           cases e411
                           have HR411_1 := Aside0.mk hi411_1
                           have HC411_1 := Aside0.mk hl411_1
                           clear hi411_1 hl411_1
                           replace p411 := eq_true p411
                           replace q411 := eq_true q411
                           have p412 : 0 ≤ (x5_1 : Int) := oda_
                           have q412 : x5_1 < (l0.length : Int) := oda_
                           obtain ⟨ad412, A412_1, c412_1, e412, hx412_0, hx412_1, hl412_1, hi412_1⟩ := at_T39 HR0.out x5_1 p412 q412
                           obtain rfl : ad411 = ad412 := (by injection e412)
                           have HR412_1 := Aside0.mk hi412_1
                           have HC412_1 := Aside0.mk hl412_1
                           clear hi412_1 hl412_1
                           replace p412 := eq_true p412
                           replace q412 := eq_true q412
                           have ea_ := Option.some.inj (hx411_1.symm.trans hx412_1)
                           injection ea_ with ea_ en_ ec_
                           subst ea_
                           subst ec_
                           clear en_
                           have p413 : 0 ≤ (x6_3 : Int) := oda_
                           have q413 : x6_3 < (((rd_T39 l0 x5_1).f1).length : Int) := oda_
                           obtain ⟨ad413, e413, hx413_0, hx413_1, hx413_2⟩ := at_T87 HR412_1.out x6_3 p413 q413
                           cases e413
                           replace p413 := eq_true p413
                           replace q413 := eq_true q413
                           have p414 : 0 ≤ (x5_1 : Int) := oda_
                           have q414 : x5_1 < (l1.length : Int) := oda_
                           obtain ⟨ad414, A414_1, c414_1, e414, hx414_0, hx414_1, hl414_1, hi414_1⟩ := at_T39 HR1.out x5_1 p414 q414
                           cases e414
                           have HR414_1 := Aside0.mk hi414_1
                           have HC414_1 := Aside0.mk hl414_1
                           clear hi414_1 hl414_1
                           replace p414 := eq_true p414
                           replace q414 := eq_true q414
                           have p415 : 0 ≤ (x6_3 : Int) := oda_
                           have q415 : x6_3 < (((rd_T39 l1 x5_1).f1).length : Int) := oda_
                           obtain ⟨ad415, e415, hx415_0, hx415_1, hx415_2⟩ := at_T87 HR414_1.out x6_3 p415 q415
                           cases e415
                           replace p415 := eq_true p415
                           replace q415 := eq_true q415
                           go_wp2
                           repeat (go_quiet (fail); try go_wp2)
                           go_roundg k3
                           case measure => have := HK1.out; have := HJ4.out; have := HK3.out; omega
                           case rel => exact ⟨(wrap64 (x6_3 + 1)), (by first | rfl | (simp; done) | (simp [*]; done)), H', ⟨by have := HK1.out; have := HJ4.out; have := HK3.out; omega⟩, by repeat (first | exact Drawn0.refl _ | apply Drawn0.step)⟩
                       · rw [if_neg c15] at H
                         exact absurd H (by simp)
                     · rw [if_neg c14] at H
                       exact absurd H (by simp)
                   · rw [if_neg c13] at H
                     exact absurd H (by simp)
                 · rw [if_neg c12] at H
                   have c12b0 : decide (x6_3 < (((rd_T39 l0 x5_1).f1).length : Int)) = false := decide_eq_false c12
                   clear c12
                   have H' := Aside0.mk H
                   clear H
                   have p411 : 0 ≤ (x5_1 : Int) := oda_
                   have q411 : x5_1 < (l0.length : Int) := oda_
                   obtain ⟨ad411, A411_1, c411_1, e411, hx411_0, hx411_1, hl411_1, hi411_1⟩ := at_T39 HR0.out x5_1 p411 q411
                   cases e411
                   have HR411_1 := Aside0.mk hi411_1
                   have HC411_1 := Aside0.mk hl411_1
                   clear hi411_1 hl411_1
                   replace p411 := eq_true p411
                   replace q411 := eq_true q411
                   go_wp2
                   repeat (go_quiet (fail); try go_wp2)
                   go_roundg k3
                   case measure => have := HK1.out; have := HJ4.out; have := HK3.out; omega
                   case rel => exact ⟨(wrap64 (x5_1 + 1)), (by first | rfl | (simp; done) | (simp [*]; done)), H', ⟨by have := HK1.out; have := HJ4.out; have := HK3.out; omega⟩, by repeat (first | exact Drawn0.refl _ | apply Drawn0.step)⟩
               · rw [if_neg c11] at H
                 exact absurd H (by simp)
             · rw [if_neg c10] at H
               exact absurd H (by simp)
     · rw [if_neg c4] at H
       have c4b0 : decide (x5_1 < (l0.length : Int)) = false := decide_eq_false c4
       clear c4
       obtain rfl := Option.some.inj H
       go_wp2
       repeat (go_quiet (fail); try go_wp2)
       go_ret
       exact ⟨by first | rfl | (simp; done) | (simp [*]; done), by repeat (first | exact Drawn0.refl _ | apply Drawn0.step)⟩
 · rw [if_neg c3] at H
   have c3b0 : ((l0.length : Int) == (l1.length : Int)) = false := beq_eq_false_iff_ne.mpr c3
   have c3b1 : ((l0.length : Int) != (l1.length : Int)) = true := bne_iff_ne.mpr c3
   have c3b2 : (l0.length == l1.length) = false := by first | simpa using c3 | (simp at c3 ⊢; omega)
   obtain rfl := Option.some.inj H
   go_enter Try.func26, Try.ntmps26
   go_wp2
   repeat (go_quiet (fail); try go_wp2)
   go_ret
   exact ⟨by first | rfl | (simp; done) | (simp [*]; done), by repeat (first | exact Drawn0.refl _ | apply Drawn0.step)⟩

/-! ### handshakerref02_Same: function 27 -/
def handshakerref02_Same.l0 : Nat → List (S66) → List (S66) → Int → Option (Bool)
 | 0, _, _, _ => none
 | k + 1, x0, x1, x5 => if x5 < (x0.length : Int) then (if 0 ≤ x5 then (if x5 < (x1.length : Int) then (if (!(((rd_T66 x0 x5).f0) == ((rd_T66 x1 x5).f0)) || (!(((rd_T66 x0 x5).f1) == ((rd_T66 x1 x5).f1)))) = true then (some false) else (handshakerref02_Same.l0 k x0 x1 (wrap64 (x5 + 1)))) else (none)) else (none)) else (some true)
def handshakerref02_Same.f (k : Nat) (l0 : List (S66)) (l1 : List (S66)) : Option (Bool) := if (l0.length : Int) = (l1.length : Int) then (handshakerref02_Same.l0 k l0 l1 0) else (some false)
theorem handshakerref02_Same.mono_l : ∀ k, (∀ y0 y1 y2, LeO (handshakerref02_Same.l0 k y0 y1 y2) (handshakerref02_Same.l0 (k + 1) y0 y1 y2))
 | 0 => fun _ _ _ r h => by simp [handshakerref02_Same.l0] at h
 | k + 1 => by
  have ih0 := handshakerref02_Same.mono_l k
  · intro y0 y1 y2
    unfold handshakerref02_Same.l0
    repeat' first
    | (with_reducible exact ih0 _ _ _)
    | (with_reducible exact LeO.refl _)
    | (with_reducible exact LeO.none _)
    | (with_reducible refine LeO.ite ?_ ?_)
    | (with_reducible refine LeO.bind ?_ (fun _ => ?_))
    | exact ih0 _ _ _
    | exact LeO.none _
    | refine LeO.ite ?_ ?_
    | refine LeO.bind ?_ (fun _ => ?_)
theorem handshakerref02_Same.mono : ∀ a0 a1 k, LeO (handshakerref02_Same.f k a0 a1) (handshakerref02_Same.f (k + 1) a0 a1) := by
 intro a0 a1 k
 have ih0 := handshakerref02_Same.mono_l k
 unfold handshakerref02_Same.f
 repeat' first
  | (with_reducible exact ih0 _ _ _)
  | (with_reducible exact LeO.refl _)
  | (with_reducible exact LeO.none _)
  | (with_reducible refine LeO.ite ?_ ?_)
  | (with_reducible refine LeO.bind ?_ (fun _ => ?_))
  | exact ih0 _ _ _
  | exact LeO.none _
  | refine LeO.ite ?_ ?_
  | refine LeO.bind ?_ (fun _ => ?_)
set_option maxHeartbeats 8000000 in
set_option maxRecDepth 100000 in
theorem handshakerref02_Same.calls (k : Nat) (A0 : Option Addr) (c0 : Nat) (l0 : List (S66)) (A1 : Option Addr) (c1 : Nat) (l1 : List (S66)) (r : Bool) (w : World) (hr0 : Kd.C k66 w A0 l0.length l0) (hc0 : l0.length ≤ c0) (hr1 : Kd.C k66 w A1 l1.length l1) (hc1 : l1.length ≤ c1) (h : handshakerref02_Same.f k l0 l1 = some r) :
 Calls Try.prog 27 #[.slice A0 l0.length c0, .slice A1 l1.length c1] w fun e w' => e = .returned (.bool r) ∧ Drawn0 w w' := by
 have hu66 := Try.underlying66
 have HR0 := Aside0.mk hr0
 have HC0 := Aside0.mk hc0
 clear hr0 hc0
 have HR1 := Aside0.mk hr1
 have HC1 := Aside0.mk hc1
 clear hr1 hc1
 have H : (if (l0.length : Int) = (l1.length : Int) then (handshakerref02_Same.l0 k l0 l1 0) else (some false)) = some r := h
 clear h
 by_cases c3 : (l0.length : Int) = (l1.length : Int)
 · rw [if_pos c3] at H
   have c3b0 : ((l0.length : Int) == (l1.length : Int)) = true := beq_iff_eq.mpr c3
   have c3b1 : ((l0.length : Int) != (l1.length : Int)) = false := bne_eq_false_iff_eq.mpr c3
   have c3b2 : (l0.length == l1.length) = true := by first | simpa using c3 | (simp at c3 ⊢; omega)
   clear c3
   have H' := Aside0.mk H
   clear H
   go_enter Try.func27, Try.ntmps27
   go_wp2
   repeat (go_quiet (fail); try go_wp2)
   go_loopg [5] k (fun kq v5 w' => ∃ (x5_1 : Int), v5 = .int .i64 x5_1 ∧ Aside0 (handshakerref02_Same.l0 kq l0 l1 x5_1 = some r) ∧ Aside0 (kq ≤ k) ∧ Drawn0 w w')
   case atStart => exact ⟨(0), (by first | rfl | (simp; done) | (simp [*]; done)), H', ⟨Nat.le_refl _⟩, by repeat (first | exact Drawn0.refl _ | apply Drawn0.step)⟩
   case round =>
    clear H'
    try clear c1
    try clear c2
    try clear p2
    try clear c3
    try clear c3b0
    try clear c3b1
    try clear c3b2
    obtain ⟨x5_1, rfl, HA, HK1, ⟨m1, rfl⟩⟩ := hrel
    cases gk with
    | zero => exact absurd HA.out (by simp [handshakerref02_Same.l0])
    | succ k1 =>
     have H := HA.out
     clear HA
     simp only [handshakerref02_Same.l0] at H
     by_cases c4 : x5_1 < (l0.length : Int)
     · rw [if_pos c4] at H
       have c4b0 : decide (x5_1 < (l0.length : Int)) = true := decide_eq_true c4
       clear c4
       by_cases c5 : 0 ≤ x5_1
       · rw [if_pos c5] at H
         have c5b0 : decide (0 ≤ x5_1) = true := decide_eq_true c5
         clear c5
         by_cases c6 : x5_1 < (l1.length : Int)
         · rw [if_pos c6] at H
           have c6b0 : decide (x5_1 < (l1.length : Int)) = true := decide_eq_true c6
           clear c6
           by_cases c7 : (!(((rd_T66 l0 x5_1).f0) == ((rd_T66 l1 x5_1).f0)) || (!(((rd_T66 l0 x5_1).f1) == ((rd_T66 l1 x5_1).f1)))) = true
           · rw [if_pos c7] at H
             have c7b0 : (!(((rd_T66 l0 x5_1).f0) == ((rd_T66 l1 x5_1).f0)) || (!(((rd_T66 l0 x5_1).f1) == ((rd_T66 l1 x5_1).f1)))) = true := c7
             clear c7
             obtain rfl := Option.some.inj H
             have p416 : 0 ≤ (x5_1 : Int) := oda_
             have q416 : x5_1 < (l0.length : Int) := oda_
             obtain ⟨ad416, e416, hx416_0, hx416_1⟩ := at_T66 HR0.out x5_1 p416 q416
             cases e416
             replace p416 := eq_true p416
             replace q416 := eq_true q416
             have p417 : 0 ≤ (x5_1 : Int) := oda_
             have q417 : x5_1 < (l1.length : Int) := oda_
             obtain ⟨ad417, e417, hx417_0, hx417_1⟩ := at_T66 HR1.out x5_1 p417 q417
             cases e417
             replace p417 := eq_true p417
             replace q417 := eq_true q417
             go_wp2
             repeat (go_quiet (fail); try go_wp2)
             go_ret
             exact ⟨by first | rfl | (simp; done) | (simp [*]; done), by repeat (first | exact Drawn0.refl _ | apply Drawn0.step)⟩
           · rw [if_neg c7] at H
             have c7b0 : (!(((rd_T66 l0 x5_1).f0) == ((rd_T66 l1 x5_1).f0)) || (!(((rd_T66 l0 x5_1).f1) == ((rd_T66 l1 x5_1).f1)))) = false := by simpa using c7
             clear c7
             have H' := Aside0.mk H
             clear H
             have p416 : 0 ≤ (x5_1 : Int) := oda_
             have q416 : x5_1 < (l0.length : Int) := oda_
             obtain ⟨ad416, e416, hx416_0, hx416_1⟩ := at_T66 HR0.out x5_1 p416 q416
             cases e416
             replace p416 := eq_true p416
             replace q416 := eq_true q416
             have p417 : 0 ≤ (x5_1 : Int) := oda_
             have q417 : x5_1 < (l1.length : Int) := oda_
             obtain ⟨ad417, e417, hx417_0, hx417_1⟩ := at_T66 HR1.out x5_1 p417 q417
             cases e417
             replace p417 := eq_true p417
             replace q417 := eq_true q417
             go_wp2
             repeat (go_quiet (fail); try go_wp2)
             go_roundg k1
             case measure => have := HK1.out; omega
             case rel => exact ⟨(wrap64 (x5_1 + 1)), (by first | rfl | (simp; done) | (simp [*]; done)), H', ⟨by have := HK1.out; omega⟩, by repeat (first | exact Drawn0.refl _ | apply Drawn0.step)⟩
         · rw [if_neg c6] at H
           exact absurd H (by simp)
       · rw [if_neg c5] at H
         exact absurd H (by simp)
     · rw [if_neg c4] at H
       have c4b0 : decide (x5_1 < (l0.length : Int)) = false := decide_eq_false c4
       clear c4
       obtain rfl := Option.some.inj H
       go_wp2
       repeat (go_quiet (fail); try go_wp2)
       go_ret
       exact ⟨by first | rfl | (simp; done) | (simp [*]; done), by repeat (first | exact Drawn0.refl _ | apply Drawn0.step)⟩
 · rw [if_neg c3] at H
   have c3b0 : ((l0.length : Int) == (l1.length : Int)) = false := beq_eq_false_iff_ne.mpr c3
   have c3b1 : ((l0.length : Int) != (l1.length : Int)) = true := bne_iff_ne.mpr c3
   have c3b2 : (l0.length == l1.length) = false := by first | simpa using c3 | (simp at c3 ⊢; omega)
   obtain rfl := Option.some.inj H
   go_enter Try.func27, Try.ntmps27
   go_wp2
   repeat (go_quiet (fail); try go_wp2)
   go_ret
   exact ⟨by first | rfl | (simp; done) | (simp [*]; done), by repeat (first | exact Drawn0.refl _ | apply Drawn0.step)⟩

/-! ### wfS61 -/
def wfS61 (x : S61) : Prop := (Lit.int .i64 x.f0).wf = true ∧ (Lit.int .i64 x.f1).wf = true ∧ (Lit.int .i64 x.f2).wf = true

/-! ### wfS25 -/
def wfS25 (x : S25) : Prop := (Lit.int .i64 x.f0).wf = true ∧ (x.f1.length ≤ maxLen ∧ ∀ y ∈ x.f1, wfS61 y)

/-! ### wfS66 -/
def wfS66 (x : S66) : Prop := True ∧ (Lit.int .i64 x.f1).wf = true

end Go.Proofs.Ytihcnbhcemkncaa.B
