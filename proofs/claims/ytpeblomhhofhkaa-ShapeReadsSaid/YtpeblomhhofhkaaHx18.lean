-- PRINTED by print.py (a twelfth state) out of the translation. Not trusted: Lean checks it.
import Derived.Test.YtpeblomhhofhkaaHx0
import Derived.Test.YtpeblomhhofhkaaHx17
namespace Go.Proofs.Ytpeblomhhofhkaa.H
open Go.Proofs.Ytpeblomhhofhkaa.Ho
open Go.RowKit Go.Proofs.YtpeblomhhofhkaaW.PrintWords Go.Proofs.YtpeblomhhofhkaaW.PrintLast Go.Proofs.YtpeblomhhofhkaaW.PrintMore
attribute [local go_sem] max2_int min2_int max_two min_two max_three min_three max_four min_four   -- for this text's walks alone
set_option linter.unusedVariables false
set_option linter.unusedSimpArgs false

/-! ### handshakerref08_Same: function 33 -/
def handshakerref08_Same.l0 : Nat → List (S62) → List (S62) → Int → Option (Bool)
 | 0, _, _, _ => none
 | k + 1, x0, x1, x5 => if x5 < (x0.length : Int) then (if 0 ≤ x5 then (if x5 < (x1.length : Int) then ((handshakerref07_Same.f k ((rd_T62 x0 x5).f3) ((rd_T62 x1 x5).f3)).bind fun t408 => (if t408 = true then (if ((rd_T62 x0 x5).f0) = ((rd_T62 x1 x5).f0) then (if ((rd_T62 x0 x5).f1) = ((rd_T62 x1 x5).f1) then (if ((rd_T62 x0 x5).f2) = ((rd_T62 x1 x5).f2) then (handshakerref08_Same.l0 k x0 x1 (wrap64 (x5 + 1))) else (some false)) else (some false)) else (some false)) else (some false))) else (none)) else (none)) else (some true)
def handshakerref08_Same.f (k : Nat) (l0 : List (S62)) (l1 : List (S62)) : Option (Bool) := if (l0.length : Int) = (l1.length : Int) then (handshakerref08_Same.l0 k l0 l1 0) else (some false)
theorem handshakerref08_Same.mono_l : ∀ k, (∀ y0 y1 y2, LeO (handshakerref08_Same.l0 k y0 y1 y2) (handshakerref08_Same.l0 (k + 1) y0 y1 y2))
 | 0 => fun _ _ _ r h => by simp [handshakerref08_Same.l0] at h
 | k + 1 => by
  have ih0 := handshakerref08_Same.mono_l k
  · intro y0 y1 y2
    unfold handshakerref08_Same.l0
    repeat' first
    | (with_reducible exact ih0 _ _ _)
    | (with_reducible exact handshakerref07_Same.mono _ _ _)
    | (with_reducible exact LeO.refl _)
    | (with_reducible exact LeO.none _)
    | (with_reducible refine LeO.ite ?_ ?_)
    | (with_reducible refine LeO.bind ?_ (fun _ => ?_))
    | exact ih0 _ _ _
    | exact handshakerref07_Same.mono _ _ _
    | exact LeO.none _
    | refine LeO.ite ?_ ?_
    | refine LeO.bind ?_ (fun _ => ?_)
theorem handshakerref08_Same.mono : ∀ a0 a1 k, LeO (handshakerref08_Same.f k a0 a1) (handshakerref08_Same.f (k + 1) a0 a1) := by
 intro a0 a1 k
 have ih0 := handshakerref08_Same.mono_l k
 unfold handshakerref08_Same.f
 repeat' first
  | (with_reducible exact ih0 _ _ _)
  | (with_reducible exact handshakerref07_Same.mono _ _ _)
  | (with_reducible exact LeO.refl _)
  | (with_reducible exact LeO.none _)
  | (with_reducible refine LeO.ite ?_ ?_)
  | (with_reducible refine LeO.bind ?_ (fun _ => ?_))
  | exact ih0 _ _ _
  | exact handshakerref07_Same.mono _ _ _
  | exact LeO.none _
  | refine LeO.ite ?_ ?_
  | refine LeO.bind ?_ (fun _ => ?_)
set_option maxHeartbeats 8000000 in
set_option maxRecDepth 100000 in
theorem handshakerref08_Same.calls (k : Nat) (A0 : Option Addr) (c0 : Nat) (l0 : List (S62)) (A1 : Option Addr) (c1 : Nat) (l1 : List (S62)) (r : Bool) (w : World) (hr0 : Kd.C k62 w A0 l0.length l0) (hc0 : l0.length ≤ c0) (hr1 : Kd.C k62 w A1 l1.length l1) (hc1 : l1.length ≤ c1) (h : handshakerref08_Same.f k l0 l1 = some r) :
 Calls Try.prog 33 #[.slice A0 l0.length c0, .slice A1 l1.length c1] w fun e w' => e = .returned (.bool r) ∧ Drawn0 w w' := by
 have HR0 := ak hr0
 have HC0 := ak hc0
 clear hr0 hc0
 have HR1 := ak hr1
 have HC1 := ak hc1
 clear hr1 hc1
 have H : (if (l0.length : Int) = (l1.length : Int) then (handshakerref08_Same.l0 k l0 l1 0) else (some false)) = some r := h
 clear h
 by_cases c3 : (l0.length : Int) = (l1.length : Int)
 rotate_left
 · rw [if_neg c3] at H
   have c3b0 : ((l0.length : Int) == (l1.length : Int)) = false := beq_eq_false_iff_ne.mpr c3
   have c3b1 : ((l0.length : Int) != (l1.length : Int)) = true := bne_iff_ne.mpr c3
   have c3b2 : (l0.length == l1.length) = false := by first | simpa using c3 | (simp at c3 ⊢; omega)
   obtain rfl := Option.some.inj H
   go_enter Try.func33, Try.ntmps33
   go_wp2
   repeat (go_quiet (fail); try go_wp2)
   go_ret
   exact ⟨by first | rfl | (simp; done) | (simp [*]; done), by repeat (first | exact Drawn0.refl _ | apply Drawn0.step)⟩
 rw [if_pos c3] at H
 have c3b0 : ((l0.length : Int) == (l1.length : Int)) = true := beq_iff_eq.mpr c3
 have c3b1 : ((l0.length : Int) != (l1.length : Int)) = false := bne_eq_false_iff_eq.mpr c3
 have c3b2 : (l0.length == l1.length) = true := by first | simpa using c3 | (simp at c3 ⊢; omega)
 clear c3
 have H' := ak H
 clear H
 go_enter Try.func33, Try.ntmps33
 go_wp2
 repeat (go_quiet (fail); try go_wp2)
 go_loopg [5] k (fun kq v5 w' => ∃ (x5_1 : Int), v5 = .int .i64 x5_1 ∧ Aside0 (handshakerref08_Same.l0 kq l0 l1 x5_1 = some r) ∧ Aside0 (kq ≤ k) ∧ Drawn0 w w')
 case atStart => exact ⟨(0), (by first | rfl | (simp; done) | (simp [*]; done)), H', ⟨Nat.le_refl _⟩, by repeat (first | exact Drawn0.refl _ | apply Drawn0.step)⟩
 case round =>
  clear H'
  try clear c1
  try clear p2
  try clear c3
  try clear c3b0
  try clear c3b1
  try clear c3b2
  obtain ⟨x5_1, rfl, HA, HK1, ⟨m1, rfl⟩⟩ := hrel
  cases gk with
  | zero => exact absurd HA.out (by simp [handshakerref08_Same.l0])
  | succ k1 =>
   have H := HA.out
   clear HA
   simp only [handshakerref08_Same.l0] at H
   by_cases c4 : x5_1 < (l0.length : Int)
   rotate_left
   · rw [if_neg c4] at H
     have c4b0 : decide (x5_1 < (l0.length : Int)) = false := decide_eq_false c4
     clear c4
     obtain rfl := Option.some.inj H
     go_wp2
     repeat (go_quiet (fail); try go_wp2)
     go_ret
     exact ⟨by first | rfl | (simp; done) | (simp [*]; done), by repeat (first | exact Drawn0.refl _ | apply Drawn0.step)⟩
   rw [if_pos c4] at H
   have c4b0 : decide (x5_1 < (l0.length : Int)) = true := decide_eq_true c4
   clear c4
   by_cases c5 : 0 ≤ x5_1
   rotate_left
   · rw [if_neg c5] at H
     exact absurd H (by simp)
   rw [if_pos c5] at H
   have c5b0 : decide (0 ≤ x5_1) = true := decide_eq_true c5
   clear c5
   by_cases c6 : x5_1 < (l1.length : Int)
   rotate_left
   · rw [if_neg c6] at H
     exact absurd H (by simp)
   rw [if_pos c6] at H
   have c6b0 : decide (x5_1 < (l1.length : Int)) = true := decide_eq_true c6
   clear c6
   obtain ⟨t408, A7, H⟩ := bd_ H
   by_cases c8 : t408 = true
   rotate_left
   · replace c8 := Bool.eq_false_iff.mpr c8
     subst c8
     rw [if_neg (show ¬ (false = true) by decide)] at H
     obtain rfl := Option.some.inj H
     have p406 : 0 ≤ (x5_1 : Int) := oda_
     have q406 : x5_1 < (l0.length : Int) := oda_
     obtain ⟨ad406, A406_3, c406_3, e406, hx406_0, hx406_1, hx406_2, hx406_3, hl406_3, hi406_3⟩ := at_T62 HR0.out x5_1 p406 q406
     cases e406
     have HR406_3 := ak hi406_3
     have HC406_3 := ak hl406_3
     clear hi406_3 hl406_3
     replace p406 := eq_true p406
     replace q406 := eq_true q406
     have p407 : 0 ≤ (x5_1 : Int) := oda_
     have q407 : x5_1 < (l1.length : Int) := oda_
     obtain ⟨ad407, A407_3, c407_3, e407, hx407_0, hx407_1, hx407_2, hx407_3, hl407_3, hi407_3⟩ := at_T62 HR1.out x5_1 p407 q407
     cases e407
     have HR407_3 := ak hi407_3
     have HC407_3 := ak hl407_3
     clear hi407_3 hl407_3
     replace p407 := eq_true p407
     replace q407 := eq_true q407
     go_wp2_with (first | (((first | ((with_reducible refine gate_callee (f := 42) rfl ?_); refine goesL_ (some 28) rfl rfl Try.func42 (by kernel_rfl) rfl #[.slice A406_3 ((rd_T62 l0 x5_1).f3).length c406_3, .slice A407_3 ((rd_T62 l1 x5_1).f3).length c407_3] rfl mp_ ?_) | go_at_call 42); (with_reducible refine (handshakerref07_Same.calls k1 _ _ ((rd_T62 l0 x5_1).f3) _ _ ((rd_T62 l1 x5_1).f3) false _ ?side1 ?side2 ?side3 ?side4 A7.out).mono ?_); (case side1 => exact cc_ HR406_3); (case side2 => exact HC406_3.out); (case side3 => exact cc_ HR407_3); (case side4 => exact HC407_3.out); rintro e w' ⟨rfl, ⟨nd, rfl⟩⟩; (try refine ⟨_, rfl, ?_⟩); (try first | exact ⟨rfl, _, World.drewN_drewN _ _ _⟩ | exact ⟨rfl, _, Eq.trans (World.drewN_drewN _ _ _) (congrArg (World.drewN _) (Nat.add_assoc _ _ _))⟩))))
     repeat (go_quiet (first | (((first | ((with_reducible refine gate_callee (f := 42) rfl ?_); refine goesL_ (some 28) rfl rfl Try.func42 (by kernel_rfl) rfl #[.slice A406_3 ((rd_T62 l0 x5_1).f3).length c406_3, .slice A407_3 ((rd_T62 l1 x5_1).f3).length c407_3] rfl mp_ ?_) | go_at_call 42); (with_reducible refine (handshakerref07_Same.calls k1 _ _ ((rd_T62 l0 x5_1).f3) _ _ ((rd_T62 l1 x5_1).f3) false _ ?side1 ?side2 ?side3 ?side4 A7.out).mono ?_); (case side1 => exact cc_ HR406_3); (case side2 => exact HC406_3.out); (case side3 => exact cc_ HR407_3); (case side4 => exact HC407_3.out); rintro e w' ⟨rfl, ⟨nd, rfl⟩⟩; (try refine ⟨_, rfl, ?_⟩); (try first | exact ⟨rfl, _, World.drewN_drewN _ _ _⟩ | exact ⟨rfl, _, Eq.trans (World.drewN_drewN _ _ _) (congrArg (World.drewN _) (Nat.add_assoc _ _ _))⟩)))); try go_wp2_with (first | (((first | ((with_reducible refine gate_callee (f := 42) rfl ?_); refine goesL_ (some 28) rfl rfl Try.func42 (by kernel_rfl) rfl #[.slice A406_3 ((rd_T62 l0 x5_1).f3).length c406_3, .slice A407_3 ((rd_T62 l1 x5_1).f3).length c407_3] rfl mp_ ?_) | go_at_call 42); (with_reducible refine (handshakerref07_Same.calls k1 _ _ ((rd_T62 l0 x5_1).f3) _ _ ((rd_T62 l1 x5_1).f3) false _ ?side1 ?side2 ?side3 ?side4 A7.out).mono ?_); (case side1 => exact cc_ HR406_3); (case side2 => exact HC406_3.out); (case side3 => exact cc_ HR407_3); (case side4 => exact HC407_3.out); rintro e w' ⟨rfl, ⟨nd, rfl⟩⟩; (try refine ⟨_, rfl, ?_⟩); (try first | exact ⟨rfl, _, World.drewN_drewN _ _ _⟩ | exact ⟨rfl, _, Eq.trans (World.drewN_drewN _ _ _) (congrArg (World.drewN _) (Nat.add_assoc _ _ _))⟩)))))
     go_ret
     exact ⟨by first | rfl | (simp; done) | (simp [*]; done), by repeat (first | exact Drawn0.refl _ | apply Drawn0.step)⟩
   subst c8
   rw [if_pos rfl] at H
   by_cases c9 : ((rd_T62 l0 x5_1).f0) = ((rd_T62 l1 x5_1).f0)
   rotate_left
   · rw [if_neg c9] at H
     have c9b0 : (((rd_T62 l0 x5_1).f0) == ((rd_T62 l1 x5_1).f0)) = false := beq_eq_false_iff_ne.mpr c9
     have c9b1 : (((rd_T62 l0 x5_1).f0) != ((rd_T62 l1 x5_1).f0)) = true := bne_iff_ne.mpr c9
     obtain rfl := Option.some.inj H
     have p406 : 0 ≤ (x5_1 : Int) := oda_
     have q406 : x5_1 < (l0.length : Int) := oda_
     obtain ⟨ad406, A406_3, c406_3, e406, hx406_0, hx406_1, hx406_2, hx406_3, hl406_3, hi406_3⟩ := at_T62 HR0.out x5_1 p406 q406
     cases e406
     have HR406_3 := ak hi406_3
     have HC406_3 := ak hl406_3
     clear hi406_3 hl406_3
     replace p406 := eq_true p406
     replace q406 := eq_true q406
     have p407 : 0 ≤ (x5_1 : Int) := oda_
     have q407 : x5_1 < (l1.length : Int) := oda_
     obtain ⟨ad407, A407_3, c407_3, e407, hx407_0, hx407_1, hx407_2, hx407_3, hl407_3, hi407_3⟩ := at_T62 HR1.out x5_1 p407 q407
     cases e407
     have HR407_3 := ak hi407_3
     have HC407_3 := ak hl407_3
     clear hi407_3 hl407_3
     replace p407 := eq_true p407
     replace q407 := eq_true q407
     go_wp2_with (first | (((first | ((with_reducible refine gate_callee (f := 42) rfl ?_); refine goesL_ (some 28) rfl rfl Try.func42 (by kernel_rfl) rfl #[.slice A406_3 ((rd_T62 l0 x5_1).f3).length c406_3, .slice A407_3 ((rd_T62 l1 x5_1).f3).length c407_3] rfl mp_ ?_) | go_at_call 42); (with_reducible refine (handshakerref07_Same.calls k1 _ _ ((rd_T62 l0 x5_1).f3) _ _ ((rd_T62 l1 x5_1).f3) true _ ?side1 ?side2 ?side3 ?side4 A7.out).mono ?_); (case side1 => exact cc_ HR406_3); (case side2 => exact HC406_3.out); (case side3 => exact cc_ HR407_3); (case side4 => exact HC407_3.out); rintro e w' ⟨rfl, ⟨nd, rfl⟩⟩; (try refine ⟨_, rfl, ?_⟩); (try first | exact ⟨rfl, _, World.drewN_drewN _ _ _⟩ | exact ⟨rfl, _, Eq.trans (World.drewN_drewN _ _ _) (congrArg (World.drewN _) (Nat.add_assoc _ _ _))⟩)); have p409 : 0 ≤ (x5_1 : Int) := oda_; have q409 : x5_1 < (l0.length : Int) := oda_; obtain ⟨ad409, A409_3, c409_3, e409, hx409_0, hx409_1, hx409_2, hx409_3, hl409_3, hi409_3⟩ := at_T62 HR0.out x5_1 p409 q409; obtain rfl : ad406 = ad409 := (by injection e409); have HR409_3 := ak hi409_3; have HC409_3 := ak hl409_3; clear hi409_3 hl409_3; replace p409 := eq_true p409; replace q409 := eq_true q409; have ea_ := Option.some.inj (hx406_3.symm.trans hx409_3); injection ea_ with ea_ en_ ec_; subst ea_; subst ec_; clear en_; have p410 : 0 ≤ (x5_1 : Int) := oda_; have q410 : x5_1 < (l1.length : Int) := oda_; obtain ⟨ad410, A410_3, c410_3, e410, hx410_0, hx410_1, hx410_2, hx410_3, hl410_3, hi410_3⟩ := at_T62 HR1.out x5_1 p410 q410; obtain rfl : ad407 = ad410 := (by injection e410); have HR410_3 := ak hi410_3; have HC410_3 := ak hl410_3; clear hi410_3 hl410_3; replace p410 := eq_true p410; replace q410 := eq_true q410; have ea_ := Option.some.inj (hx407_3.symm.trans hx410_3); injection ea_ with ea_ en_ ec_; subst ea_; subst ec_; clear en_))
     repeat (go_quiet (first | (((first | ((with_reducible refine gate_callee (f := 42) rfl ?_); refine goesL_ (some 28) rfl rfl Try.func42 (by kernel_rfl) rfl #[.slice A406_3 ((rd_T62 l0 x5_1).f3).length c406_3, .slice A407_3 ((rd_T62 l1 x5_1).f3).length c407_3] rfl mp_ ?_) | go_at_call 42); (with_reducible refine (handshakerref07_Same.calls k1 _ _ ((rd_T62 l0 x5_1).f3) _ _ ((rd_T62 l1 x5_1).f3) true _ ?side1 ?side2 ?side3 ?side4 A7.out).mono ?_); (case side1 => exact cc_ HR406_3); (case side2 => exact HC406_3.out); (case side3 => exact cc_ HR407_3); (case side4 => exact HC407_3.out); rintro e w' ⟨rfl, ⟨nd, rfl⟩⟩; (try refine ⟨_, rfl, ?_⟩); (try first | exact ⟨rfl, _, World.drewN_drewN _ _ _⟩ | exact ⟨rfl, _, Eq.trans (World.drewN_drewN _ _ _) (congrArg (World.drewN _) (Nat.add_assoc _ _ _))⟩)); have p409 : 0 ≤ (x5_1 : Int) := oda_; have q409 : x5_1 < (l0.length : Int) := oda_; obtain ⟨ad409, A409_3, c409_3, e409, hx409_0, hx409_1, hx409_2, hx409_3, hl409_3, hi409_3⟩ := at_T62 HR0.out x5_1 p409 q409; obtain rfl : ad406 = ad409 := (by injection e409); have HR409_3 := ak hi409_3; have HC409_3 := ak hl409_3; clear hi409_3 hl409_3; replace p409 := eq_true p409; replace q409 := eq_true q409; have ea_ := Option.some.inj (hx406_3.symm.trans hx409_3); injection ea_ with ea_ en_ ec_; subst ea_; subst ec_; clear en_; have p410 : 0 ≤ (x5_1 : Int) := oda_; have q410 : x5_1 < (l1.length : Int) := oda_; obtain ⟨ad410, A410_3, c410_3, e410, hx410_0, hx410_1, hx410_2, hx410_3, hl410_3, hi410_3⟩ := at_T62 HR1.out x5_1 p410 q410; obtain rfl : ad407 = ad410 := (by injection e410); have HR410_3 := ak hi410_3; have HC410_3 := ak hl410_3; clear hi410_3 hl410_3; replace p410 := eq_true p410; replace q410 := eq_true q410; have ea_ := Option.some.inj (hx407_3.symm.trans hx410_3); injection ea_ with ea_ en_ ec_; subst ea_; subst ec_; clear en_)); try go_wp2_with (first | (((first | ((with_reducible refine gate_callee (f := 42) rfl ?_); refine goesL_ (some 28) rfl rfl Try.func42 (by kernel_rfl) rfl #[.slice A406_3 ((rd_T62 l0 x5_1).f3).length c406_3, .slice A407_3 ((rd_T62 l1 x5_1).f3).length c407_3] rfl mp_ ?_) | go_at_call 42); (with_reducible refine (handshakerref07_Same.calls k1 _ _ ((rd_T62 l0 x5_1).f3) _ _ ((rd_T62 l1 x5_1).f3) true _ ?side1 ?side2 ?side3 ?side4 A7.out).mono ?_); (case side1 => exact cc_ HR406_3); (case side2 => exact HC406_3.out); (case side3 => exact cc_ HR407_3); (case side4 => exact HC407_3.out); rintro e w' ⟨rfl, ⟨nd, rfl⟩⟩; (try refine ⟨_, rfl, ?_⟩); (try first | exact ⟨rfl, _, World.drewN_drewN _ _ _⟩ | exact ⟨rfl, _, Eq.trans (World.drewN_drewN _ _ _) (congrArg (World.drewN _) (Nat.add_assoc _ _ _))⟩)); have p409 : 0 ≤ (x5_1 : Int) := oda_; have q409 : x5_1 < (l0.length : Int) := oda_; obtain ⟨ad409, A409_3, c409_3, e409, hx409_0, hx409_1, hx409_2, hx409_3, hl409_3, hi409_3⟩ := at_T62 HR0.out x5_1 p409 q409; obtain rfl : ad406 = ad409 := (by injection e409); have HR409_3 := ak hi409_3; have HC409_3 := ak hl409_3; clear hi409_3 hl409_3; replace p409 := eq_true p409; replace q409 := eq_true q409; have ea_ := Option.some.inj (hx406_3.symm.trans hx409_3); injection ea_ with ea_ en_ ec_; subst ea_; subst ec_; clear en_; have p410 : 0 ≤ (x5_1 : Int) := oda_; have q410 : x5_1 < (l1.length : Int) := oda_; obtain ⟨ad410, A410_3, c410_3, e410, hx410_0, hx410_1, hx410_2, hx410_3, hl410_3, hi410_3⟩ := at_T62 HR1.out x5_1 p410 q410; obtain rfl : ad407 = ad410 := (by injection e410); have HR410_3 := ak hi410_3; have HC410_3 := ak hl410_3; clear hi410_3 hl410_3; replace p410 := eq_true p410; replace q410 := eq_true q410; have ea_ := Option.some.inj (hx407_3.symm.trans hx410_3); injection ea_ with ea_ en_ ec_; subst ea_; subst ec_; clear en_)))
     go_ret
     exact ⟨by first | rfl | (simp; done) | (simp [*]; done), by repeat (first | exact Drawn0.refl _ | apply Drawn0.step)⟩
   rw [if_pos c9] at H
   have c9b0 : (((rd_T62 l0 x5_1).f0) == ((rd_T62 l1 x5_1).f0)) = true := beq_iff_eq.mpr c9
   have c9b1 : (((rd_T62 l0 x5_1).f0) != ((rd_T62 l1 x5_1).f0)) = false := bne_eq_false_iff_eq.mpr c9
   clear c9
   by_cases c10 : ((rd_T62 l0 x5_1).f1) = ((rd_T62 l1 x5_1).f1)
   rotate_left
   · rw [if_neg c10] at H
     have c10b0 : (((rd_T62 l0 x5_1).f1) == ((rd_T62 l1 x5_1).f1)) = false := beq_eq_false_iff_ne.mpr c10
     have c10b1 : (((rd_T62 l0 x5_1).f1) != ((rd_T62 l1 x5_1).f1)) = true := bne_iff_ne.mpr c10
     obtain rfl := Option.some.inj H
     have p406 : 0 ≤ (x5_1 : Int) := oda_
     have q406 : x5_1 < (l0.length : Int) := oda_
     obtain ⟨ad406, A406_3, c406_3, e406, hx406_0, hx406_1, hx406_2, hx406_3, hl406_3, hi406_3⟩ := at_T62 HR0.out x5_1 p406 q406
     cases e406
     have HR406_3 := ak hi406_3
     have HC406_3 := ak hl406_3
     clear hi406_3 hl406_3
     replace p406 := eq_true p406
     replace q406 := eq_true q406
     have p407 : 0 ≤ (x5_1 : Int) := oda_
     have q407 : x5_1 < (l1.length : Int) := oda_
     obtain ⟨ad407, A407_3, c407_3, e407, hx407_0, hx407_1, hx407_2, hx407_3, hl407_3, hi407_3⟩ := at_T62 HR1.out x5_1 p407 q407
     cases e407
     have HR407_3 := ak hi407_3
     have HC407_3 := ak hl407_3
     clear hi407_3 hl407_3
     replace p407 := eq_true p407
     replace q407 := eq_true q407
     go_wp2_with (first | (((first | ((with_reducible refine gate_callee (f := 42) rfl ?_); refine goesL_ (some 28) rfl rfl Try.func42 (by kernel_rfl) rfl #[.slice A406_3 ((rd_T62 l0 x5_1).f3).length c406_3, .slice A407_3 ((rd_T62 l1 x5_1).f3).length c407_3] rfl mp_ ?_) | go_at_call 42); (with_reducible refine (handshakerref07_Same.calls k1 _ _ ((rd_T62 l0 x5_1).f3) _ _ ((rd_T62 l1 x5_1).f3) true _ ?side1 ?side2 ?side3 ?side4 A7.out).mono ?_); (case side1 => exact cc_ HR406_3); (case side2 => exact HC406_3.out); (case side3 => exact cc_ HR407_3); (case side4 => exact HC407_3.out); rintro e w' ⟨rfl, ⟨nd, rfl⟩⟩; (try refine ⟨_, rfl, ?_⟩); (try first | exact ⟨rfl, _, World.drewN_drewN _ _ _⟩ | exact ⟨rfl, _, Eq.trans (World.drewN_drewN _ _ _) (congrArg (World.drewN _) (Nat.add_assoc _ _ _))⟩)); have p409 : 0 ≤ (x5_1 : Int) := oda_; have q409 : x5_1 < (l0.length : Int) := oda_; obtain ⟨ad409, A409_3, c409_3, e409, hx409_0, hx409_1, hx409_2, hx409_3, hl409_3, hi409_3⟩ := at_T62 HR0.out x5_1 p409 q409; obtain rfl : ad406 = ad409 := (by injection e409); have HR409_3 := ak hi409_3; have HC409_3 := ak hl409_3; clear hi409_3 hl409_3; replace p409 := eq_true p409; replace q409 := eq_true q409; have ea_ := Option.some.inj (hx406_3.symm.trans hx409_3); injection ea_ with ea_ en_ ec_; subst ea_; subst ec_; clear en_; have p410 : 0 ≤ (x5_1 : Int) := oda_; have q410 : x5_1 < (l1.length : Int) := oda_; obtain ⟨ad410, A410_3, c410_3, e410, hx410_0, hx410_1, hx410_2, hx410_3, hl410_3, hi410_3⟩ := at_T62 HR1.out x5_1 p410 q410; obtain rfl : ad407 = ad410 := (by injection e410); have HR410_3 := ak hi410_3; have HC410_3 := ak hl410_3; clear hi410_3 hl410_3; replace p410 := eq_true p410; replace q410 := eq_true q410; have ea_ := Option.some.inj (hx407_3.symm.trans hx410_3); injection ea_ with ea_ en_ ec_; subst ea_; subst ec_; clear en_; have p411 : 0 ≤ (x5_1 : Int) := oda_; have q411 : x5_1 < (l0.length : Int) := oda_; obtain ⟨ad411, A411_3, c411_3, e411, hx411_0, hx411_1, hx411_2, hx411_3, hl411_3, hi411_3⟩ := at_T62 HR0.out x5_1 p411 q411; obtain rfl : ad406 = ad411 := (by injection e411); have HR411_3 := ak hi411_3; have HC411_3 := ak hl411_3; clear hi411_3 hl411_3; replace p411 := eq_true p411; replace q411 := eq_true q411; have ea_ := Option.some.inj (hx406_3.symm.trans hx411_3); injection ea_ with ea_ en_ ec_; subst ea_; subst ec_; clear en_; have p412 : 0 ≤ (x5_1 : Int) := oda_; have q412 : x5_1 < (l1.length : Int) := oda_; obtain ⟨ad412, A412_3, c412_3, e412, hx412_0, hx412_1, hx412_2, hx412_3, hl412_3, hi412_3⟩ := at_T62 HR1.out x5_1 p412 q412; obtain rfl : ad407 = ad412 := (by injection e412); have HR412_3 := ak hi412_3; have HC412_3 := ak hl412_3; clear hi412_3 hl412_3; replace p412 := eq_true p412; replace q412 := eq_true q412; have ea_ := Option.some.inj (hx407_3.symm.trans hx412_3); injection ea_ with ea_ en_ ec_; subst ea_; subst ec_; clear en_))
     repeat (go_quiet (first | (((first | ((with_reducible refine gate_callee (f := 42) rfl ?_); refine goesL_ (some 28) rfl rfl Try.func42 (by kernel_rfl) rfl #[.slice A406_3 ((rd_T62 l0 x5_1).f3).length c406_3, .slice A407_3 ((rd_T62 l1 x5_1).f3).length c407_3] rfl mp_ ?_) | go_at_call 42); (with_reducible refine (handshakerref07_Same.calls k1 _ _ ((rd_T62 l0 x5_1).f3) _ _ ((rd_T62 l1 x5_1).f3) true _ ?side1 ?side2 ?side3 ?side4 A7.out).mono ?_); (case side1 => exact cc_ HR406_3); (case side2 => exact HC406_3.out); (case side3 => exact cc_ HR407_3); (case side4 => exact HC407_3.out); rintro e w' ⟨rfl, ⟨nd, rfl⟩⟩; (try refine ⟨_, rfl, ?_⟩); (try first | exact ⟨rfl, _, World.drewN_drewN _ _ _⟩ | exact ⟨rfl, _, Eq.trans (World.drewN_drewN _ _ _) (congrArg (World.drewN _) (Nat.add_assoc _ _ _))⟩)); have p409 : 0 ≤ (x5_1 : Int) := oda_; have q409 : x5_1 < (l0.length : Int) := oda_; obtain ⟨ad409, A409_3, c409_3, e409, hx409_0, hx409_1, hx409_2, hx409_3, hl409_3, hi409_3⟩ := at_T62 HR0.out x5_1 p409 q409; obtain rfl : ad406 = ad409 := (by injection e409); have HR409_3 := ak hi409_3; have HC409_3 := ak hl409_3; clear hi409_3 hl409_3; replace p409 := eq_true p409; replace q409 := eq_true q409; have ea_ := Option.some.inj (hx406_3.symm.trans hx409_3); injection ea_ with ea_ en_ ec_; subst ea_; subst ec_; clear en_; have p410 : 0 ≤ (x5_1 : Int) := oda_; have q410 : x5_1 < (l1.length : Int) := oda_; obtain ⟨ad410, A410_3, c410_3, e410, hx410_0, hx410_1, hx410_2, hx410_3, hl410_3, hi410_3⟩ := at_T62 HR1.out x5_1 p410 q410; obtain rfl : ad407 = ad410 := (by injection e410); have HR410_3 := ak hi410_3; have HC410_3 := ak hl410_3; clear hi410_3 hl410_3; replace p410 := eq_true p410; replace q410 := eq_true q410; have ea_ := Option.some.inj (hx407_3.symm.trans hx410_3); injection ea_ with ea_ en_ ec_; subst ea_; subst ec_; clear en_; have p411 : 0 ≤ (x5_1 : Int) := oda_; have q411 : x5_1 < (l0.length : Int) := oda_; obtain ⟨ad411, A411_3, c411_3, e411, hx411_0, hx411_1, hx411_2, hx411_3, hl411_3, hi411_3⟩ := at_T62 HR0.out x5_1 p411 q411; obtain rfl : ad406 = ad411 := (by injection e411); have HR411_3 := ak hi411_3; have HC411_3 := ak hl411_3; clear hi411_3 hl411_3; replace p411 := eq_true p411; replace q411 := eq_true q411; have ea_ := Option.some.inj (hx406_3.symm.trans hx411_3); injection ea_ with ea_ en_ ec_; subst ea_; subst ec_; clear en_; have p412 : 0 ≤ (x5_1 : Int) := oda_; have q412 : x5_1 < (l1.length : Int) := oda_; obtain ⟨ad412, A412_3, c412_3, e412, hx412_0, hx412_1, hx412_2, hx412_3, hl412_3, hi412_3⟩ := at_T62 HR1.out x5_1 p412 q412; obtain rfl : ad407 = ad412 := (by injection e412); have HR412_3 := ak hi412_3; have HC412_3 := ak hl412_3; clear hi412_3 hl412_3; replace p412 := eq_true p412; replace q412 := eq_true q412; have ea_ := Option.some.inj (hx407_3.symm.trans hx412_3); injection ea_ with ea_ en_ ec_; subst ea_; subst ec_; clear en_)); try go_wp2_with (first | (((first | ((with_reducible refine gate_callee (f := 42) rfl ?_); refine goesL_ (some 28) rfl rfl Try.func42 (by kernel_rfl) rfl #[.slice A406_3 ((rd_T62 l0 x5_1).f3).length c406_3, .slice A407_3 ((rd_T62 l1 x5_1).f3).length c407_3] rfl mp_ ?_) | go_at_call 42); (with_reducible refine (handshakerref07_Same.calls k1 _ _ ((rd_T62 l0 x5_1).f3) _ _ ((rd_T62 l1 x5_1).f3) true _ ?side1 ?side2 ?side3 ?side4 A7.out).mono ?_); (case side1 => exact cc_ HR406_3); (case side2 => exact HC406_3.out); (case side3 => exact cc_ HR407_3); (case side4 => exact HC407_3.out); rintro e w' ⟨rfl, ⟨nd, rfl⟩⟩; (try refine ⟨_, rfl, ?_⟩); (try first | exact ⟨rfl, _, World.drewN_drewN _ _ _⟩ | exact ⟨rfl, _, Eq.trans (World.drewN_drewN _ _ _) (congrArg (World.drewN _) (Nat.add_assoc _ _ _))⟩)); have p409 : 0 ≤ (x5_1 : Int) := oda_; have q409 : x5_1 < (l0.length : Int) := oda_; obtain ⟨ad409, A409_3, c409_3, e409, hx409_0, hx409_1, hx409_2, hx409_3, hl409_3, hi409_3⟩ := at_T62 HR0.out x5_1 p409 q409; obtain rfl : ad406 = ad409 := (by injection e409); have HR409_3 := ak hi409_3; have HC409_3 := ak hl409_3; clear hi409_3 hl409_3; replace p409 := eq_true p409; replace q409 := eq_true q409; have ea_ := Option.some.inj (hx406_3.symm.trans hx409_3); injection ea_ with ea_ en_ ec_; subst ea_; subst ec_; clear en_; have p410 : 0 ≤ (x5_1 : Int) := oda_; have q410 : x5_1 < (l1.length : Int) := oda_; obtain ⟨ad410, A410_3, c410_3, e410, hx410_0, hx410_1, hx410_2, hx410_3, hl410_3, hi410_3⟩ := at_T62 HR1.out x5_1 p410 q410; obtain rfl : ad407 = ad410 := (by injection e410); have HR410_3 := ak hi410_3; have HC410_3 := ak hl410_3; clear hi410_3 hl410_3; replace p410 := eq_true p410; replace q410 := eq_true q410; have ea_ := Option.some.inj (hx407_3.symm.trans hx410_3); injection ea_ with ea_ en_ ec_; subst ea_; subst ec_; clear en_; have p411 : 0 ≤ (x5_1 : Int) := oda_; have q411 : x5_1 < (l0.length : Int) := oda_; obtain ⟨ad411, A411_3, c411_3, e411, hx411_0, hx411_1, hx411_2, hx411_3, hl411_3, hi411_3⟩ := at_T62 HR0.out x5_1 p411 q411; obtain rfl : ad406 = ad411 := (by injection e411); have HR411_3 := ak hi411_3; have HC411_3 := ak hl411_3; clear hi411_3 hl411_3; replace p411 := eq_true p411; replace q411 := eq_true q411; have ea_ := Option.some.inj (hx406_3.symm.trans hx411_3); injection ea_ with ea_ en_ ec_; subst ea_; subst ec_; clear en_; have p412 : 0 ≤ (x5_1 : Int) := oda_; have q412 : x5_1 < (l1.length : Int) := oda_; obtain ⟨ad412, A412_3, c412_3, e412, hx412_0, hx412_1, hx412_2, hx412_3, hl412_3, hi412_3⟩ := at_T62 HR1.out x5_1 p412 q412; obtain rfl : ad407 = ad412 := (by injection e412); have HR412_3 := ak hi412_3; have HC412_3 := ak hl412_3; clear hi412_3 hl412_3; replace p412 := eq_true p412; replace q412 := eq_true q412; have ea_ := Option.some.inj (hx407_3.symm.trans hx412_3); injection ea_ with ea_ en_ ec_; subst ea_; subst ec_; clear en_)))
     go_ret
     exact ⟨by first | rfl | (simp; done) | (simp [*]; done), by repeat (first | exact Drawn0.refl _ | apply Drawn0.step)⟩
   rw [if_pos c10] at H
   have c10b0 : (((rd_T62 l0 x5_1).f1) == ((rd_T62 l1 x5_1).f1)) = true := beq_iff_eq.mpr c10
   have c10b1 : (((rd_T62 l0 x5_1).f1) != ((rd_T62 l1 x5_1).f1)) = false := bne_eq_false_iff_eq.mpr c10
   clear c10
   by_cases c11 : ((rd_T62 l0 x5_1).f2) = ((rd_T62 l1 x5_1).f2)
   rotate_left
   · rw [if_neg c11] at H
     have c11b0 : (((rd_T62 l0 x5_1).f2) == ((rd_T62 l1 x5_1).f2)) = false := beq_eq_false_iff_ne.mpr c11
     have c11b1 : (((rd_T62 l0 x5_1).f2) != ((rd_T62 l1 x5_1).f2)) = true := bne_iff_ne.mpr c11
     obtain rfl := Option.some.inj H
     have p406 : 0 ≤ (x5_1 : Int) := oda_
     have q406 : x5_1 < (l0.length : Int) := oda_
     obtain ⟨ad406, A406_3, c406_3, e406, hx406_0, hx406_1, hx406_2, hx406_3, hl406_3, hi406_3⟩ := at_T62 HR0.out x5_1 p406 q406
     cases e406
     have HR406_3 := ak hi406_3
     have HC406_3 := ak hl406_3
     clear hi406_3 hl406_3
     replace p406 := eq_true p406
     replace q406 := eq_true q406
     have p407 : 0 ≤ (x5_1 : Int) := oda_
     have q407 : x5_1 < (l1.length : Int) := oda_
     obtain ⟨ad407, A407_3, c407_3, e407, hx407_0, hx407_1, hx407_2, hx407_3, hl407_3, hi407_3⟩ := at_T62 HR1.out x5_1 p407 q407
     cases e407
     have HR407_3 := ak hi407_3
     have HC407_3 := ak hl407_3
     clear hi407_3 hl407_3
     replace p407 := eq_true p407
     replace q407 := eq_true q407
     go_wp2_with (first | (((first | ((with_reducible refine gate_callee (f := 42) rfl ?_); refine goesL_ (some 28) rfl rfl Try.func42 (by kernel_rfl) rfl #[.slice A406_3 ((rd_T62 l0 x5_1).f3).length c406_3, .slice A407_3 ((rd_T62 l1 x5_1).f3).length c407_3] rfl mp_ ?_) | go_at_call 42); (with_reducible refine (handshakerref07_Same.calls k1 _ _ ((rd_T62 l0 x5_1).f3) _ _ ((rd_T62 l1 x5_1).f3) true _ ?side1 ?side2 ?side3 ?side4 A7.out).mono ?_); (case side1 => exact cc_ HR406_3); (case side2 => exact HC406_3.out); (case side3 => exact cc_ HR407_3); (case side4 => exact HC407_3.out); rintro e w' ⟨rfl, ⟨nd, rfl⟩⟩; (try refine ⟨_, rfl, ?_⟩); (try first | exact ⟨rfl, _, World.drewN_drewN _ _ _⟩ | exact ⟨rfl, _, Eq.trans (World.drewN_drewN _ _ _) (congrArg (World.drewN _) (Nat.add_assoc _ _ _))⟩)); have p409 : 0 ≤ (x5_1 : Int) := oda_; have q409 : x5_1 < (l0.length : Int) := oda_; obtain ⟨ad409, A409_3, c409_3, e409, hx409_0, hx409_1, hx409_2, hx409_3, hl409_3, hi409_3⟩ := at_T62 HR0.out x5_1 p409 q409; obtain rfl : ad406 = ad409 := (by injection e409); have HR409_3 := ak hi409_3; have HC409_3 := ak hl409_3; clear hi409_3 hl409_3; replace p409 := eq_true p409; replace q409 := eq_true q409; have ea_ := Option.some.inj (hx406_3.symm.trans hx409_3); injection ea_ with ea_ en_ ec_; subst ea_; subst ec_; clear en_; have p410 : 0 ≤ (x5_1 : Int) := oda_; have q410 : x5_1 < (l1.length : Int) := oda_; obtain ⟨ad410, A410_3, c410_3, e410, hx410_0, hx410_1, hx410_2, hx410_3, hl410_3, hi410_3⟩ := at_T62 HR1.out x5_1 p410 q410; obtain rfl : ad407 = ad410 := (by injection e410); have HR410_3 := ak hi410_3; have HC410_3 := ak hl410_3; clear hi410_3 hl410_3; replace p410 := eq_true p410; replace q410 := eq_true q410; have ea_ := Option.some.inj (hx407_3.symm.trans hx410_3); injection ea_ with ea_ en_ ec_; subst ea_; subst ec_; clear en_; have p411 : 0 ≤ (x5_1 : Int) := oda_; have q411 : x5_1 < (l0.length : Int) := oda_; obtain ⟨ad411, A411_3, c411_3, e411, hx411_0, hx411_1, hx411_2, hx411_3, hl411_3, hi411_3⟩ := at_T62 HR0.out x5_1 p411 q411; obtain rfl : ad406 = ad411 := (by injection e411); have HR411_3 := ak hi411_3; have HC411_3 := ak hl411_3; clear hi411_3 hl411_3; replace p411 := eq_true p411; replace q411 := eq_true q411; have ea_ := Option.some.inj (hx406_3.symm.trans hx411_3); injection ea_ with ea_ en_ ec_; subst ea_; subst ec_; clear en_; have p412 : 0 ≤ (x5_1 : Int) := oda_; have q412 : x5_1 < (l1.length : Int) := oda_; obtain ⟨ad412, A412_3, c412_3, e412, hx412_0, hx412_1, hx412_2, hx412_3, hl412_3, hi412_3⟩ := at_T62 HR1.out x5_1 p412 q412; obtain rfl : ad407 = ad412 := (by injection e412); have HR412_3 := ak hi412_3; have HC412_3 := ak hl412_3; clear hi412_3 hl412_3; replace p412 := eq_true p412; replace q412 := eq_true q412; have ea_ := Option.some.inj (hx407_3.symm.trans hx412_3); injection ea_ with ea_ en_ ec_; subst ea_; subst ec_; clear en_; have p413 : 0 ≤ (x5_1 : Int) := oda_; have q413 : x5_1 < (l0.length : Int) := oda_; obtain ⟨ad413, A413_3, c413_3, e413, hx413_0, hx413_1, hx413_2, hx413_3, hl413_3, hi413_3⟩ := at_T62 HR0.out x5_1 p413 q413; obtain rfl : ad406 = ad413 := (by injection e413); have HR413_3 := ak hi413_3; have HC413_3 := ak hl413_3; clear hi413_3 hl413_3; replace p413 := eq_true p413; replace q413 := eq_true q413; have ea_ := Option.some.inj (hx406_3.symm.trans hx413_3); injection ea_ with ea_ en_ ec_; subst ea_; subst ec_; clear en_; have p414 : 0 ≤ (x5_1 : Int) := oda_; have q414 : x5_1 < (l1.length : Int) := oda_; obtain ⟨ad414, A414_3, c414_3, e414, hx414_0, hx414_1, hx414_2, hx414_3, hl414_3, hi414_3⟩ := at_T62 HR1.out x5_1 p414 q414; obtain rfl : ad407 = ad414 := (by injection e414); have HR414_3 := ak hi414_3; have HC414_3 := ak hl414_3; clear hi414_3 hl414_3; replace p414 := eq_true p414; replace q414 := eq_true q414; have ea_ := Option.some.inj (hx407_3.symm.trans hx414_3); injection ea_ with ea_ en_ ec_; subst ea_; subst ec_; clear en_))
     repeat (go_quiet (first | (((first | ((with_reducible refine gate_callee (f := 42) rfl ?_); refine goesL_ (some 28) rfl rfl Try.func42 (by kernel_rfl) rfl #[.slice A406_3 ((rd_T62 l0 x5_1).f3).length c406_3, .slice A407_3 ((rd_T62 l1 x5_1).f3).length c407_3] rfl mp_ ?_) | go_at_call 42); (with_reducible refine (handshakerref07_Same.calls k1 _ _ ((rd_T62 l0 x5_1).f3) _ _ ((rd_T62 l1 x5_1).f3) true _ ?side1 ?side2 ?side3 ?side4 A7.out).mono ?_); (case side1 => exact cc_ HR406_3); (case side2 => exact HC406_3.out); (case side3 => exact cc_ HR407_3); (case side4 => exact HC407_3.out); rintro e w' ⟨rfl, ⟨nd, rfl⟩⟩; (try refine ⟨_, rfl, ?_⟩); (try first | exact ⟨rfl, _, World.drewN_drewN _ _ _⟩ | exact ⟨rfl, _, Eq.trans (World.drewN_drewN _ _ _) (congrArg (World.drewN _) (Nat.add_assoc _ _ _))⟩)); have p409 : 0 ≤ (x5_1 : Int) := oda_; have q409 : x5_1 < (l0.length : Int) := oda_; obtain ⟨ad409, A409_3, c409_3, e409, hx409_0, hx409_1, hx409_2, hx409_3, hl409_3, hi409_3⟩ := at_T62 HR0.out x5_1 p409 q409; obtain rfl : ad406 = ad409 := (by injection e409); have HR409_3 := ak hi409_3; have HC409_3 := ak hl409_3; clear hi409_3 hl409_3; replace p409 := eq_true p409; replace q409 := eq_true q409; have ea_ := Option.some.inj (hx406_3.symm.trans hx409_3); injection ea_ with ea_ en_ ec_; subst ea_; subst ec_; clear en_; have p410 : 0 ≤ (x5_1 : Int) := oda_; have q410 : x5_1 < (l1.length : Int) := oda_; obtain ⟨ad410, A410_3, c410_3, e410, hx410_0, hx410_1, hx410_2, hx410_3, hl410_3, hi410_3⟩ := at_T62 HR1.out x5_1 p410 q410; obtain rfl : ad407 = ad410 := (by injection e410); have HR410_3 := ak hi410_3; have HC410_3 := ak hl410_3; clear hi410_3 hl410_3; replace p410 := eq_true p410; replace q410 := eq_true q410; have ea_ := Option.some.inj (hx407_3.symm.trans hx410_3); injection ea_ with ea_ en_ ec_; subst ea_; subst ec_; clear en_; have p411 : 0 ≤ (x5_1 : Int) := oda_; have q411 : x5_1 < (l0.length : Int) := oda_; obtain ⟨ad411, A411_3, c411_3, e411, hx411_0, hx411_1, hx411_2, hx411_3, hl411_3, hi411_3⟩ := at_T62 HR0.out x5_1 p411 q411; obtain rfl : ad406 = ad411 := (by injection e411); have HR411_3 := ak hi411_3; have HC411_3 := ak hl411_3; clear hi411_3 hl411_3; replace p411 := eq_true p411; replace q411 := eq_true q411; have ea_ := Option.some.inj (hx406_3.symm.trans hx411_3); injection ea_ with ea_ en_ ec_; subst ea_; subst ec_; clear en_; have p412 : 0 ≤ (x5_1 : Int) := oda_; have q412 : x5_1 < (l1.length : Int) := oda_; obtain ⟨ad412, A412_3, c412_3, e412, hx412_0, hx412_1, hx412_2, hx412_3, hl412_3, hi412_3⟩ := at_T62 HR1.out x5_1 p412 q412; obtain rfl : ad407 = ad412 := (by injection e412); have HR412_3 := ak hi412_3; have HC412_3 := ak hl412_3; clear hi412_3 hl412_3; replace p412 := eq_true p412; replace q412 := eq_true q412; have ea_ := Option.some.inj (hx407_3.symm.trans hx412_3); injection ea_ with ea_ en_ ec_; subst ea_; subst ec_; clear en_; have p413 : 0 ≤ (x5_1 : Int) := oda_; have q413 : x5_1 < (l0.length : Int) := oda_; obtain ⟨ad413, A413_3, c413_3, e413, hx413_0, hx413_1, hx413_2, hx413_3, hl413_3, hi413_3⟩ := at_T62 HR0.out x5_1 p413 q413; obtain rfl : ad406 = ad413 := (by injection e413); have HR413_3 := ak hi413_3; have HC413_3 := ak hl413_3; clear hi413_3 hl413_3; replace p413 := eq_true p413; replace q413 := eq_true q413; have ea_ := Option.some.inj (hx406_3.symm.trans hx413_3); injection ea_ with ea_ en_ ec_; subst ea_; subst ec_; clear en_; have p414 : 0 ≤ (x5_1 : Int) := oda_; have q414 : x5_1 < (l1.length : Int) := oda_; obtain ⟨ad414, A414_3, c414_3, e414, hx414_0, hx414_1, hx414_2, hx414_3, hl414_3, hi414_3⟩ := at_T62 HR1.out x5_1 p414 q414; obtain rfl : ad407 = ad414 := (by injection e414); have HR414_3 := ak hi414_3; have HC414_3 := ak hl414_3; clear hi414_3 hl414_3; replace p414 := eq_true p414; replace q414 := eq_true q414; have ea_ := Option.some.inj (hx407_3.symm.trans hx414_3); injection ea_ with ea_ en_ ec_; subst ea_; subst ec_; clear en_)); try go_wp2_with (first | (((first | ((with_reducible refine gate_callee (f := 42) rfl ?_); refine goesL_ (some 28) rfl rfl Try.func42 (by kernel_rfl) rfl #[.slice A406_3 ((rd_T62 l0 x5_1).f3).length c406_3, .slice A407_3 ((rd_T62 l1 x5_1).f3).length c407_3] rfl mp_ ?_) | go_at_call 42); (with_reducible refine (handshakerref07_Same.calls k1 _ _ ((rd_T62 l0 x5_1).f3) _ _ ((rd_T62 l1 x5_1).f3) true _ ?side1 ?side2 ?side3 ?side4 A7.out).mono ?_); (case side1 => exact cc_ HR406_3); (case side2 => exact HC406_3.out); (case side3 => exact cc_ HR407_3); (case side4 => exact HC407_3.out); rintro e w' ⟨rfl, ⟨nd, rfl⟩⟩; (try refine ⟨_, rfl, ?_⟩); (try first | exact ⟨rfl, _, World.drewN_drewN _ _ _⟩ | exact ⟨rfl, _, Eq.trans (World.drewN_drewN _ _ _) (congrArg (World.drewN _) (Nat.add_assoc _ _ _))⟩)); have p409 : 0 ≤ (x5_1 : Int) := oda_; have q409 : x5_1 < (l0.length : Int) := oda_; obtain ⟨ad409, A409_3, c409_3, e409, hx409_0, hx409_1, hx409_2, hx409_3, hl409_3, hi409_3⟩ := at_T62 HR0.out x5_1 p409 q409; obtain rfl : ad406 = ad409 := (by injection e409); have HR409_3 := ak hi409_3; have HC409_3 := ak hl409_3; clear hi409_3 hl409_3; replace p409 := eq_true p409; replace q409 := eq_true q409; have ea_ := Option.some.inj (hx406_3.symm.trans hx409_3); injection ea_ with ea_ en_ ec_; subst ea_; subst ec_; clear en_; have p410 : 0 ≤ (x5_1 : Int) := oda_; have q410 : x5_1 < (l1.length : Int) := oda_; obtain ⟨ad410, A410_3, c410_3, e410, hx410_0, hx410_1, hx410_2, hx410_3, hl410_3, hi410_3⟩ := at_T62 HR1.out x5_1 p410 q410; obtain rfl : ad407 = ad410 := (by injection e410); have HR410_3 := ak hi410_3; have HC410_3 := ak hl410_3; clear hi410_3 hl410_3; replace p410 := eq_true p410; replace q410 := eq_true q410; have ea_ := Option.some.inj (hx407_3.symm.trans hx410_3); injection ea_ with ea_ en_ ec_; subst ea_; subst ec_; clear en_; have p411 : 0 ≤ (x5_1 : Int) := oda_; have q411 : x5_1 < (l0.length : Int) := oda_; obtain ⟨ad411, A411_3, c411_3, e411, hx411_0, hx411_1, hx411_2, hx411_3, hl411_3, hi411_3⟩ := at_T62 HR0.out x5_1 p411 q411; obtain rfl : ad406 = ad411 := (by injection e411); have HR411_3 := ak hi411_3; have HC411_3 := ak hl411_3; clear hi411_3 hl411_3; replace p411 := eq_true p411; replace q411 := eq_true q411; have ea_ := Option.some.inj (hx406_3.symm.trans hx411_3); injection ea_ with ea_ en_ ec_; subst ea_; subst ec_; clear en_; have p412 : 0 ≤ (x5_1 : Int) := oda_; have q412 : x5_1 < (l1.length : Int) := oda_; obtain ⟨ad412, A412_3, c412_3, e412, hx412_0, hx412_1, hx412_2, hx412_3, hl412_3, hi412_3⟩ := at_T62 HR1.out x5_1 p412 q412; obtain rfl : ad407 = ad412 := (by injection e412); have HR412_3 := ak hi412_3; have HC412_3 := ak hl412_3; clear hi412_3 hl412_3; replace p412 := eq_true p412; replace q412 := eq_true q412; have ea_ := Option.some.inj (hx407_3.symm.trans hx412_3); injection ea_ with ea_ en_ ec_; subst ea_; subst ec_; clear en_; have p413 : 0 ≤ (x5_1 : Int) := oda_; have q413 : x5_1 < (l0.length : Int) := oda_; obtain ⟨ad413, A413_3, c413_3, e413, hx413_0, hx413_1, hx413_2, hx413_3, hl413_3, hi413_3⟩ := at_T62 HR0.out x5_1 p413 q413; obtain rfl : ad406 = ad413 := (by injection e413); have HR413_3 := ak hi413_3; have HC413_3 := ak hl413_3; clear hi413_3 hl413_3; replace p413 := eq_true p413; replace q413 := eq_true q413; have ea_ := Option.some.inj (hx406_3.symm.trans hx413_3); injection ea_ with ea_ en_ ec_; subst ea_; subst ec_; clear en_; have p414 : 0 ≤ (x5_1 : Int) := oda_; have q414 : x5_1 < (l1.length : Int) := oda_; obtain ⟨ad414, A414_3, c414_3, e414, hx414_0, hx414_1, hx414_2, hx414_3, hl414_3, hi414_3⟩ := at_T62 HR1.out x5_1 p414 q414; obtain rfl : ad407 = ad414 := (by injection e414); have HR414_3 := ak hi414_3; have HC414_3 := ak hl414_3; clear hi414_3 hl414_3; replace p414 := eq_true p414; replace q414 := eq_true q414; have ea_ := Option.some.inj (hx407_3.symm.trans hx414_3); injection ea_ with ea_ en_ ec_; subst ea_; subst ec_; clear en_)))
     go_ret
     exact ⟨by first | rfl | (simp; done) | (simp [*]; done), by repeat (first | exact Drawn0.refl _ | apply Drawn0.step)⟩
   rw [if_pos c11] at H
   have c11b0 : (((rd_T62 l0 x5_1).f2) == ((rd_T62 l1 x5_1).f2)) = true := beq_iff_eq.mpr c11
   have c11b1 : (((rd_T62 l0 x5_1).f2) != ((rd_T62 l1 x5_1).f2)) = false := bne_eq_false_iff_eq.mpr c11
   clear c11
   have H' := ak H
   clear H
   have p406 : 0 ≤ (x5_1 : Int) := oda_
   have q406 : x5_1 < (l0.length : Int) := oda_
   obtain ⟨ad406, A406_3, c406_3, e406, hx406_0, hx406_1, hx406_2, hx406_3, hl406_3, hi406_3⟩ := at_T62 HR0.out x5_1 p406 q406
   cases e406
   have HR406_3 := ak hi406_3
   have HC406_3 := ak hl406_3
   clear hi406_3 hl406_3
   replace p406 := eq_true p406
   replace q406 := eq_true q406
   have p407 : 0 ≤ (x5_1 : Int) := oda_
   have q407 : x5_1 < (l1.length : Int) := oda_
   obtain ⟨ad407, A407_3, c407_3, e407, hx407_0, hx407_1, hx407_2, hx407_3, hl407_3, hi407_3⟩ := at_T62 HR1.out x5_1 p407 q407
   cases e407
   have HR407_3 := ak hi407_3
   have HC407_3 := ak hl407_3
   clear hi407_3 hl407_3
   replace p407 := eq_true p407
   replace q407 := eq_true q407
   go_wp2_with (first | (((first | ((with_reducible refine gate_callee (f := 42) rfl ?_); refine goesL_ (some 28) rfl rfl Try.func42 (by kernel_rfl) rfl #[.slice A406_3 ((rd_T62 l0 x5_1).f3).length c406_3, .slice A407_3 ((rd_T62 l1 x5_1).f3).length c407_3] rfl mp_ ?_) | go_at_call 42); (with_reducible refine (handshakerref07_Same.calls k1 _ _ ((rd_T62 l0 x5_1).f3) _ _ ((rd_T62 l1 x5_1).f3) true _ ?side1 ?side2 ?side3 ?side4 A7.out).mono ?_); (case side1 => exact cc_ HR406_3); (case side2 => exact HC406_3.out); (case side3 => exact cc_ HR407_3); (case side4 => exact HC407_3.out); rintro e w' ⟨rfl, ⟨nd, rfl⟩⟩; (try refine ⟨_, rfl, ?_⟩); (try first | exact ⟨rfl, _, World.drewN_drewN _ _ _⟩ | exact ⟨rfl, _, Eq.trans (World.drewN_drewN _ _ _) (congrArg (World.drewN _) (Nat.add_assoc _ _ _))⟩)); have p409 : 0 ≤ (x5_1 : Int) := oda_; have q409 : x5_1 < (l0.length : Int) := oda_; obtain ⟨ad409, A409_3, c409_3, e409, hx409_0, hx409_1, hx409_2, hx409_3, hl409_3, hi409_3⟩ := at_T62 HR0.out x5_1 p409 q409; obtain rfl : ad406 = ad409 := (by injection e409); have HR409_3 := ak hi409_3; have HC409_3 := ak hl409_3; clear hi409_3 hl409_3; replace p409 := eq_true p409; replace q409 := eq_true q409; have ea_ := Option.some.inj (hx406_3.symm.trans hx409_3); injection ea_ with ea_ en_ ec_; subst ea_; subst ec_; clear en_; have p410 : 0 ≤ (x5_1 : Int) := oda_; have q410 : x5_1 < (l1.length : Int) := oda_; obtain ⟨ad410, A410_3, c410_3, e410, hx410_0, hx410_1, hx410_2, hx410_3, hl410_3, hi410_3⟩ := at_T62 HR1.out x5_1 p410 q410; obtain rfl : ad407 = ad410 := (by injection e410); have HR410_3 := ak hi410_3; have HC410_3 := ak hl410_3; clear hi410_3 hl410_3; replace p410 := eq_true p410; replace q410 := eq_true q410; have ea_ := Option.some.inj (hx407_3.symm.trans hx410_3); injection ea_ with ea_ en_ ec_; subst ea_; subst ec_; clear en_; have p411 : 0 ≤ (x5_1 : Int) := oda_; have q411 : x5_1 < (l0.length : Int) := oda_; obtain ⟨ad411, A411_3, c411_3, e411, hx411_0, hx411_1, hx411_2, hx411_3, hl411_3, hi411_3⟩ := at_T62 HR0.out x5_1 p411 q411; obtain rfl : ad406 = ad411 := (by injection e411); have HR411_3 := ak hi411_3; have HC411_3 := ak hl411_3; clear hi411_3 hl411_3; replace p411 := eq_true p411; replace q411 := eq_true q411; have ea_ := Option.some.inj (hx406_3.symm.trans hx411_3); injection ea_ with ea_ en_ ec_; subst ea_; subst ec_; clear en_; have p412 : 0 ≤ (x5_1 : Int) := oda_; have q412 : x5_1 < (l1.length : Int) := oda_; obtain ⟨ad412, A412_3, c412_3, e412, hx412_0, hx412_1, hx412_2, hx412_3, hl412_3, hi412_3⟩ := at_T62 HR1.out x5_1 p412 q412; obtain rfl : ad407 = ad412 := (by injection e412); have HR412_3 := ak hi412_3; have HC412_3 := ak hl412_3; clear hi412_3 hl412_3; replace p412 := eq_true p412; replace q412 := eq_true q412; have ea_ := Option.some.inj (hx407_3.symm.trans hx412_3); injection ea_ with ea_ en_ ec_; subst ea_; subst ec_; clear en_; have p413 : 0 ≤ (x5_1 : Int) := oda_; have q413 : x5_1 < (l0.length : Int) := oda_; obtain ⟨ad413, A413_3, c413_3, e413, hx413_0, hx413_1, hx413_2, hx413_3, hl413_3, hi413_3⟩ := at_T62 HR0.out x5_1 p413 q413; obtain rfl : ad406 = ad413 := (by injection e413); have HR413_3 := ak hi413_3; have HC413_3 := ak hl413_3; clear hi413_3 hl413_3; replace p413 := eq_true p413; replace q413 := eq_true q413; have ea_ := Option.some.inj (hx406_3.symm.trans hx413_3); injection ea_ with ea_ en_ ec_; subst ea_; subst ec_; clear en_; have p414 : 0 ≤ (x5_1 : Int) := oda_; have q414 : x5_1 < (l1.length : Int) := oda_; obtain ⟨ad414, A414_3, c414_3, e414, hx414_0, hx414_1, hx414_2, hx414_3, hl414_3, hi414_3⟩ := at_T62 HR1.out x5_1 p414 q414; obtain rfl : ad407 = ad414 := (by injection e414); have HR414_3 := ak hi414_3; have HC414_3 := ak hl414_3; clear hi414_3 hl414_3; replace p414 := eq_true p414; replace q414 := eq_true q414; have ea_ := Option.some.inj (hx407_3.symm.trans hx414_3); injection ea_ with ea_ en_ ec_; subst ea_; subst ec_; clear en_))
   repeat (go_quiet (first | (((first | ((with_reducible refine gate_callee (f := 42) rfl ?_); refine goesL_ (some 28) rfl rfl Try.func42 (by kernel_rfl) rfl #[.slice A406_3 ((rd_T62 l0 x5_1).f3).length c406_3, .slice A407_3 ((rd_T62 l1 x5_1).f3).length c407_3] rfl mp_ ?_) | go_at_call 42); (with_reducible refine (handshakerref07_Same.calls k1 _ _ ((rd_T62 l0 x5_1).f3) _ _ ((rd_T62 l1 x5_1).f3) true _ ?side1 ?side2 ?side3 ?side4 A7.out).mono ?_); (case side1 => exact cc_ HR406_3); (case side2 => exact HC406_3.out); (case side3 => exact cc_ HR407_3); (case side4 => exact HC407_3.out); rintro e w' ⟨rfl, ⟨nd, rfl⟩⟩; (try refine ⟨_, rfl, ?_⟩); (try first | exact ⟨rfl, _, World.drewN_drewN _ _ _⟩ | exact ⟨rfl, _, Eq.trans (World.drewN_drewN _ _ _) (congrArg (World.drewN _) (Nat.add_assoc _ _ _))⟩)); have p409 : 0 ≤ (x5_1 : Int) := oda_; have q409 : x5_1 < (l0.length : Int) := oda_; obtain ⟨ad409, A409_3, c409_3, e409, hx409_0, hx409_1, hx409_2, hx409_3, hl409_3, hi409_3⟩ := at_T62 HR0.out x5_1 p409 q409; obtain rfl : ad406 = ad409 := (by injection e409); have HR409_3 := ak hi409_3; have HC409_3 := ak hl409_3; clear hi409_3 hl409_3; replace p409 := eq_true p409; replace q409 := eq_true q409; have ea_ := Option.some.inj (hx406_3.symm.trans hx409_3); injection ea_ with ea_ en_ ec_; subst ea_; subst ec_; clear en_; have p410 : 0 ≤ (x5_1 : Int) := oda_; have q410 : x5_1 < (l1.length : Int) := oda_; obtain ⟨ad410, A410_3, c410_3, e410, hx410_0, hx410_1, hx410_2, hx410_3, hl410_3, hi410_3⟩ := at_T62 HR1.out x5_1 p410 q410; obtain rfl : ad407 = ad410 := (by injection e410); have HR410_3 := ak hi410_3; have HC410_3 := ak hl410_3; clear hi410_3 hl410_3; replace p410 := eq_true p410; replace q410 := eq_true q410; have ea_ := Option.some.inj (hx407_3.symm.trans hx410_3); injection ea_ with ea_ en_ ec_; subst ea_; subst ec_; clear en_; have p411 : 0 ≤ (x5_1 : Int) := oda_; have q411 : x5_1 < (l0.length : Int) := oda_; obtain ⟨ad411, A411_3, c411_3, e411, hx411_0, hx411_1, hx411_2, hx411_3, hl411_3, hi411_3⟩ := at_T62 HR0.out x5_1 p411 q411; obtain rfl : ad406 = ad411 := (by injection e411); have HR411_3 := ak hi411_3; have HC411_3 := ak hl411_3; clear hi411_3 hl411_3; replace p411 := eq_true p411; replace q411 := eq_true q411; have ea_ := Option.some.inj (hx406_3.symm.trans hx411_3); injection ea_ with ea_ en_ ec_; subst ea_; subst ec_; clear en_; have p412 : 0 ≤ (x5_1 : Int) := oda_; have q412 : x5_1 < (l1.length : Int) := oda_; obtain ⟨ad412, A412_3, c412_3, e412, hx412_0, hx412_1, hx412_2, hx412_3, hl412_3, hi412_3⟩ := at_T62 HR1.out x5_1 p412 q412; obtain rfl : ad407 = ad412 := (by injection e412); have HR412_3 := ak hi412_3; have HC412_3 := ak hl412_3; clear hi412_3 hl412_3; replace p412 := eq_true p412; replace q412 := eq_true q412; have ea_ := Option.some.inj (hx407_3.symm.trans hx412_3); injection ea_ with ea_ en_ ec_; subst ea_; subst ec_; clear en_; have p413 : 0 ≤ (x5_1 : Int) := oda_; have q413 : x5_1 < (l0.length : Int) := oda_; obtain ⟨ad413, A413_3, c413_3, e413, hx413_0, hx413_1, hx413_2, hx413_3, hl413_3, hi413_3⟩ := at_T62 HR0.out x5_1 p413 q413; obtain rfl : ad406 = ad413 := (by injection e413); have HR413_3 := ak hi413_3; have HC413_3 := ak hl413_3; clear hi413_3 hl413_3; replace p413 := eq_true p413; replace q413 := eq_true q413; have ea_ := Option.some.inj (hx406_3.symm.trans hx413_3); injection ea_ with ea_ en_ ec_; subst ea_; subst ec_; clear en_; have p414 : 0 ≤ (x5_1 : Int) := oda_; have q414 : x5_1 < (l1.length : Int) := oda_; obtain ⟨ad414, A414_3, c414_3, e414, hx414_0, hx414_1, hx414_2, hx414_3, hl414_3, hi414_3⟩ := at_T62 HR1.out x5_1 p414 q414; obtain rfl : ad407 = ad414 := (by injection e414); have HR414_3 := ak hi414_3; have HC414_3 := ak hl414_3; clear hi414_3 hl414_3; replace p414 := eq_true p414; replace q414 := eq_true q414; have ea_ := Option.some.inj (hx407_3.symm.trans hx414_3); injection ea_ with ea_ en_ ec_; subst ea_; subst ec_; clear en_)); try go_wp2_with (first | (((first | ((with_reducible refine gate_callee (f := 42) rfl ?_); refine goesL_ (some 28) rfl rfl Try.func42 (by kernel_rfl) rfl #[.slice A406_3 ((rd_T62 l0 x5_1).f3).length c406_3, .slice A407_3 ((rd_T62 l1 x5_1).f3).length c407_3] rfl mp_ ?_) | go_at_call 42); (with_reducible refine (handshakerref07_Same.calls k1 _ _ ((rd_T62 l0 x5_1).f3) _ _ ((rd_T62 l1 x5_1).f3) true _ ?side1 ?side2 ?side3 ?side4 A7.out).mono ?_); (case side1 => exact cc_ HR406_3); (case side2 => exact HC406_3.out); (case side3 => exact cc_ HR407_3); (case side4 => exact HC407_3.out); rintro e w' ⟨rfl, ⟨nd, rfl⟩⟩; (try refine ⟨_, rfl, ?_⟩); (try first | exact ⟨rfl, _, World.drewN_drewN _ _ _⟩ | exact ⟨rfl, _, Eq.trans (World.drewN_drewN _ _ _) (congrArg (World.drewN _) (Nat.add_assoc _ _ _))⟩)); have p409 : 0 ≤ (x5_1 : Int) := oda_; have q409 : x5_1 < (l0.length : Int) := oda_; obtain ⟨ad409, A409_3, c409_3, e409, hx409_0, hx409_1, hx409_2, hx409_3, hl409_3, hi409_3⟩ := at_T62 HR0.out x5_1 p409 q409; obtain rfl : ad406 = ad409 := (by injection e409); have HR409_3 := ak hi409_3; have HC409_3 := ak hl409_3; clear hi409_3 hl409_3; replace p409 := eq_true p409; replace q409 := eq_true q409; have ea_ := Option.some.inj (hx406_3.symm.trans hx409_3); injection ea_ with ea_ en_ ec_; subst ea_; subst ec_; clear en_; have p410 : 0 ≤ (x5_1 : Int) := oda_; have q410 : x5_1 < (l1.length : Int) := oda_; obtain ⟨ad410, A410_3, c410_3, e410, hx410_0, hx410_1, hx410_2, hx410_3, hl410_3, hi410_3⟩ := at_T62 HR1.out x5_1 p410 q410; obtain rfl : ad407 = ad410 := (by injection e410); have HR410_3 := ak hi410_3; have HC410_3 := ak hl410_3; clear hi410_3 hl410_3; replace p410 := eq_true p410; replace q410 := eq_true q410; have ea_ := Option.some.inj (hx407_3.symm.trans hx410_3); injection ea_ with ea_ en_ ec_; subst ea_; subst ec_; clear en_; have p411 : 0 ≤ (x5_1 : Int) := oda_; have q411 : x5_1 < (l0.length : Int) := oda_; obtain ⟨ad411, A411_3, c411_3, e411, hx411_0, hx411_1, hx411_2, hx411_3, hl411_3, hi411_3⟩ := at_T62 HR0.out x5_1 p411 q411; obtain rfl : ad406 = ad411 := (by injection e411); have HR411_3 := ak hi411_3; have HC411_3 := ak hl411_3; clear hi411_3 hl411_3; replace p411 := eq_true p411; replace q411 := eq_true q411; have ea_ := Option.some.inj (hx406_3.symm.trans hx411_3); injection ea_ with ea_ en_ ec_; subst ea_; subst ec_; clear en_; have p412 : 0 ≤ (x5_1 : Int) := oda_; have q412 : x5_1 < (l1.length : Int) := oda_; obtain ⟨ad412, A412_3, c412_3, e412, hx412_0, hx412_1, hx412_2, hx412_3, hl412_3, hi412_3⟩ := at_T62 HR1.out x5_1 p412 q412; obtain rfl : ad407 = ad412 := (by injection e412); have HR412_3 := ak hi412_3; have HC412_3 := ak hl412_3; clear hi412_3 hl412_3; replace p412 := eq_true p412; replace q412 := eq_true q412; have ea_ := Option.some.inj (hx407_3.symm.trans hx412_3); injection ea_ with ea_ en_ ec_; subst ea_; subst ec_; clear en_; have p413 : 0 ≤ (x5_1 : Int) := oda_; have q413 : x5_1 < (l0.length : Int) := oda_; obtain ⟨ad413, A413_3, c413_3, e413, hx413_0, hx413_1, hx413_2, hx413_3, hl413_3, hi413_3⟩ := at_T62 HR0.out x5_1 p413 q413; obtain rfl : ad406 = ad413 := (by injection e413); have HR413_3 := ak hi413_3; have HC413_3 := ak hl413_3; clear hi413_3 hl413_3; replace p413 := eq_true p413; replace q413 := eq_true q413; have ea_ := Option.some.inj (hx406_3.symm.trans hx413_3); injection ea_ with ea_ en_ ec_; subst ea_; subst ec_; clear en_; have p414 : 0 ≤ (x5_1 : Int) := oda_; have q414 : x5_1 < (l1.length : Int) := oda_; obtain ⟨ad414, A414_3, c414_3, e414, hx414_0, hx414_1, hx414_2, hx414_3, hl414_3, hi414_3⟩ := at_T62 HR1.out x5_1 p414 q414; obtain rfl : ad407 = ad414 := (by injection e414); have HR414_3 := ak hi414_3; have HC414_3 := ak hl414_3; clear hi414_3 hl414_3; replace p414 := eq_true p414; replace q414 := eq_true q414; have ea_ := Option.some.inj (hx407_3.symm.trans hx414_3); injection ea_ with ea_ en_ ec_; subst ea_; subst ec_; clear en_)))
   go_roundg k1
   case measure => have := HK1.out; omega
   case rel => exact ⟨(wrap64 (x5_1 + 1)), (by first | rfl | (simp; done) | (simp [*]; done)), H', ⟨by have := HK1.out; omega⟩, by repeat (first | exact Drawn0.refl _ | apply Drawn0.step)⟩

/-! ### handshakerref09_Same: function 20 -/
def handshakerref09_Same.l0 : Nat → List (List (S62)) → List (List (S62)) → Int → Option (Bool)
 | 0, _, _, _ => none
 | k + 1, x0, x1, x5 => if x5 < (x0.length : Int) then (if 0 ≤ x5 then (if x5 < (x1.length : Int) then ((handshakerref08_Same.f k (rd_L12 x0 x5) (rd_L12 x1 x5)).bind fun t417 => (if t417 = true then (handshakerref09_Same.l0 k x0 x1 (wrap64 (x5 + 1))) else (some false))) else (none)) else (none)) else (some true)
def handshakerref09_Same.f (k : Nat) (l0 : List (List (S62))) (l1 : List (List (S62))) : Option (Bool) := if (l0.length : Int) = (l1.length : Int) then (handshakerref09_Same.l0 k l0 l1 0) else (some false)
theorem handshakerref09_Same.mono_l : ∀ k, (∀ y0 y1 y2, LeO (handshakerref09_Same.l0 k y0 y1 y2) (handshakerref09_Same.l0 (k + 1) y0 y1 y2))
 | 0 => fun _ _ _ r h => by simp [handshakerref09_Same.l0] at h
 | k + 1 => by
  have ih0 := handshakerref09_Same.mono_l k
  · intro y0 y1 y2
    unfold handshakerref09_Same.l0
    repeat' first
    | (with_reducible exact ih0 _ _ _)
    | (with_reducible exact handshakerref08_Same.mono _ _ _)
    | (with_reducible exact LeO.refl _)
    | (with_reducible exact LeO.none _)
    | (with_reducible refine LeO.ite ?_ ?_)
    | (with_reducible refine LeO.bind ?_ (fun _ => ?_))
    | exact ih0 _ _ _
    | exact handshakerref08_Same.mono _ _ _
    | exact LeO.none _
    | refine LeO.ite ?_ ?_
    | refine LeO.bind ?_ (fun _ => ?_)
theorem handshakerref09_Same.mono : ∀ a0 a1 k, LeO (handshakerref09_Same.f k a0 a1) (handshakerref09_Same.f (k + 1) a0 a1) := by
 intro a0 a1 k
 have ih0 := handshakerref09_Same.mono_l k
 unfold handshakerref09_Same.f
 repeat' first
  | (with_reducible exact ih0 _ _ _)
  | (with_reducible exact handshakerref08_Same.mono _ _ _)
  | (with_reducible exact LeO.refl _)
  | (with_reducible exact LeO.none _)
  | (with_reducible refine LeO.ite ?_ ?_)
  | (with_reducible refine LeO.bind ?_ (fun _ => ?_))
  | exact ih0 _ _ _
  | exact handshakerref08_Same.mono _ _ _
  | exact LeO.none _
  | refine LeO.ite ?_ ?_
  | refine LeO.bind ?_ (fun _ => ?_)
set_option maxHeartbeats 8000000 in
set_option maxRecDepth 100000 in
theorem handshakerref09_Same.calls (k : Nat) (A0 : Option Addr) (c0 : Nat) (l0 : List (List (S62))) (A1 : Option Addr) (c1 : Nat) (l1 : List (List (S62))) (r : Bool) (w : World) (hr0 : Kd.C (Kd.slice 62 k62) w A0 l0.length l0) (hc0 : l0.length ≤ c0) (hr1 : Kd.C (Kd.slice 62 k62) w A1 l1.length l1) (hc1 : l1.length ≤ c1) (h : handshakerref09_Same.f k l0 l1 = some r) :
 Calls Try.prog 20 #[.slice A0 l0.length c0, .slice A1 l1.length c1] w fun e w' => e = .returned (.bool r) ∧ Drawn0 w w' := by
 have HR0 := ak hr0
 have HC0 := ak hc0
 clear hr0 hc0
 have HR1 := ak hr1
 have HC1 := ak hc1
 clear hr1 hc1
 have H : (if (l0.length : Int) = (l1.length : Int) then (handshakerref09_Same.l0 k l0 l1 0) else (some false)) = some r := h
 clear h
 by_cases c3 : (l0.length : Int) = (l1.length : Int)
 rotate_left
 · rw [if_neg c3] at H
   have c3b0 : ((l0.length : Int) == (l1.length : Int)) = false := beq_eq_false_iff_ne.mpr c3
   have c3b1 : ((l0.length : Int) != (l1.length : Int)) = true := bne_iff_ne.mpr c3
   have c3b2 : (l0.length == l1.length) = false := by first | simpa using c3 | (simp at c3 ⊢; omega)
   obtain rfl := Option.some.inj H
   go_enter Try.func20, Try.ntmps20
   go_wp2
   repeat (go_quiet (fail); try go_wp2)
   go_ret
   exact ⟨by first | rfl | (simp; done) | (simp [*]; done), by repeat (first | exact Drawn0.refl _ | apply Drawn0.step)⟩
 rw [if_pos c3] at H
 have c3b0 : ((l0.length : Int) == (l1.length : Int)) = true := beq_iff_eq.mpr c3
 have c3b1 : ((l0.length : Int) != (l1.length : Int)) = false := bne_eq_false_iff_eq.mpr c3
 have c3b2 : (l0.length == l1.length) = true := by first | simpa using c3 | (simp at c3 ⊢; omega)
 clear c3
 have H' := ak H
 clear H
 go_enter Try.func20, Try.ntmps20
 go_wp2
 repeat (go_quiet (fail); try go_wp2)
 go_loopg [5] k (fun kq v5 w' => ∃ (x5_1 : Int), v5 = .int .i64 x5_1 ∧ Aside0 (handshakerref09_Same.l0 kq l0 l1 x5_1 = some r) ∧ Aside0 (kq ≤ k) ∧ Drawn0 w w')
 case atStart => exact ⟨(0), (by first | rfl | (simp; done) | (simp [*]; done)), H', ⟨Nat.le_refl _⟩, by repeat (first | exact Drawn0.refl _ | apply Drawn0.step)⟩
 case round =>
  clear H'
  try clear c1
  try clear c2
  try clear p2
  try clear c3
  try clear c3b0
  try clear c3b1
  try clear c3b2
  obtain ⟨x5_1, rfl, HA, HK1, ⟨m1, rfl⟩⟩ := hrel
  cases gk with
  | zero => exact absurd HA.out (by simp [handshakerref09_Same.l0])
  | succ k1 =>
   have H := HA.out
   clear HA
   simp only [handshakerref09_Same.l0] at H
   by_cases c4 : x5_1 < (l0.length : Int)
   rotate_left
   · rw [if_neg c4] at H
     have c4b0 : decide (x5_1 < (l0.length : Int)) = false := decide_eq_false c4
     clear c4
     obtain rfl := Option.some.inj H
     go_wp2
     repeat (go_quiet (fail); try go_wp2)
     go_ret
     exact ⟨by first | rfl | (simp; done) | (simp [*]; done), by repeat (first | exact Drawn0.refl _ | apply Drawn0.step)⟩
   rw [if_pos c4] at H
   have c4b0 : decide (x5_1 < (l0.length : Int)) = true := decide_eq_true c4
   clear c4
   by_cases c5 : 0 ≤ x5_1
   rotate_left
   · rw [if_neg c5] at H
     exact absurd H (by simp)
   rw [if_pos c5] at H
   have c5b0 : decide (0 ≤ x5_1) = true := decide_eq_true c5
   clear c5
   by_cases c6 : x5_1 < (l1.length : Int)
   rotate_left
   · rw [if_neg c6] at H
     exact absurd H (by simp)
   rw [if_pos c6] at H
   have c6b0 : decide (x5_1 < (l1.length : Int)) = true := decide_eq_true c6
   clear c6
   obtain ⟨t417, A7, H⟩ := bd_ H
   by_cases c8 : t417 = true
   rotate_left
   · replace c8 := Bool.eq_false_iff.mpr c8
     subst c8
     rw [if_neg (show ¬ (false = true) by decide)] at H
     obtain rfl := Option.some.inj H
     have p415 : 0 ≤ (x5_1 : Int) := oda_
     have q415 : x5_1 < (l0.length : Int) := oda_
     obtain ⟨ad415, A415_0, c415_0, e415, hx415_0, hl415_0, hi415_0⟩ := at_L12 HR0.out x5_1 p415 q415
     cases e415
     have HR415_0 := ak hi415_0
     have HC415_0 := ak hl415_0
     clear hi415_0 hl415_0
     replace p415 := eq_true p415
     replace q415 := eq_true q415
     have p416 : 0 ≤ (x5_1 : Int) := oda_
     have q416 : x5_1 < (l1.length : Int) := oda_
     obtain ⟨ad416, A416_0, c416_0, e416, hx416_0, hl416_0, hi416_0⟩ := at_L12 HR1.out x5_1 p416 q416
     cases e416
     have HR416_0 := ak hi416_0
     have HC416_0 := ak hl416_0
     clear hi416_0 hl416_0
     replace p416 := eq_true p416
     replace q416 := eq_true q416
     go_wp2_with (first | (((first | ((with_reducible refine gate_callee (f := 33) rfl ?_); refine goesL_ (some 26) rfl rfl Try.func33 (by kernel_rfl) rfl #[.slice A415_0 (rd_L12 l0 x5_1).length c415_0, .slice A416_0 (rd_L12 l1 x5_1).length c416_0] rfl mp_ ?_) | go_at_call 33); (with_reducible refine (handshakerref08_Same.calls k1 _ _ (rd_L12 l0 x5_1) _ _ (rd_L12 l1 x5_1) false _ ?side1 ?side2 ?side3 ?side4 A7.out).mono ?_); (case side1 => exact cc_ HR415_0); (case side2 => exact HC415_0.out); (case side3 => exact cc_ HR416_0); (case side4 => exact HC416_0.out); rintro e w' ⟨rfl, ⟨nd, rfl⟩⟩; (try refine ⟨_, rfl, ?_⟩); (try first | exact ⟨rfl, _, World.drewN_drewN _ _ _⟩ | exact ⟨rfl, _, Eq.trans (World.drewN_drewN _ _ _) (congrArg (World.drewN _) (Nat.add_assoc _ _ _))⟩))))
     repeat (go_quiet (first | (((first | ((with_reducible refine gate_callee (f := 33) rfl ?_); refine goesL_ (some 26) rfl rfl Try.func33 (by kernel_rfl) rfl #[.slice A415_0 (rd_L12 l0 x5_1).length c415_0, .slice A416_0 (rd_L12 l1 x5_1).length c416_0] rfl mp_ ?_) | go_at_call 33); (with_reducible refine (handshakerref08_Same.calls k1 _ _ (rd_L12 l0 x5_1) _ _ (rd_L12 l1 x5_1) false _ ?side1 ?side2 ?side3 ?side4 A7.out).mono ?_); (case side1 => exact cc_ HR415_0); (case side2 => exact HC415_0.out); (case side3 => exact cc_ HR416_0); (case side4 => exact HC416_0.out); rintro e w' ⟨rfl, ⟨nd, rfl⟩⟩; (try refine ⟨_, rfl, ?_⟩); (try first | exact ⟨rfl, _, World.drewN_drewN _ _ _⟩ | exact ⟨rfl, _, Eq.trans (World.drewN_drewN _ _ _) (congrArg (World.drewN _) (Nat.add_assoc _ _ _))⟩)))); try go_wp2_with (first | (((first | ((with_reducible refine gate_callee (f := 33) rfl ?_); refine goesL_ (some 26) rfl rfl Try.func33 (by kernel_rfl) rfl #[.slice A415_0 (rd_L12 l0 x5_1).length c415_0, .slice A416_0 (rd_L12 l1 x5_1).length c416_0] rfl mp_ ?_) | go_at_call 33); (with_reducible refine (handshakerref08_Same.calls k1 _ _ (rd_L12 l0 x5_1) _ _ (rd_L12 l1 x5_1) false _ ?side1 ?side2 ?side3 ?side4 A7.out).mono ?_); (case side1 => exact cc_ HR415_0); (case side2 => exact HC415_0.out); (case side3 => exact cc_ HR416_0); (case side4 => exact HC416_0.out); rintro e w' ⟨rfl, ⟨nd, rfl⟩⟩; (try refine ⟨_, rfl, ?_⟩); (try first | exact ⟨rfl, _, World.drewN_drewN _ _ _⟩ | exact ⟨rfl, _, Eq.trans (World.drewN_drewN _ _ _) (congrArg (World.drewN _) (Nat.add_assoc _ _ _))⟩)))))
     go_ret
     exact ⟨by first | rfl | (simp; done) | (simp [*]; done), by repeat (first | exact Drawn0.refl _ | apply Drawn0.step)⟩
   subst c8
   rw [if_pos rfl] at H
   have H' := ak H
   clear H
   have p415 : 0 ≤ (x5_1 : Int) := oda_
   have q415 : x5_1 < (l0.length : Int) := oda_
   obtain ⟨ad415, A415_0, c415_0, e415, hx415_0, hl415_0, hi415_0⟩ := at_L12 HR0.out x5_1 p415 q415
   cases e415
   have HR415_0 := ak hi415_0
   have HC415_0 := ak hl415_0
   clear hi415_0 hl415_0
   replace p415 := eq_true p415
   replace q415 := eq_true q415
   have p416 : 0 ≤ (x5_1 : Int) := oda_
   have q416 : x5_1 < (l1.length : Int) := oda_
   obtain ⟨ad416, A416_0, c416_0, e416, hx416_0, hl416_0, hi416_0⟩ := at_L12 HR1.out x5_1 p416 q416
   cases e416
   have HR416_0 := ak hi416_0
   have HC416_0 := ak hl416_0
   clear hi416_0 hl416_0
   replace p416 := eq_true p416
   replace q416 := eq_true q416
   go_wp2_with (first | (((first | ((with_reducible refine gate_callee (f := 33) rfl ?_); refine goesL_ (some 26) rfl rfl Try.func33 (by kernel_rfl) rfl #[.slice A415_0 (rd_L12 l0 x5_1).length c415_0, .slice A416_0 (rd_L12 l1 x5_1).length c416_0] rfl mp_ ?_) | go_at_call 33); (with_reducible refine (handshakerref08_Same.calls k1 _ _ (rd_L12 l0 x5_1) _ _ (rd_L12 l1 x5_1) true _ ?side1 ?side2 ?side3 ?side4 A7.out).mono ?_); (case side1 => exact cc_ HR415_0); (case side2 => exact HC415_0.out); (case side3 => exact cc_ HR416_0); (case side4 => exact HC416_0.out); rintro e w' ⟨rfl, ⟨nd, rfl⟩⟩; (try refine ⟨_, rfl, ?_⟩); (try first | exact ⟨rfl, _, World.drewN_drewN _ _ _⟩ | exact ⟨rfl, _, Eq.trans (World.drewN_drewN _ _ _) (congrArg (World.drewN _) (Nat.add_assoc _ _ _))⟩))))
   repeat (go_quiet (first | (((first | ((with_reducible refine gate_callee (f := 33) rfl ?_); refine goesL_ (some 26) rfl rfl Try.func33 (by kernel_rfl) rfl #[.slice A415_0 (rd_L12 l0 x5_1).length c415_0, .slice A416_0 (rd_L12 l1 x5_1).length c416_0] rfl mp_ ?_) | go_at_call 33); (with_reducible refine (handshakerref08_Same.calls k1 _ _ (rd_L12 l0 x5_1) _ _ (rd_L12 l1 x5_1) true _ ?side1 ?side2 ?side3 ?side4 A7.out).mono ?_); (case side1 => exact cc_ HR415_0); (case side2 => exact HC415_0.out); (case side3 => exact cc_ HR416_0); (case side4 => exact HC416_0.out); rintro e w' ⟨rfl, ⟨nd, rfl⟩⟩; (try refine ⟨_, rfl, ?_⟩); (try first | exact ⟨rfl, _, World.drewN_drewN _ _ _⟩ | exact ⟨rfl, _, Eq.trans (World.drewN_drewN _ _ _) (congrArg (World.drewN _) (Nat.add_assoc _ _ _))⟩)))); try go_wp2_with (first | (((first | ((with_reducible refine gate_callee (f := 33) rfl ?_); refine goesL_ (some 26) rfl rfl Try.func33 (by kernel_rfl) rfl #[.slice A415_0 (rd_L12 l0 x5_1).length c415_0, .slice A416_0 (rd_L12 l1 x5_1).length c416_0] rfl mp_ ?_) | go_at_call 33); (with_reducible refine (handshakerref08_Same.calls k1 _ _ (rd_L12 l0 x5_1) _ _ (rd_L12 l1 x5_1) true _ ?side1 ?side2 ?side3 ?side4 A7.out).mono ?_); (case side1 => exact cc_ HR415_0); (case side2 => exact HC415_0.out); (case side3 => exact cc_ HR416_0); (case side4 => exact HC416_0.out); rintro e w' ⟨rfl, ⟨nd, rfl⟩⟩; (try refine ⟨_, rfl, ?_⟩); (try first | exact ⟨rfl, _, World.drewN_drewN _ _ _⟩ | exact ⟨rfl, _, Eq.trans (World.drewN_drewN _ _ _) (congrArg (World.drewN _) (Nat.add_assoc _ _ _))⟩)))))
   go_roundg k1
   case measure => have := HK1.out; omega
   case rel => exact ⟨(wrap64 (x5_1 + 1)), (by first | rfl | (simp; done) | (simp [*]; done)), H', ⟨by have := HK1.out; omega⟩, by repeat (first | exact Drawn0.refl _ | apply Drawn0.step)⟩

end Go.Proofs.Ytpeblomhhofhkaa.H
