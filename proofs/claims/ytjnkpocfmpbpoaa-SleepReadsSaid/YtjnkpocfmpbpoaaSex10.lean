-- PRINTED by print.py (a twelfth state) out of the translation. Not trusted: Lean checks it.
import Derived.Test.YtjnkpocfmpbpoaaSex0
import Derived.Test.YtjnkpocfmpbpoaaSex1
namespace Go.Proofs.Ytjnkpocfmpbpoaa.Se
open Go.Proofs.Ytjnkpocfmpbpoaa.Ho
open Go.RowKit Go.Proofs.YtjnkpocfmpbpoaaW.PrintWords Go.Proofs.YtjnkpocfmpbpoaaW.PrintLast Go.Proofs.YtjnkpocfmpbpoaaW.PrintMore
attribute [local go_sem] max2_int min2_int max_two min_two max_three min_three max_four min_four   -- for this text's walks alone
set_option linter.unusedVariables false
set_option linter.unusedSimpArgs false

attribute [local go_sem high] eqA62
/-! ### handshakerref06_List: function 32 -/
def handshakerref06_List.l0 : Nat → List (S62) → List (S62) → Int → Option (Bool)
 | 0, _, _, _ => none
 | k + 1, x0, x1, x5 => if x5 < (x0.length : Int) then (if 0 ≤ x5 then (if x5 < (x1.length : Int) then (if (!(((rd_T62 x0 x5).f0) == ((rd_T62 x1 x5).f0)) || (!(((rd_T62 x0 x5).f1) == ((rd_T62 x1 x5).f1)))) = true then (some false) else (handshakerref06_List.l0 k x0 x1 (wrap64 (x5 + 1)))) else (none)) else (none)) else (some true)
def handshakerref06_List.f (k : Nat) (l0 : List (S62)) (l1 : List (S62)) : Option (Bool) := if (l0.length : Int) = (l1.length : Int) then (handshakerref06_List.l0 k l0 l1 0) else (some false)
theorem handshakerref06_List.mono_l : ∀ k, (∀ y0 y1 y2, LeO (handshakerref06_List.l0 k y0 y1 y2) (handshakerref06_List.l0 (k + 1) y0 y1 y2))
 | 0 => fun _ _ _ r h => by simp [handshakerref06_List.l0] at h
 | k + 1 => by
  have ih0 := handshakerref06_List.mono_l k
  · intro y0 y1 y2
    unfold handshakerref06_List.l0
    repeat' first
    | (with_reducible exact ih0 _ _ _)
    | (with_reducible exact LeO.refl _)
    | (with_reducible exact LeO.none _)
    | (with_reducible refine LeO.ite ?_ ?_)
    | (with_reducible refine LeO.bind ?_ (fun _ => ?_))
    | exact ih0 _ _ _
    | exact LeO.none _
    | refine LeO.ite ?_ ?_
    | refine LeO.bind ?_ (fun _ => ?_)
theorem handshakerref06_List.mono : ∀ a0 a1 k, LeO (handshakerref06_List.f k a0 a1) (handshakerref06_List.f (k + 1) a0 a1) := by
 intro a0 a1 k
 have ih0 := handshakerref06_List.mono_l k
 unfold handshakerref06_List.f
 repeat' first
  | (with_reducible exact ih0 _ _ _)
  | (with_reducible exact LeO.refl _)
  | (with_reducible exact LeO.none _)
  | (with_reducible refine LeO.ite ?_ ?_)
  | (with_reducible refine LeO.bind ?_ (fun _ => ?_))
  | exact ih0 _ _ _
  | exact LeO.none _
  | refine LeO.ite ?_ ?_
  | refine LeO.bind ?_ (fun _ => ?_)
set_option maxHeartbeats 8000000 in
set_option maxRecDepth 100000 in
theorem handshakerref06_List.calls (k : Nat) (A0 : Option Addr) (c0 : Nat) (l0 : List (S62)) (A1 : Option Addr) (c1 : Nat) (l1 : List (S62)) (r : Bool) (w : World) (hr0 : Kd.C k62 w A0 l0.length l0) (hc0 : l0.length ≤ c0) (hr1 : Kd.C k62 w A1 l1.length l1) (hc1 : l1.length ≤ c1) (h : handshakerref06_List.f k l0 l1 = some r) :
 Calls Try.prog 32 #[.slice A0 l0.length c0, .slice A1 l1.length c1] w fun e w' => e = .returned (.bool r) ∧ Drawn0 w w' := by
 have hu62 := Try.underlying62
 have HR0 := Aside0.mk hr0
 have HC0 := Aside0.mk hc0
 clear hr0 hc0
 have HR1 := Aside0.mk hr1
 have HC1 := Aside0.mk hc1
 clear hr1 hc1
 have H : (if (l0.length : Int) = (l1.length : Int) then (handshakerref06_List.l0 k l0 l1 0) else (some false)) = some r := h
 clear h
 by_cases c3 : (l0.length : Int) = (l1.length : Int)
 · rw [if_pos c3] at H
   have c3b0 : ((l0.length : Int) == (l1.length : Int)) = true := beq_iff_eq.mpr c3
   have c3b1 : ((l0.length : Int) != (l1.length : Int)) = false := bne_eq_false_iff_eq.mpr c3
   have c3b2 : (l0.length == l1.length) = true := by first | simpa using c3 | (simp at c3 ⊢; omega)
   clear c3
   have H' := Aside0.mk H
   clear H
   go_enter Try.func32, Try.ntmps32
   go_wp2
   repeat (go_quiet (fail); try go_wp2)
   go_loopg [5] k (fun kq v5 w' => ∃ (x5_1 : Int), v5 = .int .i64 x5_1 ∧ Aside0 (handshakerref06_List.l0 kq l0 l1 x5_1 = some r) ∧ Aside0 (kq ≤ k) ∧ Drawn0 w w')
   case atStart => exact ⟨(0), (by first | rfl | (simp; done) | (simp [*]; done)), H', ⟨Nat.le_refl _⟩, by repeat (first | exact Drawn0.refl _ | apply Drawn0.step)⟩
   case round =>
    clear H'
    try clear c1
    try clear p2
    try clear c3
    try clear c3b0
    try clear c3b1
    try clear c3b2
    obtain ⟨x5_1, rfl, HA, HK1, ⟨m1, rfl⟩⟩ := hrel
    cases gk with
    | zero => exact absurd HA.out (by simp [handshakerref06_List.l0])
    | succ k1 =>
     have H := HA.out
     clear HA
     simp only [handshakerref06_List.l0] at H
     by_cases c4 : x5_1 < (l0.length : Int)
     · rw [if_pos c4] at H
       have c4b0 : decide (x5_1 < (l0.length : Int)) = true := decide_eq_true c4
       clear c4
       by_cases c5 : 0 ≤ x5_1
       · rw [if_pos c5] at H
         have c5b0 : decide (0 ≤ x5_1) = true := decide_eq_true c5
         clear c5
         by_cases c6 : x5_1 < (l1.length : Int)
         · rw [if_pos c6] at H
           have c6b0 : decide (x5_1 < (l1.length : Int)) = true := decide_eq_true c6
           clear c6
           by_cases c7 : (!(((rd_T62 l0 x5_1).f0) == ((rd_T62 l1 x5_1).f0)) || (!(((rd_T62 l0 x5_1).f1) == ((rd_T62 l1 x5_1).f1)))) = true
           · rw [if_pos c7] at H
             have c7b0 : (!(((rd_T62 l0 x5_1).f0) == ((rd_T62 l1 x5_1).f0)) || (!(((rd_T62 l0 x5_1).f1) == ((rd_T62 l1 x5_1).f1)))) = true := c7
             clear c7
             obtain rfl := Option.some.inj H
             have p311 : 0 ≤ (x5_1 : Int) := oda_
             have q311 : x5_1 < (l0.length : Int) := oda_
             obtain ⟨ad311, e311, hx311_0, hx311_1⟩ := at_T62 HR0.out x5_1 p311 q311
             cases e311
             replace p311 := eq_true p311
             replace q311 := eq_true q311
             have p312 : 0 ≤ (x5_1 : Int) := oda_
             have q312 : x5_1 < (l1.length : Int) := oda_
             obtain ⟨ad312, e312, hx312_0, hx312_1⟩ := at_T62 HR1.out x5_1 p312 q312
             cases e312
             replace p312 := eq_true p312
             replace q312 := eq_true q312
             go_wp2
             repeat (go_quiet (fail); try go_wp2)
             go_ret
             exact ⟨by first | rfl | (simp; done) | (simp [*]; done), by repeat (first | exact Drawn0.refl _ | apply Drawn0.step)⟩
           · rw [if_neg c7] at H
             have c7b0 : (!(((rd_T62 l0 x5_1).f0) == ((rd_T62 l1 x5_1).f0)) || (!(((rd_T62 l0 x5_1).f1) == ((rd_T62 l1 x5_1).f1)))) = false := by simpa using c7
             clear c7
             have H' := Aside0.mk H
             clear H
             have p311 : 0 ≤ (x5_1 : Int) := oda_
             have q311 : x5_1 < (l0.length : Int) := oda_
             obtain ⟨ad311, e311, hx311_0, hx311_1⟩ := at_T62 HR0.out x5_1 p311 q311
             cases e311
             replace p311 := eq_true p311
             replace q311 := eq_true q311
             have p312 : 0 ≤ (x5_1 : Int) := oda_
             have q312 : x5_1 < (l1.length : Int) := oda_
             obtain ⟨ad312, e312, hx312_0, hx312_1⟩ := at_T62 HR1.out x5_1 p312 q312
             cases e312
             replace p312 := eq_true p312
             replace q312 := eq_true q312
             go_wp2
             repeat (go_quiet (fail); try go_wp2)
             go_roundg k1
             case measure => have := HK1.out; omega
             case rel => exact ⟨(wrap64 (x5_1 + 1)), (by first | rfl | (simp; done) | (simp [*]; done)), H', ⟨by have := HK1.out; omega⟩, by repeat (first | exact Drawn0.refl _ | apply Drawn0.step)⟩
         · rw [if_neg c6] at H
           exact absurd H (by simp)
       · rw [if_neg c5] at H
         exact absurd H (by simp)
     · rw [if_neg c4] at H
       have c4b0 : decide (x5_1 < (l0.length : Int)) = false := decide_eq_false c4
       clear c4
       obtain rfl := Option.some.inj H
       go_wp2
       repeat (go_quiet (fail); try go_wp2)
       go_ret
       exact ⟨by first | rfl | (simp; done) | (simp [*]; done), by repeat (first | exact Drawn0.refl _ | apply Drawn0.step)⟩
 · rw [if_neg c3] at H
   have c3b0 : ((l0.length : Int) == (l1.length : Int)) = false := beq_eq_false_iff_ne.mpr c3
   have c3b1 : ((l0.length : Int) != (l1.length : Int)) = true := bne_iff_ne.mpr c3
   have c3b2 : (l0.length == l1.length) = false := by first | simpa using c3 | (simp at c3 ⊢; omega)
   obtain rfl := Option.some.inj H
   go_enter Try.func32, Try.ntmps32
   go_wp2
   repeat (go_quiet (fail); try go_wp2)
   go_ret
   exact ⟨by first | rfl | (simp; done) | (simp [*]; done), by repeat (first | exact Drawn0.refl _ | apply Drawn0.step)⟩

/-! ### handshakerref04_Right: function 78 -/
def handshakerref04_Right.f (a0 : Int) : Option (Bool) := if a0 ≥ 0 then (some (decide (a0 ≤ 2147483647))) else (some false)
set_option maxHeartbeats 8000000 in
set_option maxRecDepth 100000 in
theorem handshakerref04_Right.calls (a0 : Int) (r : Bool) (w : World) (h : handshakerref04_Right.f a0 = some r) :
 Calls Try.prog 78 #[.int .i64 a0] w fun e w' => e = .returned (.bool r) ∧ Drawn0 w w' := by
 have H : (if a0 ≥ 0 then (some (decide (a0 ≤ 2147483647))) else (some false)) = some r := h
 clear h
 by_cases c2 : a0 ≥ 0
 · rw [if_pos c2] at H
   have c2b0 : decide (0 ≤ a0) = true := decide_eq_true c2
   clear c2
   obtain rfl := Option.some.inj H
   go_enter Try.func78, Try.ntmps78
   go_wp2
   go_ret
   exact ⟨by first | rfl | (simp; done) | (simp [*]; done), by repeat (first | exact Drawn0.refl _ | apply Drawn0.step)⟩
 · rw [if_neg c2] at H
   have c2b0 : decide (0 ≤ a0) = false := decide_eq_false c2
   clear c2
   obtain rfl := Option.some.inj H
   go_enter Try.func78, Try.ntmps78
   go_wp2
   go_ret
   exact ⟨by first | rfl | (simp; done) | (simp [*]; done), by repeat (first | exact Drawn0.refl _ | apply Drawn0.step)⟩

/-! ### handshakerref01_Right: function 79 -/
def handshakerref01_Right.f (a0 : Int) : Option (Bool) := if a0 ≥ (-2147483648) then (some (decide (a0 ≤ 2147483647))) else (some false)
set_option maxHeartbeats 8000000 in
set_option maxRecDepth 100000 in
theorem handshakerref01_Right.calls (a0 : Int) (r : Bool) (w : World) (h : handshakerref01_Right.f a0 = some r) :
 Calls Try.prog 79 #[.int .i64 a0] w fun e w' => e = .returned (.bool r) ∧ Drawn0 w w' := by
 have H : (if a0 ≥ (-2147483648) then (some (decide (a0 ≤ 2147483647))) else (some false)) = some r := h
 clear h
 by_cases c2 : a0 ≥ (-2147483648)
 · rw [if_pos c2] at H
   have c2b0 : decide ((-2147483648) ≤ a0) = true := decide_eq_true c2
   clear c2
   obtain rfl := Option.some.inj H
   go_enter Try.func79, Try.ntmps79
   go_wp2
   go_ret
   exact ⟨by first | rfl | (simp; done) | (simp [*]; done), by repeat (first | exact Drawn0.refl _ | apply Drawn0.step)⟩
 · rw [if_neg c2] at H
   have c2b0 : decide ((-2147483648) ≤ a0) = false := decide_eq_false c2
   clear c2
   obtain rfl := Option.some.inj H
   go_enter Try.func79, Try.ntmps79
   go_wp2
   go_ret
   exact ⟨by first | rfl | (simp; done) | (simp [*]; done), by repeat (first | exact Drawn0.refl _ | apply Drawn0.step)⟩

/-! ### handshakerref05_one: function 85 -/
def handshakerref05_one.f (a0_0 : Int) (a0_1 : Int) (a0_2 : Int) : Option (Bool) := (handshakerref04_Right.f a0_1).bind fun t314 => ((handshakerref01_Right.f a0_2).bind fun t315 => (if t314 = true then (if t315 = true then (some (decide (a0_0 ≥ 0))) else (some false)) else (some false)))
set_option maxHeartbeats 8000000 in
set_option maxRecDepth 100000 in
theorem handshakerref05_one.calls (a0_0 : Int) (a0_1 : Int) (a0_2 : Int) (r : Bool) (w : World) (h : handshakerref05_one.f a0_0 a0_1 a0_2 = some r) :
 Calls Try.prog 85 #[.agg #[.int .i64 a0_0, .int .i64 a0_1, .int .i64 a0_2]] w fun e w' => e = .returned (.bool r) ∧ Below w.heap.size w w' := by
 have hu57 := Try.underlying57
 have HB := Aside0.mk (Below.refl w.heap.size w)
 have H : ((handshakerref04_Right.f a0_1).bind fun t314 => ((handshakerref01_Right.f a0_2).bind fun t315 => (if t314 = true then (if t315 = true then (some (decide (a0_0 ≥ 0))) else (some false)) else (some false)))) = some r := h
 clear h
 replace H := Option.bind_eq_some_iff.mp H
 obtain ⟨t314, A20, H⟩ := H
 have A2 := Aside0.mk A20
 clear A20
 replace H := Option.bind_eq_some_iff.mp H
 obtain ⟨t315, A30, H⟩ := H
 have A3 := Aside0.mk A30
 clear A30
 by_cases c4 : t314 = true
 · subst c4
   rw [if_pos rfl] at H
   by_cases c5 : t315 = true
   · subst c5
     rw [if_pos rfl] at H
     obtain rfl := Option.some.inj H
     go_enter Try.func85, Try.ntmps85
     go_wp2_with (first | ((with_reducible refine gate_dst (N := 1) rfl ?_); refine box_event ?hg (N := 1) ?hd (cs := #[.int .i64 a0_0, .int .i64 a0_1, .int .i64 a0_2]) (t := 57) ?hr ?_; (case hd => rfl); (case hg => rfl); (case hr => first | (go_simp; done) | (go_simp; rfl)); intro gb313 hg w6 hbox hb; replace BK313 := Aside0.mk (hbox); replace GW313 := Aside0.mk ((by rw [hg]; exact bsz_ : w.heap.size ≤ gb313)); replace HB := Aside0.mk (bst_ hb); replace GE313 := GW313; clear hb hbox hg; have hcz7_0 : w6.cell? ⟨gb313, 0, none⟩ = some (.int .i64 a0_0) := (blk_cell BK313.out 0).trans rfl; have hcz7_1 : w6.cell? ⟨gb313, 1, none⟩ = some (.int .i64 a0_1) := (blk_cell BK313.out 1).trans rfl; have hcz7_2 : w6.cell? ⟨gb313, 2, none⟩ = some (.int .i64 a0_2) := (blk_cell BK313.out 2).trans rfl; have hfz7_0 := blk_frozen BK313.out 0; have hfz7_1 := blk_frozen BK313.out 1; have hfz7_2 := blk_frozen BK313.out 2) | ((first | ((with_reducible refine gate_callee (f := 78) rfl ?_); refine goesL_ (some 7) rfl rfl Try.func78 (by kernel_rfl) rfl #[.int .i64 a0_1] rfl mp_ ?_; (with_reducible refine (handshakerref04_Right.calls a0_1 true _ A2.out).mono ?_); rintro e w' ⟨rfl, ⟨nd, rfl⟩⟩; refine ⟨_, rfl, ?_⟩; (try first | exact ⟨rfl, _, World.drewN_drewN _ _ _⟩ | exact ⟨rfl, _, Eq.trans (World.drewN_drewN _ _ _) (congrArg (World.drewN _) (Nat.add_assoc _ _ _))⟩)) | (go_at_call 78; (with_reducible refine (handshakerref04_Right.calls a0_1 true _ A2.out).mono ?_); rintro e w' ⟨rfl, ⟨nd, rfl⟩⟩; (try first | exact ⟨rfl, _, World.drewN_drewN _ _ _⟩ | exact ⟨rfl, _, Eq.trans (World.drewN_drewN _ _ _) (congrArg (World.drewN _) (Nat.add_assoc _ _ _))⟩)))) | ((first | ((with_reducible refine gate_callee (f := 79) rfl ?_); refine goesL_ (some 10) rfl rfl Try.func79 (by kernel_rfl) rfl #[.int .i64 a0_2] rfl mp_ ?_; (with_reducible refine (handshakerref01_Right.calls a0_2 true _ A3.out).mono ?_); rintro e w' ⟨rfl, ⟨nd, rfl⟩⟩; refine ⟨_, rfl, ?_⟩; (try first | exact ⟨rfl, _, World.drewN_drewN _ _ _⟩ | exact ⟨rfl, _, Eq.trans (World.drewN_drewN _ _ _) (congrArg (World.drewN _) (Nat.add_assoc _ _ _))⟩)) | (go_at_call 79; (with_reducible refine (handshakerref01_Right.calls a0_2 true _ A3.out).mono ?_); rintro e w' ⟨rfl, ⟨nd, rfl⟩⟩; (try first | exact ⟨rfl, _, World.drewN_drewN _ _ _⟩ | exact ⟨rfl, _, Eq.trans (World.drewN_drewN _ _ _) (congrArg (World.drewN _) (Nat.add_assoc _ _ _))⟩)))))
     repeat (go_quiet (first | ((with_reducible refine gate_dst (N := 1) rfl ?_); refine box_event ?hg (N := 1) ?hd (cs := #[.int .i64 a0_0, .int .i64 a0_1, .int .i64 a0_2]) (t := 57) ?hr ?_; (case hd => rfl); (case hg => rfl); (case hr => first | (go_simp; done) | (go_simp; rfl)); intro gb313 hg w6 hbox hb; replace BK313 := Aside0.mk (hbox); replace GW313 := Aside0.mk ((by rw [hg]; exact bsz_ : w.heap.size ≤ gb313)); replace HB := Aside0.mk (bst_ hb); replace GE313 := GW313; clear hb hbox hg; have hcz7_0 : w6.cell? ⟨gb313, 0, none⟩ = some (.int .i64 a0_0) := (blk_cell BK313.out 0).trans rfl; have hcz7_1 : w6.cell? ⟨gb313, 1, none⟩ = some (.int .i64 a0_1) := (blk_cell BK313.out 1).trans rfl; have hcz7_2 : w6.cell? ⟨gb313, 2, none⟩ = some (.int .i64 a0_2) := (blk_cell BK313.out 2).trans rfl; have hfz7_0 := blk_frozen BK313.out 0; have hfz7_1 := blk_frozen BK313.out 1; have hfz7_2 := blk_frozen BK313.out 2) | ((first | ((with_reducible refine gate_callee (f := 78) rfl ?_); refine goesL_ (some 7) rfl rfl Try.func78 (by kernel_rfl) rfl #[.int .i64 a0_1] rfl mp_ ?_; (with_reducible refine (handshakerref04_Right.calls a0_1 true _ A2.out).mono ?_); rintro e w' ⟨rfl, ⟨nd, rfl⟩⟩; refine ⟨_, rfl, ?_⟩; (try first | exact ⟨rfl, _, World.drewN_drewN _ _ _⟩ | exact ⟨rfl, _, Eq.trans (World.drewN_drewN _ _ _) (congrArg (World.drewN _) (Nat.add_assoc _ _ _))⟩)) | (go_at_call 78; (with_reducible refine (handshakerref04_Right.calls a0_1 true _ A2.out).mono ?_); rintro e w' ⟨rfl, ⟨nd, rfl⟩⟩; (try first | exact ⟨rfl, _, World.drewN_drewN _ _ _⟩ | exact ⟨rfl, _, Eq.trans (World.drewN_drewN _ _ _) (congrArg (World.drewN _) (Nat.add_assoc _ _ _))⟩)))) | ((first | ((with_reducible refine gate_callee (f := 79) rfl ?_); refine goesL_ (some 10) rfl rfl Try.func79 (by kernel_rfl) rfl #[.int .i64 a0_2] rfl mp_ ?_; (with_reducible refine (handshakerref01_Right.calls a0_2 true _ A3.out).mono ?_); rintro e w' ⟨rfl, ⟨nd, rfl⟩⟩; refine ⟨_, rfl, ?_⟩; (try first | exact ⟨rfl, _, World.drewN_drewN _ _ _⟩ | exact ⟨rfl, _, Eq.trans (World.drewN_drewN _ _ _) (congrArg (World.drewN _) (Nat.add_assoc _ _ _))⟩)) | (go_at_call 79; (with_reducible refine (handshakerref01_Right.calls a0_2 true _ A3.out).mono ?_); rintro e w' ⟨rfl, ⟨nd, rfl⟩⟩; (try first | exact ⟨rfl, _, World.drewN_drewN _ _ _⟩ | exact ⟨rfl, _, Eq.trans (World.drewN_drewN _ _ _) (congrArg (World.drewN _) (Nat.add_assoc _ _ _))⟩))))); try go_wp2_with (first | ((with_reducible refine gate_dst (N := 1) rfl ?_); refine box_event ?hg (N := 1) ?hd (cs := #[.int .i64 a0_0, .int .i64 a0_1, .int .i64 a0_2]) (t := 57) ?hr ?_; (case hd => rfl); (case hg => rfl); (case hr => first | (go_simp; done) | (go_simp; rfl)); intro gb313 hg w6 hbox hb; replace BK313 := Aside0.mk (hbox); replace GW313 := Aside0.mk ((by rw [hg]; exact bsz_ : w.heap.size ≤ gb313)); replace HB := Aside0.mk (bst_ hb); replace GE313 := GW313; clear hb hbox hg; have hcz7_0 : w6.cell? ⟨gb313, 0, none⟩ = some (.int .i64 a0_0) := (blk_cell BK313.out 0).trans rfl; have hcz7_1 : w6.cell? ⟨gb313, 1, none⟩ = some (.int .i64 a0_1) := (blk_cell BK313.out 1).trans rfl; have hcz7_2 : w6.cell? ⟨gb313, 2, none⟩ = some (.int .i64 a0_2) := (blk_cell BK313.out 2).trans rfl; have hfz7_0 := blk_frozen BK313.out 0; have hfz7_1 := blk_frozen BK313.out 1; have hfz7_2 := blk_frozen BK313.out 2) | ((first | ((with_reducible refine gate_callee (f := 78) rfl ?_); refine goesL_ (some 7) rfl rfl Try.func78 (by kernel_rfl) rfl #[.int .i64 a0_1] rfl mp_ ?_; (with_reducible refine (handshakerref04_Right.calls a0_1 true _ A2.out).mono ?_); rintro e w' ⟨rfl, ⟨nd, rfl⟩⟩; refine ⟨_, rfl, ?_⟩; (try first | exact ⟨rfl, _, World.drewN_drewN _ _ _⟩ | exact ⟨rfl, _, Eq.trans (World.drewN_drewN _ _ _) (congrArg (World.drewN _) (Nat.add_assoc _ _ _))⟩)) | (go_at_call 78; (with_reducible refine (handshakerref04_Right.calls a0_1 true _ A2.out).mono ?_); rintro e w' ⟨rfl, ⟨nd, rfl⟩⟩; (try first | exact ⟨rfl, _, World.drewN_drewN _ _ _⟩ | exact ⟨rfl, _, Eq.trans (World.drewN_drewN _ _ _) (congrArg (World.drewN _) (Nat.add_assoc _ _ _))⟩)))) | ((first | ((with_reducible refine gate_callee (f := 79) rfl ?_); refine goesL_ (some 10) rfl rfl Try.func79 (by kernel_rfl) rfl #[.int .i64 a0_2] rfl mp_ ?_; (with_reducible refine (handshakerref01_Right.calls a0_2 true _ A3.out).mono ?_); rintro e w' ⟨rfl, ⟨nd, rfl⟩⟩; refine ⟨_, rfl, ?_⟩; (try first | exact ⟨rfl, _, World.drewN_drewN _ _ _⟩ | exact ⟨rfl, _, Eq.trans (World.drewN_drewN _ _ _) (congrArg (World.drewN _) (Nat.add_assoc _ _ _))⟩)) | (go_at_call 79; (with_reducible refine (handshakerref01_Right.calls a0_2 true _ A3.out).mono ?_); rintro e w' ⟨rfl, ⟨nd, rfl⟩⟩; (try first | exact ⟨rfl, _, World.drewN_drewN _ _ _⟩ | exact ⟨rfl, _, Eq.trans (World.drewN_drewN _ _ _) (congrArg (World.drewN _) (Nat.add_assoc _ _ _))⟩))))))
     go_ret
     exact ⟨by first | rfl | (simp [errW_none, errW_some] <;> rfl) | (simp [*, errW_none, errW_some] <;> rfl), bsw_⟩
   · replace c5 := Bool.eq_false_iff.mpr c5
     subst c5
     rw [if_neg (show ¬ (false = true) by decide)] at H
     obtain rfl := Option.some.inj H
     go_enter Try.func85, Try.ntmps85
     go_wp2_with (first | ((with_reducible refine gate_dst (N := 1) rfl ?_); refine box_event ?hg (N := 1) ?hd (cs := #[.int .i64 a0_0, .int .i64 a0_1, .int .i64 a0_2]) (t := 57) ?hr ?_; (case hd => rfl); (case hg => rfl); (case hr => first | (go_simp; done) | (go_simp; rfl)); intro gb313 hg w8 hbox hb; replace BK313 := Aside0.mk (hbox); replace GW313 := Aside0.mk ((by rw [hg]; exact bsz_ : w.heap.size ≤ gb313)); replace HB := Aside0.mk (bst_ hb); replace GE313 := GW313; clear hb hbox hg; have hcz9_0 : w8.cell? ⟨gb313, 0, none⟩ = some (.int .i64 a0_0) := (blk_cell BK313.out 0).trans rfl; have hcz9_1 : w8.cell? ⟨gb313, 1, none⟩ = some (.int .i64 a0_1) := (blk_cell BK313.out 1).trans rfl; have hcz9_2 : w8.cell? ⟨gb313, 2, none⟩ = some (.int .i64 a0_2) := (blk_cell BK313.out 2).trans rfl; have hfz9_0 := blk_frozen BK313.out 0; have hfz9_1 := blk_frozen BK313.out 1; have hfz9_2 := blk_frozen BK313.out 2) | ((first | ((with_reducible refine gate_callee (f := 78) rfl ?_); refine goesL_ (some 7) rfl rfl Try.func78 (by kernel_rfl) rfl #[.int .i64 a0_1] rfl mp_ ?_; (with_reducible refine (handshakerref04_Right.calls a0_1 true _ A2.out).mono ?_); rintro e w' ⟨rfl, ⟨nd, rfl⟩⟩; refine ⟨_, rfl, ?_⟩; (try first | exact ⟨rfl, _, World.drewN_drewN _ _ _⟩ | exact ⟨rfl, _, Eq.trans (World.drewN_drewN _ _ _) (congrArg (World.drewN _) (Nat.add_assoc _ _ _))⟩)) | (go_at_call 78; (with_reducible refine (handshakerref04_Right.calls a0_1 true _ A2.out).mono ?_); rintro e w' ⟨rfl, ⟨nd, rfl⟩⟩; (try first | exact ⟨rfl, _, World.drewN_drewN _ _ _⟩ | exact ⟨rfl, _, Eq.trans (World.drewN_drewN _ _ _) (congrArg (World.drewN _) (Nat.add_assoc _ _ _))⟩)))) | ((first | ((with_reducible refine gate_callee (f := 79) rfl ?_); refine goesL_ (some 10) rfl rfl Try.func79 (by kernel_rfl) rfl #[.int .i64 a0_2] rfl mp_ ?_; (with_reducible refine (handshakerref01_Right.calls a0_2 false _ A3.out).mono ?_); rintro e w' ⟨rfl, ⟨nd, rfl⟩⟩; refine ⟨_, rfl, ?_⟩; (try first | exact ⟨rfl, _, World.drewN_drewN _ _ _⟩ | exact ⟨rfl, _, Eq.trans (World.drewN_drewN _ _ _) (congrArg (World.drewN _) (Nat.add_assoc _ _ _))⟩)) | (go_at_call 79; (with_reducible refine (handshakerref01_Right.calls a0_2 false _ A3.out).mono ?_); rintro e w' ⟨rfl, ⟨nd, rfl⟩⟩; (try first | exact ⟨rfl, _, World.drewN_drewN _ _ _⟩ | exact ⟨rfl, _, Eq.trans (World.drewN_drewN _ _ _) (congrArg (World.drewN _) (Nat.add_assoc _ _ _))⟩)))))
     repeat (go_quiet (first | ((with_reducible refine gate_dst (N := 1) rfl ?_); refine box_event ?hg (N := 1) ?hd (cs := #[.int .i64 a0_0, .int .i64 a0_1, .int .i64 a0_2]) (t := 57) ?hr ?_; (case hd => rfl); (case hg => rfl); (case hr => first | (go_simp; done) | (go_simp; rfl)); intro gb313 hg w8 hbox hb; replace BK313 := Aside0.mk (hbox); replace GW313 := Aside0.mk ((by rw [hg]; exact bsz_ : w.heap.size ≤ gb313)); replace HB := Aside0.mk (bst_ hb); replace GE313 := GW313; clear hb hbox hg; have hcz9_0 : w8.cell? ⟨gb313, 0, none⟩ = some (.int .i64 a0_0) := (blk_cell BK313.out 0).trans rfl; have hcz9_1 : w8.cell? ⟨gb313, 1, none⟩ = some (.int .i64 a0_1) := (blk_cell BK313.out 1).trans rfl; have hcz9_2 : w8.cell? ⟨gb313, 2, none⟩ = some (.int .i64 a0_2) := (blk_cell BK313.out 2).trans rfl; have hfz9_0 := blk_frozen BK313.out 0; have hfz9_1 := blk_frozen BK313.out 1; have hfz9_2 := blk_frozen BK313.out 2) | ((first | ((with_reducible refine gate_callee (f := 78) rfl ?_); refine goesL_ (some 7) rfl rfl Try.func78 (by kernel_rfl) rfl #[.int .i64 a0_1] rfl mp_ ?_; (with_reducible refine (handshakerref04_Right.calls a0_1 true _ A2.out).mono ?_); rintro e w' ⟨rfl, ⟨nd, rfl⟩⟩; refine ⟨_, rfl, ?_⟩; (try first | exact ⟨rfl, _, World.drewN_drewN _ _ _⟩ | exact ⟨rfl, _, Eq.trans (World.drewN_drewN _ _ _) (congrArg (World.drewN _) (Nat.add_assoc _ _ _))⟩)) | (go_at_call 78; (with_reducible refine (handshakerref04_Right.calls a0_1 true _ A2.out).mono ?_); rintro e w' ⟨rfl, ⟨nd, rfl⟩⟩; (try first | exact ⟨rfl, _, World.drewN_drewN _ _ _⟩ | exact ⟨rfl, _, Eq.trans (World.drewN_drewN _ _ _) (congrArg (World.drewN _) (Nat.add_assoc _ _ _))⟩)))) | ((first | ((with_reducible refine gate_callee (f := 79) rfl ?_); refine goesL_ (some 10) rfl rfl Try.func79 (by kernel_rfl) rfl #[.int .i64 a0_2] rfl mp_ ?_; (with_reducible refine (handshakerref01_Right.calls a0_2 false _ A3.out).mono ?_); rintro e w' ⟨rfl, ⟨nd, rfl⟩⟩; refine ⟨_, rfl, ?_⟩; (try first | exact ⟨rfl, _, World.drewN_drewN _ _ _⟩ | exact ⟨rfl, _, Eq.trans (World.drewN_drewN _ _ _) (congrArg (World.drewN _) (Nat.add_assoc _ _ _))⟩)) | (go_at_call 79; (with_reducible refine (handshakerref01_Right.calls a0_2 false _ A3.out).mono ?_); rintro e w' ⟨rfl, ⟨nd, rfl⟩⟩; (try first | exact ⟨rfl, _, World.drewN_drewN _ _ _⟩ | exact ⟨rfl, _, Eq.trans (World.drewN_drewN _ _ _) (congrArg (World.drewN _) (Nat.add_assoc _ _ _))⟩))))); try go_wp2_with (first | ((with_reducible refine gate_dst (N := 1) rfl ?_); refine box_event ?hg (N := 1) ?hd (cs := #[.int .i64 a0_0, .int .i64 a0_1, .int .i64 a0_2]) (t := 57) ?hr ?_; (case hd => rfl); (case hg => rfl); (case hr => first | (go_simp; done) | (go_simp; rfl)); intro gb313 hg w8 hbox hb; replace BK313 := Aside0.mk (hbox); replace GW313 := Aside0.mk ((by rw [hg]; exact bsz_ : w.heap.size ≤ gb313)); replace HB := Aside0.mk (bst_ hb); replace GE313 := GW313; clear hb hbox hg; have hcz9_0 : w8.cell? ⟨gb313, 0, none⟩ = some (.int .i64 a0_0) := (blk_cell BK313.out 0).trans rfl; have hcz9_1 : w8.cell? ⟨gb313, 1, none⟩ = some (.int .i64 a0_1) := (blk_cell BK313.out 1).trans rfl; have hcz9_2 : w8.cell? ⟨gb313, 2, none⟩ = some (.int .i64 a0_2) := (blk_cell BK313.out 2).trans rfl; have hfz9_0 := blk_frozen BK313.out 0; have hfz9_1 := blk_frozen BK313.out 1; have hfz9_2 := blk_frozen BK313.out 2) | ((first | ((with_reducible refine gate_callee (f := 78) rfl ?_); refine goesL_ (some 7) rfl rfl Try.func78 (by kernel_rfl) rfl #[.int .i64 a0_1] rfl mp_ ?_; (with_reducible refine (handshakerref04_Right.calls a0_1 true _ A2.out).mono ?_); rintro e w' ⟨rfl, ⟨nd, rfl⟩⟩; refine ⟨_, rfl, ?_⟩; (try first | exact ⟨rfl, _, World.drewN_drewN _ _ _⟩ | exact ⟨rfl, _, Eq.trans (World.drewN_drewN _ _ _) (congrArg (World.drewN _) (Nat.add_assoc _ _ _))⟩)) | (go_at_call 78; (with_reducible refine (handshakerref04_Right.calls a0_1 true _ A2.out).mono ?_); rintro e w' ⟨rfl, ⟨nd, rfl⟩⟩; (try first | exact ⟨rfl, _, World.drewN_drewN _ _ _⟩ | exact ⟨rfl, _, Eq.trans (World.drewN_drewN _ _ _) (congrArg (World.drewN _) (Nat.add_assoc _ _ _))⟩)))) | ((first | ((with_reducible refine gate_callee (f := 79) rfl ?_); refine goesL_ (some 10) rfl rfl Try.func79 (by kernel_rfl) rfl #[.int .i64 a0_2] rfl mp_ ?_; (with_reducible refine (handshakerref01_Right.calls a0_2 false _ A3.out).mono ?_); rintro e w' ⟨rfl, ⟨nd, rfl⟩⟩; refine ⟨_, rfl, ?_⟩; (try first | exact ⟨rfl, _, World.drewN_drewN _ _ _⟩ | exact ⟨rfl, _, Eq.trans (World.drewN_drewN _ _ _) (congrArg (World.drewN _) (Nat.add_assoc _ _ _))⟩)) | (go_at_call 79; (with_reducible refine (handshakerref01_Right.calls a0_2 false _ A3.out).mono ?_); rintro e w' ⟨rfl, ⟨nd, rfl⟩⟩; (try first | exact ⟨rfl, _, World.drewN_drewN _ _ _⟩ | exact ⟨rfl, _, Eq.trans (World.drewN_drewN _ _ _) (congrArg (World.drewN _) (Nat.add_assoc _ _ _))⟩))))))
     go_ret
     exact ⟨by first | rfl | (simp [errW_none, errW_some] <;> rfl) | (simp [*, errW_none, errW_some] <;> rfl), bsw_⟩
 · replace c4 := Bool.eq_false_iff.mpr c4
   subst c4
   rw [if_neg (show ¬ (false = true) by decide)] at H
   obtain rfl := Option.some.inj H
   go_enter Try.func85, Try.ntmps85
   go_wp2_with (first | ((with_reducible refine gate_dst (N := 1) rfl ?_); refine box_event ?hg (N := 1) ?hd (cs := #[.int .i64 a0_0, .int .i64 a0_1, .int .i64 a0_2]) (t := 57) ?hr ?_; (case hd => rfl); (case hg => rfl); (case hr => first | (go_simp; done) | (go_simp; rfl)); intro gb313 hg w10 hbox hb; replace BK313 := Aside0.mk (hbox); replace GW313 := Aside0.mk ((by rw [hg]; exact bsz_ : w.heap.size ≤ gb313)); replace HB := Aside0.mk (bst_ hb); replace GE313 := GW313; clear hb hbox hg; have hcz11_0 : w10.cell? ⟨gb313, 0, none⟩ = some (.int .i64 a0_0) := (blk_cell BK313.out 0).trans rfl; have hcz11_1 : w10.cell? ⟨gb313, 1, none⟩ = some (.int .i64 a0_1) := (blk_cell BK313.out 1).trans rfl; have hcz11_2 : w10.cell? ⟨gb313, 2, none⟩ = some (.int .i64 a0_2) := (blk_cell BK313.out 2).trans rfl; have hfz11_0 := blk_frozen BK313.out 0; have hfz11_1 := blk_frozen BK313.out 1; have hfz11_2 := blk_frozen BK313.out 2) | ((first | ((with_reducible refine gate_callee (f := 78) rfl ?_); refine goesL_ (some 7) rfl rfl Try.func78 (by kernel_rfl) rfl #[.int .i64 a0_1] rfl mp_ ?_; (with_reducible refine (handshakerref04_Right.calls a0_1 false _ A2.out).mono ?_); rintro e w' ⟨rfl, ⟨nd, rfl⟩⟩; refine ⟨_, rfl, ?_⟩; (try first | exact ⟨rfl, _, World.drewN_drewN _ _ _⟩ | exact ⟨rfl, _, Eq.trans (World.drewN_drewN _ _ _) (congrArg (World.drewN _) (Nat.add_assoc _ _ _))⟩)) | (go_at_call 78; (with_reducible refine (handshakerref04_Right.calls a0_1 false _ A2.out).mono ?_); rintro e w' ⟨rfl, ⟨nd, rfl⟩⟩; (try first | exact ⟨rfl, _, World.drewN_drewN _ _ _⟩ | exact ⟨rfl, _, Eq.trans (World.drewN_drewN _ _ _) (congrArg (World.drewN _) (Nat.add_assoc _ _ _))⟩)))) | ((first | ((with_reducible refine gate_callee (f := 79) rfl ?_); refine goesL_ (some 10) rfl rfl Try.func79 (by kernel_rfl) rfl #[.int .i64 a0_2] rfl mp_ ?_; (with_reducible refine (handshakerref01_Right.calls a0_2 t315 _ A3.out).mono ?_); rintro e w' ⟨rfl, ⟨nd, rfl⟩⟩; refine ⟨_, rfl, ?_⟩; (try first | exact ⟨rfl, _, World.drewN_drewN _ _ _⟩ | exact ⟨rfl, _, Eq.trans (World.drewN_drewN _ _ _) (congrArg (World.drewN _) (Nat.add_assoc _ _ _))⟩)) | (go_at_call 79; (with_reducible refine (handshakerref01_Right.calls a0_2 t315 _ A3.out).mono ?_); rintro e w' ⟨rfl, ⟨nd, rfl⟩⟩; (try first | exact ⟨rfl, _, World.drewN_drewN _ _ _⟩ | exact ⟨rfl, _, Eq.trans (World.drewN_drewN _ _ _) (congrArg (World.drewN _) (Nat.add_assoc _ _ _))⟩)))))
   repeat (go_quiet (first | ((with_reducible refine gate_dst (N := 1) rfl ?_); refine box_event ?hg (N := 1) ?hd (cs := #[.int .i64 a0_0, .int .i64 a0_1, .int .i64 a0_2]) (t := 57) ?hr ?_; (case hd => rfl); (case hg => rfl); (case hr => first | (go_simp; done) | (go_simp; rfl)); intro gb313 hg w10 hbox hb; replace BK313 := Aside0.mk (hbox); replace GW313 := Aside0.mk ((by rw [hg]; exact bsz_ : w.heap.size ≤ gb313)); replace HB := Aside0.mk (bst_ hb); replace GE313 := GW313; clear hb hbox hg; have hcz11_0 : w10.cell? ⟨gb313, 0, none⟩ = some (.int .i64 a0_0) := (blk_cell BK313.out 0).trans rfl; have hcz11_1 : w10.cell? ⟨gb313, 1, none⟩ = some (.int .i64 a0_1) := (blk_cell BK313.out 1).trans rfl; have hcz11_2 : w10.cell? ⟨gb313, 2, none⟩ = some (.int .i64 a0_2) := (blk_cell BK313.out 2).trans rfl; have hfz11_0 := blk_frozen BK313.out 0; have hfz11_1 := blk_frozen BK313.out 1; have hfz11_2 := blk_frozen BK313.out 2) | ((first | ((with_reducible refine gate_callee (f := 78) rfl ?_); refine goesL_ (some 7) rfl rfl Try.func78 (by kernel_rfl) rfl #[.int .i64 a0_1] rfl mp_ ?_; (with_reducible refine (handshakerref04_Right.calls a0_1 false _ A2.out).mono ?_); rintro e w' ⟨rfl, ⟨nd, rfl⟩⟩; refine ⟨_, rfl, ?_⟩; (try first | exact ⟨rfl, _, World.drewN_drewN _ _ _⟩ | exact ⟨rfl, _, Eq.trans (World.drewN_drewN _ _ _) (congrArg (World.drewN _) (Nat.add_assoc _ _ _))⟩)) | (go_at_call 78; (with_reducible refine (handshakerref04_Right.calls a0_1 false _ A2.out).mono ?_); rintro e w' ⟨rfl, ⟨nd, rfl⟩⟩; (try first | exact ⟨rfl, _, World.drewN_drewN _ _ _⟩ | exact ⟨rfl, _, Eq.trans (World.drewN_drewN _ _ _) (congrArg (World.drewN _) (Nat.add_assoc _ _ _))⟩)))) | ((first | ((with_reducible refine gate_callee (f := 79) rfl ?_); refine goesL_ (some 10) rfl rfl Try.func79 (by kernel_rfl) rfl #[.int .i64 a0_2] rfl mp_ ?_; (with_reducible refine (handshakerref01_Right.calls a0_2 t315 _ A3.out).mono ?_); rintro e w' ⟨rfl, ⟨nd, rfl⟩⟩; refine ⟨_, rfl, ?_⟩; (try first | exact ⟨rfl, _, World.drewN_drewN _ _ _⟩ | exact ⟨rfl, _, Eq.trans (World.drewN_drewN _ _ _) (congrArg (World.drewN _) (Nat.add_assoc _ _ _))⟩)) | (go_at_call 79; (with_reducible refine (handshakerref01_Right.calls a0_2 t315 _ A3.out).mono ?_); rintro e w' ⟨rfl, ⟨nd, rfl⟩⟩; (try first | exact ⟨rfl, _, World.drewN_drewN _ _ _⟩ | exact ⟨rfl, _, Eq.trans (World.drewN_drewN _ _ _) (congrArg (World.drewN _) (Nat.add_assoc _ _ _))⟩))))); try go_wp2_with (first | ((with_reducible refine gate_dst (N := 1) rfl ?_); refine box_event ?hg (N := 1) ?hd (cs := #[.int .i64 a0_0, .int .i64 a0_1, .int .i64 a0_2]) (t := 57) ?hr ?_; (case hd => rfl); (case hg => rfl); (case hr => first | (go_simp; done) | (go_simp; rfl)); intro gb313 hg w10 hbox hb; replace BK313 := Aside0.mk (hbox); replace GW313 := Aside0.mk ((by rw [hg]; exact bsz_ : w.heap.size ≤ gb313)); replace HB := Aside0.mk (bst_ hb); replace GE313 := GW313; clear hb hbox hg; have hcz11_0 : w10.cell? ⟨gb313, 0, none⟩ = some (.int .i64 a0_0) := (blk_cell BK313.out 0).trans rfl; have hcz11_1 : w10.cell? ⟨gb313, 1, none⟩ = some (.int .i64 a0_1) := (blk_cell BK313.out 1).trans rfl; have hcz11_2 : w10.cell? ⟨gb313, 2, none⟩ = some (.int .i64 a0_2) := (blk_cell BK313.out 2).trans rfl; have hfz11_0 := blk_frozen BK313.out 0; have hfz11_1 := blk_frozen BK313.out 1; have hfz11_2 := blk_frozen BK313.out 2) | ((first | ((with_reducible refine gate_callee (f := 78) rfl ?_); refine goesL_ (some 7) rfl rfl Try.func78 (by kernel_rfl) rfl #[.int .i64 a0_1] rfl mp_ ?_; (with_reducible refine (handshakerref04_Right.calls a0_1 false _ A2.out).mono ?_); rintro e w' ⟨rfl, ⟨nd, rfl⟩⟩; refine ⟨_, rfl, ?_⟩; (try first | exact ⟨rfl, _, World.drewN_drewN _ _ _⟩ | exact ⟨rfl, _, Eq.trans (World.drewN_drewN _ _ _) (congrArg (World.drewN _) (Nat.add_assoc _ _ _))⟩)) | (go_at_call 78; (with_reducible refine (handshakerref04_Right.calls a0_1 false _ A2.out).mono ?_); rintro e w' ⟨rfl, ⟨nd, rfl⟩⟩; (try first | exact ⟨rfl, _, World.drewN_drewN _ _ _⟩ | exact ⟨rfl, _, Eq.trans (World.drewN_drewN _ _ _) (congrArg (World.drewN _) (Nat.add_assoc _ _ _))⟩)))) | ((first | ((with_reducible refine gate_callee (f := 79) rfl ?_); refine goesL_ (some 10) rfl rfl Try.func79 (by kernel_rfl) rfl #[.int .i64 a0_2] rfl mp_ ?_; (with_reducible refine (handshakerref01_Right.calls a0_2 t315 _ A3.out).mono ?_); rintro e w' ⟨rfl, ⟨nd, rfl⟩⟩; refine ⟨_, rfl, ?_⟩; (try first | exact ⟨rfl, _, World.drewN_drewN _ _ _⟩ | exact ⟨rfl, _, Eq.trans (World.drewN_drewN _ _ _) (congrArg (World.drewN _) (Nat.add_assoc _ _ _))⟩)) | (go_at_call 79; (with_reducible refine (handshakerref01_Right.calls a0_2 t315 _ A3.out).mono ?_); rintro e w' ⟨rfl, ⟨nd, rfl⟩⟩; (try first | exact ⟨rfl, _, World.drewN_drewN _ _ _⟩ | exact ⟨rfl, _, Eq.trans (World.drewN_drewN _ _ _) (congrArg (World.drewN _) (Nat.add_assoc _ _ _))⟩))))))
   go_ret
   exact ⟨by first | rfl | (simp [errW_none, errW_some] <;> rfl) | (simp [*, errW_none, errW_some] <;> rfl), bsw_⟩

/-! ### handshakerref05_Right: function 55 -/
mutual
def handshakerref05_Right.l0 : Nat → List (S57) → Int → Option (Bool)
 | 0, _, _ => none
 | k + 1, x0, x3 => if x3 < (x0.length : Int) then (if 0 ≤ x3 then ((handshakerref05_one.f ((rd_T57 x0 x3).f0) ((rd_T57 x0 x3).f1) ((rd_T57 x0 x3).f2)).bind fun t317 => (if t317 = true then (handshakerref05_Right.l1 k x0 x3 0) else (some false))) else (none)) else (some (decide ((x0.length : Int) < 25)))
def handshakerref05_Right.l1 : Nat → List (S57) → Int → Int → Option (Bool)
 | 0, _, _, _ => none
 | k + 1, x0, x3, x5 => if x5 < x3 then (if 0 ≤ x5 then (if x5 < (x0.length : Int) then (if 0 ≤ x3 then (if x3 < (x0.length : Int) then (if ((rd_T57 x0 x5).f0) = ((rd_T57 x0 x3).f0) then (some false) else (handshakerref05_Right.l1 k x0 x3 (wrap64 (x5 + 1)))) else (none)) else (none)) else (none)) else (none)) else (handshakerref05_Right.l0 k x0 (wrap64 (x3 + 1)))
end
def handshakerref05_Right.f (k : Nat) (l0 : List (S57)) : Option (Bool) := handshakerref05_Right.l0 k l0 0
theorem handshakerref05_Right.mono_l : ∀ k, (∀ y0 y1, LeO (handshakerref05_Right.l0 k y0 y1) (handshakerref05_Right.l0 (k + 1) y0 y1)) ∧ (∀ y0 y1 y2, LeO (handshakerref05_Right.l1 k y0 y1 y2) (handshakerref05_Right.l1 (k + 1) y0 y1 y2))
 | 0 => ⟨fun _ _ r h => by simp [handshakerref05_Right.l0] at h, fun _ _ _ r h => by simp [handshakerref05_Right.l1] at h⟩
 | k + 1 => by
  obtain ⟨ih0, ih1⟩ := handshakerref05_Right.mono_l k
  refine ⟨?_, ?_⟩
  · intro y0 y1
    unfold handshakerref05_Right.l0
    repeat' first
    | (with_reducible exact ih0 _ _)
    | (with_reducible exact ih1 _ _ _)
    | (with_reducible exact LeO.refl _)
    | (with_reducible exact LeO.none _)
    | (with_reducible refine LeO.ite ?_ ?_)
    | (with_reducible refine LeO.bind ?_ (fun _ => ?_))
    | exact ih0 _ _
    | exact ih1 _ _ _
    | exact LeO.none _
    | refine LeO.ite ?_ ?_
    | refine LeO.bind ?_ (fun _ => ?_)
  · intro y0 y1 y2
    unfold handshakerref05_Right.l1
    repeat' first
    | (with_reducible exact ih0 _ _)
    | (with_reducible exact ih1 _ _ _)
    | (with_reducible exact LeO.refl _)
    | (with_reducible exact LeO.none _)
    | (with_reducible refine LeO.ite ?_ ?_)
    | (with_reducible refine LeO.bind ?_ (fun _ => ?_))
    | exact ih0 _ _
    | exact ih1 _ _ _
    | exact LeO.none _
    | refine LeO.ite ?_ ?_
    | refine LeO.bind ?_ (fun _ => ?_)
theorem handshakerref05_Right.mono : ∀ a0 k, LeO (handshakerref05_Right.f k a0) (handshakerref05_Right.f (k + 1) a0) := by
 intro a0 k
 obtain ⟨ih0, ih1⟩ := handshakerref05_Right.mono_l k
 unfold handshakerref05_Right.f
 repeat' first
  | (with_reducible exact ih0 _ _)
  | (with_reducible exact ih1 _ _ _)
  | (with_reducible exact LeO.refl _)
  | (with_reducible exact LeO.none _)
  | (with_reducible refine LeO.ite ?_ ?_)
  | (with_reducible refine LeO.bind ?_ (fun _ => ?_))
  | exact ih0 _ _
  | exact ih1 _ _ _
  | exact LeO.none _
  | refine LeO.ite ?_ ?_
  | refine LeO.bind ?_ (fun _ => ?_)
set_option maxHeartbeats 8000000 in
set_option maxRecDepth 100000 in
theorem handshakerref05_Right.calls (k : Nat) (A0 : Option Addr) (c0 : Nat) (l0 : List (S57)) (r : Bool) (w : World) (hr0 : Kd.C k57 w A0 l0.length l0) (hc0 : l0.length ≤ c0) (h : handshakerref05_Right.f k l0 = some r) :
 Calls Try.prog 55 #[.slice A0 l0.length c0] w fun e w' => e = .returned (.bool r) ∧ Below w.heap.size w w' := by
 have hu57 := Try.underlying57
 have HR0 := Aside0.mk hr0
 have HC0 := Aside0.mk hc0
 clear hr0 hc0
 have HB := Aside0.mk (Below.refl w.heap.size w)
 have H : (handshakerref05_Right.l0 k l0 0) = some r := h
 clear h
 have H' := Aside0.mk H
 clear H
 go_enter Try.func55, Try.ntmps55
 go_wp2
 repeat (go_quiet (fail); try go_wp2)
 go_loopg [3] k (fun kq v3 w' => ∃ (x3_1 : Int), v3 = .int .i64 x3_1 ∧ Aside0 (handshakerref05_Right.l0 kq l0 x3_1 = some r) ∧ Aside0 (kq ≤ k) ∧ Aside0 (Below w.heap.size w w'))
 case atStart => exact ⟨(0), (by first | rfl | (simp; done) | (simp [*]; done)), H', ⟨Nat.le_refl _⟩, ⟨bsv_⟩⟩
 case round =>
  clear H'
  obtain ⟨x3_1, rfl, HA, HK1, HB⟩ := hrel
  cases gk with
  | zero => exact absurd HA.out (by simp [handshakerref05_Right.l0])
  | succ k1 =>
   have H := HA.out
   clear HA
   simp only [handshakerref05_Right.l0] at H
   by_cases c2 : x3_1 < (l0.length : Int)
   · rw [if_pos c2] at H
     have c2b0 : decide (x3_1 < (l0.length : Int)) = true := decide_eq_true c2
     clear c2
     by_cases c3 : 0 ≤ x3_1
     · rw [if_pos c3] at H
       have c3b0 : decide (0 ≤ x3_1) = true := decide_eq_true c3
       clear c3
       replace H := Option.bind_eq_some_iff.mp H
       obtain ⟨t317, A40, H⟩ := H
       have A4 := Aside0.mk A40
       clear A40
       by_cases c5 : t317 = true
       · subst c5
         rw [if_pos rfl] at H
         have H' := Aside0.mk H
         clear H
         have p316 : 0 ≤ (x3_1 : Int) := oda_
         have q316 : x3_1 < (l0.length : Int) := oda_
         obtain ⟨ad316, e316, hx316_0, hx316_1, hx316_2⟩ := at_T57 HR0.out x3_1 p316 q316
         cases e316
         replace hx316_0 := (HB.out.cell (World.block_lt_of_cell? w _ hx316_0)).trans hx316_0
         replace hx316_1 := (HB.out.cell (World.block_lt_of_cell? w _ hx316_1)).trans hx316_1
         replace hx316_2 := (HB.out.cell (World.block_lt_of_cell? w _ hx316_2)).trans hx316_2
         replace p316 := eq_true p316
         replace q316 := eq_true q316
         go_wp2_with (first | ((first | ((with_reducible refine gate_callee (f := 85) rfl ?_); refine goesL_ (some 16) rfl rfl Try.func85 (by kernel_rfl) rfl #[.agg #[.int .i64 ((rd_T57 l0 x3_1).f0), .int .i64 ((rd_T57 l0 x3_1).f1), .int .i64 ((rd_T57 l0 x3_1).f2)]] rfl mp_ ?_; (with_reducible refine (handshakerref05_one.calls ((rd_T57 l0 x3_1).f0) ((rd_T57 l0 x3_1).f1) ((rd_T57 l0 x3_1).f2) true _ A4.out).mono ?_); rintro e w6 ⟨rfl, hb⟩; refine ⟨_, rfl, ?_⟩; replace HB := Aside0.mk (bst_ hb); (try clear hb); (try clear hb2); (try clear hk); (try clear hi)) | (go_at_call 85; (with_reducible refine (handshakerref05_one.calls ((rd_T57 l0 x3_1).f0) ((rd_T57 l0 x3_1).f1) ((rd_T57 l0 x3_1).f2) true _ A4.out).mono ?_); rintro e w6 ⟨rfl, hb⟩; replace HB := Aside0.mk (bst_ hb); (try clear hb); (try clear hb2); (try clear hk); (try clear hi)))))
         repeat (go_quiet (first | ((first | ((with_reducible refine gate_callee (f := 85) rfl ?_); refine goesL_ (some 16) rfl rfl Try.func85 (by kernel_rfl) rfl #[.agg #[.int .i64 ((rd_T57 l0 x3_1).f0), .int .i64 ((rd_T57 l0 x3_1).f1), .int .i64 ((rd_T57 l0 x3_1).f2)]] rfl mp_ ?_; (with_reducible refine (handshakerref05_one.calls ((rd_T57 l0 x3_1).f0) ((rd_T57 l0 x3_1).f1) ((rd_T57 l0 x3_1).f2) true _ A4.out).mono ?_); rintro e w6 ⟨rfl, hb⟩; refine ⟨_, rfl, ?_⟩; replace HB := Aside0.mk (bst_ hb); (try clear hb); (try clear hb2); (try clear hk); (try clear hi)) | (go_at_call 85; (with_reducible refine (handshakerref05_one.calls ((rd_T57 l0 x3_1).f0) ((rd_T57 l0 x3_1).f1) ((rd_T57 l0 x3_1).f2) true _ A4.out).mono ?_); rintro e w6 ⟨rfl, hb⟩; replace HB := Aside0.mk (bst_ hb); (try clear hb); (try clear hb2); (try clear hk); (try clear hi))))); try go_wp2_with (first | ((first | ((with_reducible refine gate_callee (f := 85) rfl ?_); refine goesL_ (some 16) rfl rfl Try.func85 (by kernel_rfl) rfl #[.agg #[.int .i64 ((rd_T57 l0 x3_1).f0), .int .i64 ((rd_T57 l0 x3_1).f1), .int .i64 ((rd_T57 l0 x3_1).f2)]] rfl mp_ ?_; (with_reducible refine (handshakerref05_one.calls ((rd_T57 l0 x3_1).f0) ((rd_T57 l0 x3_1).f1) ((rd_T57 l0 x3_1).f2) true _ A4.out).mono ?_); rintro e w6 ⟨rfl, hb⟩; refine ⟨_, rfl, ?_⟩; replace HB := Aside0.mk (bst_ hb); (try clear hb); (try clear hb2); (try clear hk); (try clear hi)) | (go_at_call 85; (with_reducible refine (handshakerref05_one.calls ((rd_T57 l0 x3_1).f0) ((rd_T57 l0 x3_1).f1) ((rd_T57 l0 x3_1).f2) true _ A4.out).mono ?_); rintro e w6 ⟨rfl, hb⟩; replace HB := Aside0.mk (bst_ hb); (try clear hb); (try clear hb2); (try clear hk); (try clear hi))))))
         go_loopg [5] k1 (fun kq v5 w' => ∃ (x5_2 : Int), v5 = .int .i64 x5_2 ∧ Aside0 (handshakerref05_Right.l1 kq l0 x3_1 x5_2 = some r) ∧ Aside0 (kq ≤ k1) ∧ Aside0 (Below w.heap.size w w'))
         case atStart => exact ⟨(0), (by first | rfl | (simp; done) | (simp [*]; done)), H', ⟨Nat.le_refl _⟩, ⟨bsv_⟩⟩
         case round =>
          clear H'
          try clear c2
          try clear c2b0
          try clear p2
          try clear c3
          try clear c3b0
          try clear p3
          try clear q3
          try clear hx3
          try clear c5
          try clear hx316_0
          try clear hx316_1
          try clear hx316_2
          try clear p316
          try clear q316
          obtain ⟨x5_2, rfl, HA, HK2, HB⟩ := hrel
          cases gk with
          | zero => exact absurd HA.out (by simp [handshakerref05_Right.l1])
          | succ k2 =>
           have H := HA.out
           clear HA
           simp only [handshakerref05_Right.l1] at H
           by_cases c7 : x5_2 < x3_1
           · rw [if_pos c7] at H
             have c7b0 : decide (x5_2 < x3_1) = true := decide_eq_true c7
             clear c7
             by_cases c8 : 0 ≤ x5_2
             · rw [if_pos c8] at H
               have c8b0 : decide (0 ≤ x5_2) = true := decide_eq_true c8
               clear c8
               by_cases c9 : x5_2 < (l0.length : Int)
               · rw [if_pos c9] at H
                 have c9b0 : decide (x5_2 < (l0.length : Int)) = true := decide_eq_true c9
                 clear c9
                 by_cases c10 : 0 ≤ x3_1
                 · rw [if_pos c10] at H
                   have c10b0 : decide (0 ≤ x3_1) = true := decide_eq_true c10
                   clear c10
                   by_cases c11 : x3_1 < (l0.length : Int)
                   · rw [if_pos c11] at H
                     have c11b0 : decide (x3_1 < (l0.length : Int)) = true := decide_eq_true c11
                     clear c11
                     by_cases c12 : ((rd_T57 l0 x5_2).f0) = ((rd_T57 l0 x3_1).f0)
                     · rw [if_pos c12] at H
                       have c12b0 : (((rd_T57 l0 x5_2).f0) == ((rd_T57 l0 x3_1).f0)) = true := beq_iff_eq.mpr c12
                       have c12b1 : (((rd_T57 l0 x5_2).f0) != ((rd_T57 l0 x3_1).f0)) = false := bne_eq_false_iff_eq.mpr c12
                       clear c12
                       obtain rfl := Option.some.inj H
                       have p318 : 0 ≤ (x5_2 : Int) := oda_
                       have q318 : x5_2 < (l0.length : Int) := oda_
                       obtain ⟨ad318, e318, hx318_0, hx318_1, hx318_2⟩ := at_T57 HR0.out x5_2 p318 q318
                       obtain rfl : ad316 = ad318 := (by injection e318)
                       replace hx318_0 := (HB.out.cell (World.block_lt_of_cell? w _ hx318_0)).trans hx318_0
                       replace hx318_1 := (HB.out.cell (World.block_lt_of_cell? w _ hx318_1)).trans hx318_1
                       replace hx318_2 := (HB.out.cell (World.block_lt_of_cell? w _ hx318_2)).trans hx318_2
                       replace p318 := eq_true p318
                       replace q318 := eq_true q318
                       have p319 : 0 ≤ (x3_1 : Int) := oda_
                       have q319 : x3_1 < (l0.length : Int) := oda_
                       obtain ⟨ad319, e319, hx319_0, hx319_1, hx319_2⟩ := at_T57 HR0.out x3_1 p319 q319
                       obtain rfl : ad316 = ad319 := (by injection e319)
                       replace hx319_0 := (HB.out.cell (World.block_lt_of_cell? w _ hx319_0)).trans hx319_0
                       replace hx319_1 := (HB.out.cell (World.block_lt_of_cell? w _ hx319_1)).trans hx319_1
                       replace hx319_2 := (HB.out.cell (World.block_lt_of_cell? w _ hx319_2)).trans hx319_2
                       replace p319 := eq_true p319
                       replace q319 := eq_true q319
                       go_wp2
                       repeat (go_quiet (fail); try go_wp2)
                       go_ret
                       exact ⟨by first | rfl | (simp [errW_none, errW_some] <;> rfl) | (simp [*, errW_none, errW_some] <;> rfl), bsv_⟩
                     · rw [if_neg c12] at H
                       have c12b0 : (((rd_T57 l0 x5_2).f0) == ((rd_T57 l0 x3_1).f0)) = false := beq_eq_false_iff_ne.mpr c12
                       have c12b1 : (((rd_T57 l0 x5_2).f0) != ((rd_T57 l0 x3_1).f0)) = true := bne_iff_ne.mpr c12
                       have H' := Aside0.mk H
                       clear H
                       have p318 : 0 ≤ (x5_2 : Int) := oda_
                       have q318 : x5_2 < (l0.length : Int) := oda_
                       obtain ⟨ad318, e318, hx318_0, hx318_1, hx318_2⟩ := at_T57 HR0.out x5_2 p318 q318
                       obtain rfl : ad316 = ad318 := (by injection e318)
                       replace hx318_0 := (HB.out.cell (World.block_lt_of_cell? w _ hx318_0)).trans hx318_0
                       replace hx318_1 := (HB.out.cell (World.block_lt_of_cell? w _ hx318_1)).trans hx318_1
                       replace hx318_2 := (HB.out.cell (World.block_lt_of_cell? w _ hx318_2)).trans hx318_2
                       replace p318 := eq_true p318
                       replace q318 := eq_true q318
                       have p319 : 0 ≤ (x3_1 : Int) := oda_
                       have q319 : x3_1 < (l0.length : Int) := oda_
                       obtain ⟨ad319, e319, hx319_0, hx319_1, hx319_2⟩ := at_T57 HR0.out x3_1 p319 q319
                       obtain rfl : ad316 = ad319 := (by injection e319)
                       replace hx319_0 := (HB.out.cell (World.block_lt_of_cell? w _ hx319_0)).trans hx319_0
                       replace hx319_1 := (HB.out.cell (World.block_lt_of_cell? w _ hx319_1)).trans hx319_1
                       replace hx319_2 := (HB.out.cell (World.block_lt_of_cell? w _ hx319_2)).trans hx319_2
                       replace p319 := eq_true p319
                       replace q319 := eq_true q319
                       go_wp2
                       repeat (go_quiet (fail); try go_wp2)
                       go_roundg k2
                       case measure => have := HK1.out; have := HK2.out; omega
                       case rel => exact ⟨(wrap64 (x5_2 + 1)), (by first | rfl | (simp; done) | (simp [*]; done)), H', ⟨by have := HK1.out; have := HK2.out; omega⟩, ⟨bsv_⟩⟩
                   · rw [if_neg c11] at H
                     exact absurd H (by simp)
                 · rw [if_neg c10] at H
                   exact absurd H (by simp)
               · rw [if_neg c9] at H
                 exact absurd H (by simp)
             · rw [if_neg c8] at H
               exact absurd H (by simp)
           · rw [if_neg c7] at H
             have c7b0 : decide (x5_2 < x3_1) = false := decide_eq_false c7
             clear c7
             have H' := Aside0.mk H
             clear H
             go_wp2
             repeat (go_quiet (fail); try go_wp2)
             go_roundg k2
             case measure => have := HK1.out; have := HK2.out; omega
             case rel => exact ⟨(wrap64 (x3_1 + 1)), (by first | rfl | (simp; done) | (simp [*]; done)), H', ⟨by have := HK1.out; have := HK2.out; omega⟩, ⟨bsv_⟩⟩
       · replace c5 := Bool.eq_false_iff.mpr c5
         subst c5
         rw [if_neg (show ¬ (false = true) by decide)] at H
         obtain rfl := Option.some.inj H
         have p316 : 0 ≤ (x3_1 : Int) := oda_
         have q316 : x3_1 < (l0.length : Int) := oda_
         obtain ⟨ad316, e316, hx316_0, hx316_1, hx316_2⟩ := at_T57 HR0.out x3_1 p316 q316
         cases e316
         replace hx316_0 := (HB.out.cell (World.block_lt_of_cell? w _ hx316_0)).trans hx316_0
         replace hx316_1 := (HB.out.cell (World.block_lt_of_cell? w _ hx316_1)).trans hx316_1
         replace hx316_2 := (HB.out.cell (World.block_lt_of_cell? w _ hx316_2)).trans hx316_2
         replace p316 := eq_true p316
         replace q316 := eq_true q316
         go_wp2_with (first | ((first | ((with_reducible refine gate_callee (f := 85) rfl ?_); refine goesL_ (some 16) rfl rfl Try.func85 (by kernel_rfl) rfl #[.agg #[.int .i64 ((rd_T57 l0 x3_1).f0), .int .i64 ((rd_T57 l0 x3_1).f1), .int .i64 ((rd_T57 l0 x3_1).f2)]] rfl mp_ ?_; (with_reducible refine (handshakerref05_one.calls ((rd_T57 l0 x3_1).f0) ((rd_T57 l0 x3_1).f1) ((rd_T57 l0 x3_1).f2) false _ A4.out).mono ?_); rintro e w13 ⟨rfl, hb⟩; refine ⟨_, rfl, ?_⟩; replace HB := Aside0.mk (bst_ hb); (try clear hb); (try clear hb2); (try clear hk); (try clear hi)) | (go_at_call 85; (with_reducible refine (handshakerref05_one.calls ((rd_T57 l0 x3_1).f0) ((rd_T57 l0 x3_1).f1) ((rd_T57 l0 x3_1).f2) false _ A4.out).mono ?_); rintro e w13 ⟨rfl, hb⟩; replace HB := Aside0.mk (bst_ hb); (try clear hb); (try clear hb2); (try clear hk); (try clear hi)))))
         repeat (go_quiet (first | ((first | ((with_reducible refine gate_callee (f := 85) rfl ?_); refine goesL_ (some 16) rfl rfl Try.func85 (by kernel_rfl) rfl #[.agg #[.int .i64 ((rd_T57 l0 x3_1).f0), .int .i64 ((rd_T57 l0 x3_1).f1), .int .i64 ((rd_T57 l0 x3_1).f2)]] rfl mp_ ?_; (with_reducible refine (handshakerref05_one.calls ((rd_T57 l0 x3_1).f0) ((rd_T57 l0 x3_1).f1) ((rd_T57 l0 x3_1).f2) false _ A4.out).mono ?_); rintro e w13 ⟨rfl, hb⟩; refine ⟨_, rfl, ?_⟩; replace HB := Aside0.mk (bst_ hb); (try clear hb); (try clear hb2); (try clear hk); (try clear hi)) | (go_at_call 85; (with_reducible refine (handshakerref05_one.calls ((rd_T57 l0 x3_1).f0) ((rd_T57 l0 x3_1).f1) ((rd_T57 l0 x3_1).f2) false _ A4.out).mono ?_); rintro e w13 ⟨rfl, hb⟩; replace HB := Aside0.mk (bst_ hb); (try clear hb); (try clear hb2); (try clear hk); (try clear hi))))); try go_wp2_with (first | ((first | ((with_reducible refine gate_callee (f := 85) rfl ?_); refine goesL_ (some 16) rfl rfl Try.func85 (by kernel_rfl) rfl #[.agg #[.int .i64 ((rd_T57 l0 x3_1).f0), .int .i64 ((rd_T57 l0 x3_1).f1), .int .i64 ((rd_T57 l0 x3_1).f2)]] rfl mp_ ?_; (with_reducible refine (handshakerref05_one.calls ((rd_T57 l0 x3_1).f0) ((rd_T57 l0 x3_1).f1) ((rd_T57 l0 x3_1).f2) false _ A4.out).mono ?_); rintro e w13 ⟨rfl, hb⟩; refine ⟨_, rfl, ?_⟩; replace HB := Aside0.mk (bst_ hb); (try clear hb); (try clear hb2); (try clear hk); (try clear hi)) | (go_at_call 85; (with_reducible refine (handshakerref05_one.calls ((rd_T57 l0 x3_1).f0) ((rd_T57 l0 x3_1).f1) ((rd_T57 l0 x3_1).f2) false _ A4.out).mono ?_); rintro e w13 ⟨rfl, hb⟩; replace HB := Aside0.mk (bst_ hb); (try clear hb); (try clear hb2); (try clear hk); (try clear hi))))))
         go_ret
         exact ⟨by first | rfl | (simp [errW_none, errW_some] <;> rfl) | (simp [*, errW_none, errW_some] <;> rfl), bsv_⟩
     · rw [if_neg c3] at H
       exact absurd H (by simp)
   · rw [if_neg c2] at H
     have c2b0 : decide (x3_1 < (l0.length : Int)) = false := decide_eq_false c2
     clear c2
     obtain rfl := Option.some.inj H
     go_wp2
     repeat (go_quiet (fail); try go_wp2)
     go_ret
     exact ⟨by first | rfl | (simp [errW_none, errW_some] <;> rfl) | (simp [*, errW_none, errW_some] <;> rfl), bsv_⟩

/-! ### handshakerref05_Cells: function 56 -/
mutual
def handshakerref05_Cells.l0 : Nat → List (S57) → List Int → Int → Option (List Int)
 | 0, _, _, _ => none
 | k + 1, x0, x3, x4 => handshakerref05_Cells.l1 k x0 x3 x4 (-1) 0
def handshakerref05_Cells.l1 : Nat → List (S57) → List Int → Int → Int → Int → Option (List Int)
 | 0, _, _, _, _, _ => none
 | k + 1, x0, x3, x4, x5, x6 => if x6 < (x0.length : Int) then (if 0 ≤ x6 then (if ((rd_T57 x0 x6).f0) > x4 then (if x5 < 0 then (handshakerref05_Cells.l1 k x0 x3 x4 ((rd_T57 x0 x6).f0) (wrap64 (x6 + 1))) else (if ((rd_T57 x0 x6).f0) < x5 then (handshakerref05_Cells.l1 k x0 x3 x4 ((rd_T57 x0 x6).f0) (wrap64 (x6 + 1))) else (handshakerref05_Cells.l1 k x0 x3 x4 x5 (wrap64 (x6 + 1))))) else (handshakerref05_Cells.l1 k x0 x3 x4 x5 (wrap64 (x6 + 1)))) else (none)) else (if x5 < 0 then (some x3) else (if x3.length < 17592186044416 then (handshakerref05_Cells.l0 k x0 (x3 ++ [x5]) x5) else (none)))
end
def handshakerref05_Cells.f (k : Nat) (l0 : List (S57)) : Option (List Int) := handshakerref05_Cells.l0 k l0 ([] : List Int) (-1)
theorem handshakerref05_Cells.mono_l : ∀ k, (∀ y0 y1 y2, LeO (handshakerref05_Cells.l0 k y0 y1 y2) (handshakerref05_Cells.l0 (k + 1) y0 y1 y2)) ∧ (∀ y0 y1 y2 y3 y4, LeO (handshakerref05_Cells.l1 k y0 y1 y2 y3 y4) (handshakerref05_Cells.l1 (k + 1) y0 y1 y2 y3 y4))
 | 0 => ⟨fun _ _ _ r h => by simp [handshakerref05_Cells.l0] at h, fun _ _ _ _ _ r h => by simp [handshakerref05_Cells.l1] at h⟩
 | k + 1 => by
  obtain ⟨ih0, ih1⟩ := handshakerref05_Cells.mono_l k
  refine ⟨?_, ?_⟩
  · intro y0 y1 y2
    unfold handshakerref05_Cells.l0
    repeat' first
    | (with_reducible exact ih0 _ _ _)
    | (with_reducible exact ih1 _ _ _ _ _)
    | (with_reducible exact LeO.refl _)
    | (with_reducible exact LeO.none _)
    | (with_reducible refine LeO.ite ?_ ?_)
    | (with_reducible refine LeO.bind ?_ (fun _ => ?_))
    | exact ih0 _ _ _
    | exact ih1 _ _ _ _ _
    | exact LeO.none _
    | refine LeO.ite ?_ ?_
    | refine LeO.bind ?_ (fun _ => ?_)
  · intro y0 y1 y2 y3 y4
    unfold handshakerref05_Cells.l1
    repeat' first
    | (with_reducible exact ih0 _ _ _)
    | (with_reducible exact ih1 _ _ _ _ _)
    | (with_reducible exact LeO.refl _)
    | (with_reducible exact LeO.none _)
    | (with_reducible refine LeO.ite ?_ ?_)
    | (with_reducible refine LeO.bind ?_ (fun _ => ?_))
    | exact ih0 _ _ _
    | exact ih1 _ _ _ _ _
    | exact LeO.none _
    | refine LeO.ite ?_ ?_
    | refine LeO.bind ?_ (fun _ => ?_)
theorem handshakerref05_Cells.mono : ∀ a0 k, LeO (handshakerref05_Cells.f k a0) (handshakerref05_Cells.f (k + 1) a0) := by
 intro a0 k
 obtain ⟨ih0, ih1⟩ := handshakerref05_Cells.mono_l k
 unfold handshakerref05_Cells.f
 repeat' first
  | (with_reducible exact ih0 _ _ _)
  | (with_reducible exact ih1 _ _ _ _ _)
  | (with_reducible exact LeO.refl _)
  | (with_reducible exact LeO.none _)
  | (with_reducible refine LeO.ite ?_ ?_)
  | (with_reducible refine LeO.bind ?_ (fun _ => ?_))
  | exact ih0 _ _ _
  | exact ih1 _ _ _ _ _
  | exact LeO.none _
  | refine LeO.ite ?_ ?_
  | refine LeO.bind ?_ (fun _ => ?_)
set_option maxHeartbeats 8000000 in
set_option maxRecDepth 100000 in
theorem handshakerref05_Cells.calls (k : Nat) (A0 : Option Addr) (c0 : Nat) (l0 : List (S57)) (r : List Int) (w : World) (hr0 : Kd.C k57 w A0 l0.length l0) (hc0 : l0.length ≤ c0) (h : handshakerref05_Cells.f k l0 = some r) :
 Calls Try.prog 56 #[.slice A0 l0.length c0] w fun e w' => ∃ v0_ : Value, e = .returned (v0_) ∧ Kd.R (Kd.int .i64) 3 w' w.heap.size (fun _ => True) v0_ r ∧ Below w.heap.size w w' := by
 have HR0 := Aside0.mk hr0
 have HC0 := Aside0.mk hc0
 clear hr0 hc0
 have HB := Aside0.mk (Below.refl w.heap.size w)
 have H : (handshakerref05_Cells.l0 k l0 ([] : List Int) (-1)) = some r := h
 clear h
 have H' := Aside0.mk H
 clear H
 go_enter Try.func56, Try.ntmps56
 go_wp2
 go_loopg [3, 4] k (fun kq v3 v4 w' => ∃ (x3_1 : List Int) (x4_1 : Int), v4 = .int .i64 x4_1 ∧ Aside0 (handshakerref05_Cells.l0 kq l0 x3_1 x4_1 = some r) ∧ Aside0 (kq ≤ k) ∧ Aside0 (Kd.R (Kd.int .i64) 3 w' w.heap.size (fun _ => True) v3 x3_1) ∧ Aside0 (Below w.heap.size w w'))
 case atStart => exact ⟨(([] : List Int)), ((-1)), (by first | rfl | (simp; done) | (simp [*]; done)), H', ⟨Nat.le_refl _⟩, ⟨by first | exact Kd.R_nil _ _ _ _ _ | exact Kd.N_nil _ _ _ _ _ | exact Kd.V_nil _ _ _ _ _ | exact Kd.Q_nil _ _ _ _ _ | exact Kd.S_nil _ _ _ _ _⟩, ⟨bsv_⟩⟩
 case round =>
  clear H'
  obtain ⟨x3_1, x4_1, rfl, HA, HK1, HO_3, HB⟩ := hrel
  cases gk with
  | zero => exact absurd HA.out (by simp [handshakerref05_Cells.l0])
  | succ k1 =>
   have H := HA.out
   clear HA
   simp only [handshakerref05_Cells.l0] at H
   have H' := Aside0.mk H
   clear H
   go_wp2
   go_loopg [5, 6] k1 (fun kq v5 v6 w' => ∃ (x5_2 : Int) (x6_2 : Int), v5 = .int .i64 x5_2 ∧ v6 = .int .i64 x6_2 ∧ Aside0 (handshakerref05_Cells.l1 kq l0 x3_1 x4_1 x5_2 x6_2 = some r) ∧ Aside0 (kq ≤ k1) ∧ Aside0 (Kd.R (Kd.int .i64) 3 w' w.heap.size (fun _ => True) u3 x3_1) ∧ Aside0 (Below w.heap.size w w'))
   case atStart => exact ⟨((-1)), (0), (by first | rfl | (simp; done) | (simp [*]; done)), (by first | rfl | (simp; done) | (simp [*]; done)), H', ⟨Nat.le_refl _⟩, ⟨rq_ HO_3⟩, ⟨bsv_⟩⟩
   case round =>
    clear H'
    obtain ⟨x5_2, x6_2, rfl, rfl, HA, HK2, HO_3, HB⟩ := hrel
    cases gk with
    | zero => exact absurd HA.out (by simp [handshakerref05_Cells.l1])
    | succ k2 =>
     have H := HA.out
     clear HA
     simp only [handshakerref05_Cells.l1] at H
     by_cases c2 : x6_2 < (l0.length : Int)
     · rw [if_pos c2] at H
       have c2b0 : decide (x6_2 < (l0.length : Int)) = true := decide_eq_true c2
       clear c2
       by_cases c3 : 0 ≤ x6_2
       · rw [if_pos c3] at H
         have c3b0 : decide (0 ≤ x6_2) = true := decide_eq_true c3
         clear c3
         by_cases c4 : ((rd_T57 l0 x6_2).f0) > x4_1
         · rw [if_pos c4] at H
           have c4b0 : decide (x4_1 < ((rd_T57 l0 x6_2).f0)) = true := decide_eq_true c4
           clear c4
           by_cases c5 : x5_2 < 0
           · rw [if_pos c5] at H
             have c5b0 : decide (x5_2 < 0) = true := decide_eq_true c5
             clear c5
             have H' := Aside0.mk H
             clear H
             have p320 : 0 ≤ (x6_2 : Int) := oda_
             have q320 : x6_2 < (l0.length : Int) := oda_
             obtain ⟨ad320, e320, hx320_0, hx320_1, hx320_2⟩ := at_T57 HR0.out x6_2 p320 q320
             cases e320
             replace hx320_0 := (HB.out.cell (World.block_lt_of_cell? w _ hx320_0)).trans hx320_0
             replace hx320_1 := (HB.out.cell (World.block_lt_of_cell? w _ hx320_1)).trans hx320_1
             replace hx320_2 := (HB.out.cell (World.block_lt_of_cell? w _ hx320_2)).trans hx320_2
             replace p320 := eq_true p320
             replace q320 := eq_true q320
             have p321 : 0 ≤ (x6_2 : Int) := oda_
             have q321 : x6_2 < (l0.length : Int) := oda_
             obtain ⟨ad321, e321, hx321_0, hx321_1, hx321_2⟩ := at_T57 HR0.out x6_2 p321 q321
             obtain rfl : ad320 = ad321 := (by injection e321)
             replace hx321_0 := (HB.out.cell (World.block_lt_of_cell? w _ hx321_0)).trans hx321_0
             replace hx321_1 := (HB.out.cell (World.block_lt_of_cell? w _ hx321_1)).trans hx321_1
             replace hx321_2 := (HB.out.cell (World.block_lt_of_cell? w _ hx321_2)).trans hx321_2
             replace p321 := eq_true p321
             replace q321 := eq_true q321
             go_wp2
             go_roundg k2
             case measure => have := HK1.out; have := HK2.out; omega
             case rel => exact ⟨((rd_T57 l0 x6_2).f0), (wrap64 (x6_2 + 1)), (by first | rfl | (simp; done) | (simp [*]; done)), (by first | rfl | (simp; done) | (simp [*]; done)), H', ⟨by have := HK1.out; have := HK2.out; omega⟩, ⟨rq_ HO_3⟩, ⟨bsv_⟩⟩
           · rw [if_neg c5] at H
             have c5b0 : decide (x5_2 < 0) = false := decide_eq_false c5
             clear c5
             by_cases c6 : ((rd_T57 l0 x6_2).f0) < x5_2
             · rw [if_pos c6] at H
               have c6b0 : decide (((rd_T57 l0 x6_2).f0) < x5_2) = true := decide_eq_true c6
               clear c6
               have H' := Aside0.mk H
               clear H
               have p320 : 0 ≤ (x6_2 : Int) := oda_
               have q320 : x6_2 < (l0.length : Int) := oda_
               obtain ⟨ad320, e320, hx320_0, hx320_1, hx320_2⟩ := at_T57 HR0.out x6_2 p320 q320
               cases e320
               replace hx320_0 := (HB.out.cell (World.block_lt_of_cell? w _ hx320_0)).trans hx320_0
               replace hx320_1 := (HB.out.cell (World.block_lt_of_cell? w _ hx320_1)).trans hx320_1
               replace hx320_2 := (HB.out.cell (World.block_lt_of_cell? w _ hx320_2)).trans hx320_2
               replace p320 := eq_true p320
               replace q320 := eq_true q320
               have p322 : 0 ≤ (x6_2 : Int) := oda_
               have q322 : x6_2 < (l0.length : Int) := oda_
               obtain ⟨ad322, e322, hx322_0, hx322_1, hx322_2⟩ := at_T57 HR0.out x6_2 p322 q322
               obtain rfl : ad320 = ad322 := (by injection e322)
               replace hx322_0 := (HB.out.cell (World.block_lt_of_cell? w _ hx322_0)).trans hx322_0
               replace hx322_1 := (HB.out.cell (World.block_lt_of_cell? w _ hx322_1)).trans hx322_1
               replace hx322_2 := (HB.out.cell (World.block_lt_of_cell? w _ hx322_2)).trans hx322_2
               replace p322 := eq_true p322
               replace q322 := eq_true q322
               have p323 : 0 ≤ (x6_2 : Int) := oda_
               have q323 : x6_2 < (l0.length : Int) := oda_
               obtain ⟨ad323, e323, hx323_0, hx323_1, hx323_2⟩ := at_T57 HR0.out x6_2 p323 q323
               obtain rfl : ad320 = ad323 := (by injection e323)
               replace hx323_0 := (HB.out.cell (World.block_lt_of_cell? w _ hx323_0)).trans hx323_0
               replace hx323_1 := (HB.out.cell (World.block_lt_of_cell? w _ hx323_1)).trans hx323_1
               replace hx323_2 := (HB.out.cell (World.block_lt_of_cell? w _ hx323_2)).trans hx323_2
               replace p323 := eq_true p323
               replace q323 := eq_true q323
               go_wp2
               go_roundg k2
               case measure => have := HK1.out; have := HK2.out; omega
               case rel => exact ⟨((rd_T57 l0 x6_2).f0), (wrap64 (x6_2 + 1)), (by first | rfl | (simp; done) | (simp [*]; done)), (by first | rfl | (simp; done) | (simp [*]; done)), H', ⟨by have := HK1.out; have := HK2.out; omega⟩, ⟨rq_ HO_3⟩, ⟨bsv_⟩⟩
             · rw [if_neg c6] at H
               have c6b0 : decide (((rd_T57 l0 x6_2).f0) < x5_2) = false := decide_eq_false c6
               clear c6
               have H' := Aside0.mk H
               clear H
               have p320 : 0 ≤ (x6_2 : Int) := oda_
               have q320 : x6_2 < (l0.length : Int) := oda_
               obtain ⟨ad320, e320, hx320_0, hx320_1, hx320_2⟩ := at_T57 HR0.out x6_2 p320 q320
               cases e320
               replace hx320_0 := (HB.out.cell (World.block_lt_of_cell? w _ hx320_0)).trans hx320_0
               replace hx320_1 := (HB.out.cell (World.block_lt_of_cell? w _ hx320_1)).trans hx320_1
               replace hx320_2 := (HB.out.cell (World.block_lt_of_cell? w _ hx320_2)).trans hx320_2
               replace p320 := eq_true p320
               replace q320 := eq_true q320
               have p322 : 0 ≤ (x6_2 : Int) := oda_
               have q322 : x6_2 < (l0.length : Int) := oda_
               obtain ⟨ad322, e322, hx322_0, hx322_1, hx322_2⟩ := at_T57 HR0.out x6_2 p322 q322
               obtain rfl : ad320 = ad322 := (by injection e322)
               replace hx322_0 := (HB.out.cell (World.block_lt_of_cell? w _ hx322_0)).trans hx322_0
               replace hx322_1 := (HB.out.cell (World.block_lt_of_cell? w _ hx322_1)).trans hx322_1
               replace hx322_2 := (HB.out.cell (World.block_lt_of_cell? w _ hx322_2)).trans hx322_2
               replace p322 := eq_true p322
               replace q322 := eq_true q322
               go_wp2
               go_roundg k2
               case measure => have := HK1.out; have := HK2.out; omega
               case rel => exact ⟨(x5_2), (wrap64 (x6_2 + 1)), (by first | rfl | (simp; done) | (simp [*]; done)), (by first | rfl | (simp; done) | (simp [*]; done)), H', ⟨by have := HK1.out; have := HK2.out; omega⟩, ⟨rq_ HO_3⟩, ⟨bsv_⟩⟩
         · rw [if_neg c4] at H
           have c4b0 : decide (x4_1 < ((rd_T57 l0 x6_2).f0)) = false := decide_eq_false c4
           clear c4
           have H' := Aside0.mk H
           clear H
           have p320 : 0 ≤ (x6_2 : Int) := oda_
           have q320 : x6_2 < (l0.length : Int) := oda_
           obtain ⟨ad320, e320, hx320_0, hx320_1, hx320_2⟩ := at_T57 HR0.out x6_2 p320 q320
           cases e320
           replace hx320_0 := (HB.out.cell (World.block_lt_of_cell? w _ hx320_0)).trans hx320_0
           replace hx320_1 := (HB.out.cell (World.block_lt_of_cell? w _ hx320_1)).trans hx320_1
           replace hx320_2 := (HB.out.cell (World.block_lt_of_cell? w _ hx320_2)).trans hx320_2
           replace p320 := eq_true p320
           replace q320 := eq_true q320
           go_wp2
           go_roundg k2
           case measure => have := HK1.out; have := HK2.out; omega
           case rel => exact ⟨(x5_2), (wrap64 (x6_2 + 1)), (by first | rfl | (simp; done) | (simp [*]; done)), (by first | rfl | (simp; done) | (simp [*]; done)), H', ⟨by have := HK1.out; have := HK2.out; omega⟩, ⟨rq_ HO_3⟩, ⟨bsv_⟩⟩
       · rw [if_neg c3] at H
         exact absurd H (by simp)
     · rw [if_neg c2] at H
       have c2b0 : decide (x6_2 < (l0.length : Int)) = false := decide_eq_false c2
       clear c2
       by_cases c7 : x5_2 < 0
       · rw [if_pos c7] at H
         have c7b0 : decide (x5_2 < 0) = true := decide_eq_true c7
         clear c7
         obtain rfl := Option.some.inj H
         go_wp2
         go_ret
         exact ⟨_, by first | rfl | (simp [errW_none, errW_some] <;> rfl) | (simp [*, errW_none, errW_some] <;> rfl), rq_ HO_3, bsv_⟩
       · rw [if_neg c7] at H
         have c7b0 : decide (x5_2 < 0) = false := decide_eq_false c7
         clear c7
         by_cases c8 : x3_1.length < 17592186044416
         · rw [if_pos c8] at H
           have LMc8 := Aside0.mk c8
           clear c8
           obtain ⟨y324, hy324⟩ : ∃ y_ : List Int, y_ = (x3_1 ++ [x5_2]) := ⟨_, rfl⟩
           replace H : (handshakerref05_Cells.l0 k2 l0 y324 x5_2) = some r := by first | (rw [hy324]; with_reducible exact H) | (have H2_ := (Option.bind_some _ _).symm.trans H; rw [hy324]; with_reducible exact H2_) | (have H2_ := (Option.bind_some _ _).symm.trans H; with_reducible exact H2_) | with_reducible exact H | (rw [hy324]; exact H) | exact H
           have Ny324 := Aside0.mk hy324
           clear hy324
           have H' := Aside0.mk H
           clear H
           go_wp2_with (first | ((with_reducible refine gate_builtin (b := .append) (xs := #[.tmp 41, .tmp 43]) rfl ?_); at_builtin; refine Kd.R_append (Kd.int .i64) (w0 := w) w.heap.size rfl (.tmp 41) (.tmp 43) 27 3 (.int .i64 0) 8 rfl Try.underlying27 info3 rfl (by decide) (by omega) u3 x3_1 x5_2 [.int .i64 x5_2] (fun _ => True) (fun _ => False) rfl rfl ?aP (fun _ hk => hk.elim) ?aF ?aO ?aB ?aS ?aL ?_; (case aP => exact rfl); (case aB => exact bsv_); (case aF => exact (fun _ _ => trivial)); (case aO => exact (rq_ HO_3)); (case aS => exact bsz_); (case aL => have := LMc8.out; omega); intro v325 w9 ho hb hg hat; rw [← Ny324.out] at ho; replace HB := Aside0.mk (hb); replace HO326 := Aside0.mk (ho); clear HO_3; clear ho hb hg hat))
           go_roundg k2
           case measure => have := HK1.out; have := HK2.out; omega
           case rel => exact ⟨(y324), (x5_2), (by first | rfl | (simp; done) | (simp [*]; done)), H', ⟨by have := HK1.out; have := HK2.out; omega⟩, ⟨rq_ HO326⟩, ⟨bsv_⟩⟩
         · rw [if_neg c8] at H
           exact absurd H (by simp)

/-! ### handshakerref05_Find: function 57 -/
def handshakerref05_Find.l0 : Nat → List (S57) → Int → Int → Option (Int)
 | 0, _, _, _ => none
 | k + 1, x0, x1, x5 => if x5 < (x0.length : Int) then (if 0 ≤ x5 then (if ((rd_T57 x0 x5).f0) = x1 then (some x5) else (handshakerref05_Find.l0 k x0 x1 (wrap64 (x5 + 1)))) else (none)) else (some (-1))
def handshakerref05_Find.f (k : Nat) (l0 : List (S57)) (a1 : Int) : Option (Int) := handshakerref05_Find.l0 k l0 a1 0
theorem handshakerref05_Find.mono_l : ∀ k, (∀ y0 y1 y2, LeO (handshakerref05_Find.l0 k y0 y1 y2) (handshakerref05_Find.l0 (k + 1) y0 y1 y2))
 | 0 => fun _ _ _ r h => by simp [handshakerref05_Find.l0] at h
 | k + 1 => by
  have ih0 := handshakerref05_Find.mono_l k
  · intro y0 y1 y2
    unfold handshakerref05_Find.l0
    repeat' first
    | (with_reducible exact ih0 _ _ _)
    | (with_reducible exact LeO.refl _)
    | (with_reducible exact LeO.none _)
    | (with_reducible refine LeO.ite ?_ ?_)
    | (with_reducible refine LeO.bind ?_ (fun _ => ?_))
    | exact ih0 _ _ _
    | exact LeO.none _
    | refine LeO.ite ?_ ?_
    | refine LeO.bind ?_ (fun _ => ?_)
theorem handshakerref05_Find.mono : ∀ a0 a1 k, LeO (handshakerref05_Find.f k a0 a1) (handshakerref05_Find.f (k + 1) a0 a1) := by
 intro a0 a1 k
 have ih0 := handshakerref05_Find.mono_l k
 unfold handshakerref05_Find.f
 repeat' first
  | (with_reducible exact ih0 _ _ _)
  | (with_reducible exact LeO.refl _)
  | (with_reducible exact LeO.none _)
  | (with_reducible refine LeO.ite ?_ ?_)
  | (with_reducible refine LeO.bind ?_ (fun _ => ?_))
  | exact ih0 _ _ _
  | exact LeO.none _
  | refine LeO.ite ?_ ?_
  | refine LeO.bind ?_ (fun _ => ?_)
set_option maxHeartbeats 8000000 in
set_option maxRecDepth 100000 in
theorem handshakerref05_Find.calls (k : Nat) (A0 : Option Addr) (c0 : Nat) (l0 : List (S57)) (a1 : Int) (r : Int) (w : World) (hr0 : Kd.C k57 w A0 l0.length l0) (hc0 : l0.length ≤ c0) (h : handshakerref05_Find.f k l0 a1 = some r) :
 Calls Try.prog 57 #[.slice A0 l0.length c0, .int .i64 a1] w fun e w' => e = .returned (.int .i64 r) ∧ Drawn0 w w' := by
 have HR0 := Aside0.mk hr0
 have HC0 := Aside0.mk hc0
 clear hr0 hc0
 have H : (handshakerref05_Find.l0 k l0 a1 0) = some r := h
 clear h
 have H' := Aside0.mk H
 clear H
 go_enter Try.func57, Try.ntmps57
 go_wp2
 go_loopg [5] k (fun kq v5 w' => ∃ (x5_1 : Int), v5 = .int .i64 x5_1 ∧ Aside0 (handshakerref05_Find.l0 kq l0 a1 x5_1 = some r) ∧ Aside0 (kq ≤ k) ∧ Drawn0 w w')
 case atStart => exact ⟨(0), (by first | rfl | (simp; done) | (simp [*]; done)), H', ⟨Nat.le_refl _⟩, by repeat (first | exact Drawn0.refl _ | apply Drawn0.step)⟩
 case round =>
  clear H'
  try clear p2
  obtain ⟨x5_1, rfl, HA, HK1, ⟨m1, rfl⟩⟩ := hrel
  cases gk with
  | zero => exact absurd HA.out (by simp [handshakerref05_Find.l0])
  | succ k1 =>
   have H := HA.out
   clear HA
   simp only [handshakerref05_Find.l0] at H
   by_cases c3 : x5_1 < (l0.length : Int)
   · rw [if_pos c3] at H
     have c3b0 : decide (x5_1 < (l0.length : Int)) = true := decide_eq_true c3
     clear c3
     by_cases c4 : 0 ≤ x5_1
     · rw [if_pos c4] at H
       have c4b0 : decide (0 ≤ x5_1) = true := decide_eq_true c4
       clear c4
       by_cases c5 : ((rd_T57 l0 x5_1).f0) = a1
       · rw [if_pos c5] at H
         have c5b0 : (((rd_T57 l0 x5_1).f0) == a1) = true := beq_iff_eq.mpr c5
         have c5b1 : (((rd_T57 l0 x5_1).f0) != a1) = false := bne_eq_false_iff_eq.mpr c5
         clear c5
         obtain rfl := Option.some.inj H
         have p327 : 0 ≤ (x5_1 : Int) := oda_
         have q327 : x5_1 < (l0.length : Int) := oda_
         obtain ⟨ad327, e327, hx327_0, hx327_1, hx327_2⟩ := at_T57 HR0.out x5_1 p327 q327
         cases e327
         replace p327 := eq_true p327
         replace q327 := eq_true q327
         go_wp2
         go_ret
         exact ⟨by first | rfl | (simp; done) | (simp [*]; done), by repeat (first | exact Drawn0.refl _ | apply Drawn0.step)⟩
       · rw [if_neg c5] at H
         have c5b0 : (((rd_T57 l0 x5_1).f0) == a1) = false := beq_eq_false_iff_ne.mpr c5
         have c5b1 : (((rd_T57 l0 x5_1).f0) != a1) = true := bne_iff_ne.mpr c5
         have H' := Aside0.mk H
         clear H
         have p327 : 0 ≤ (x5_1 : Int) := oda_
         have q327 : x5_1 < (l0.length : Int) := oda_
         obtain ⟨ad327, e327, hx327_0, hx327_1, hx327_2⟩ := at_T57 HR0.out x5_1 p327 q327
         cases e327
         replace p327 := eq_true p327
         replace q327 := eq_true q327
         go_wp2
         go_roundg k1
         case measure => have := HK1.out; omega
         case rel => exact ⟨(wrap64 (x5_1 + 1)), (by first | rfl | (simp; done) | (simp [*]; done)), H', ⟨by have := HK1.out; omega⟩, by repeat (first | exact Drawn0.refl _ | apply Drawn0.step)⟩
     · rw [if_neg c4] at H
       exact absurd H (by simp)
   · rw [if_neg c3] at H
     have c3b0 : decide (x5_1 < (l0.length : Int)) = false := decide_eq_false c3
     clear c3
     obtain rfl := Option.some.inj H
     go_wp2
     go_ret
     exact ⟨by first | rfl | (simp; done) | (simp [*]; done), by repeat (first | exact Drawn0.refl _ | apply Drawn0.step)⟩

end Go.Proofs.Ytjnkpocfmpbpoaa.Se
