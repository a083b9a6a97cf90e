-- PRINTED by print.py (a twelfth state) out of the translation. Not trusted: Lean checks it.
import Derived.Test.YtlfmobnmohnjmaaTx0
namespace Go.Proofs.Ytlfmobnmohnjmaa.T
open Go.Proofs.Ytlfmobnmohnjmaa.Ho
open Go.RowKit Go.Proofs.YtlfmobnmohnjmaaW.PrintWords Go.Proofs.YtlfmobnmohnjmaaW.PrintLast Go.Proofs.YtlfmobnmohnjmaaW.PrintMore
attribute [local go_sem] max2_int min2_int max_two min_two max_three min_three max_four min_four   -- for this text's walks alone
set_option linter.unusedVariables false
set_option linter.unusedSimpArgs false

/-! ### handshakerref03_Numbers: function 24 -/
def handshakerref03_Numbers.l0 : Nat → List Int → List Int → Int → Option (Bool)
 | 0, _, _, _ => none
 | k + 1, x0, x1, x5 => if x5 < (x0.length : Int) then (if 0 ≤ x5 then (if x5 < (x1.length : Int) then (if (rd x0 x5) = (rd x1 x5) then (handshakerref03_Numbers.l0 k x0 x1 (wrap64 (x5 + 1))) else (some false)) else (none)) else (none)) else (some true)
def handshakerref03_Numbers.f (k : Nat) (l0 : List Int) (l1 : List Int) : Option (Bool) := if (l0.length : Int) = (l1.length : Int) then (handshakerref03_Numbers.l0 k l0 l1 0) else (some false)
theorem handshakerref03_Numbers.mono_l : ∀ k, (∀ y0 y1 y2, LeO (handshakerref03_Numbers.l0 k y0 y1 y2) (handshakerref03_Numbers.l0 (k + 1) y0 y1 y2))
 | 0 => fun _ _ _ r h => by simp [handshakerref03_Numbers.l0] at h
 | k + 1 => by
  have ih0 := handshakerref03_Numbers.mono_l k
  · intro y0 y1 y2
    unfold handshakerref03_Numbers.l0
    repeat' first
    | (with_reducible exact ih0 _ _ _)
    | (with_reducible exact LeO.refl _)
    | (with_reducible exact LeO.none _)
    | (with_reducible refine LeO.ite ?_ ?_)
    | (with_reducible refine LeO.bind ?_ (fun _ => ?_))
    | exact ih0 _ _ _
    | exact LeO.none _
    | refine LeO.ite ?_ ?_
    | refine LeO.bind ?_ (fun _ => ?_)
theorem handshakerref03_Numbers.mono : ∀ a0 a1 k, LeO (handshakerref03_Numbers.f k a0 a1) (handshakerref03_Numbers.f (k + 1) a0 a1) := by
 intro a0 a1 k
 have ih0 := handshakerref03_Numbers.mono_l k
 unfold handshakerref03_Numbers.f
 repeat' first
  | (with_reducible exact ih0 _ _ _)
  | (with_reducible exact LeO.refl _)
  | (with_reducible exact LeO.none _)
  | (with_reducible refine LeO.ite ?_ ?_)
  | (with_reducible refine LeO.bind ?_ (fun _ => ?_))
  | exact ih0 _ _ _
  | exact LeO.none _
  | refine LeO.ite ?_ ?_
  | refine LeO.bind ?_ (fun _ => ?_)
set_option maxHeartbeats 8000000 in
set_option maxRecDepth 100000 in
theorem handshakerref03_Numbers.calls (k : Nat) (A0 : Option Addr) (c0 : Nat) (l0 : List Int) (A1 : Option Addr) (c1 : Nat) (l1 : List Int) (r : Bool) (w : World) (hr0 : Kd.C (Kd.int .i64) w A0 l0.length l0) (hc0 : l0.length ≤ c0) (hr1 : Kd.C (Kd.int .i64) w A1 l1.length l1) (hc1 : l1.length ≤ c1) (h : handshakerref03_Numbers.f k l0 l1 = some r) :
 Calls Try.prog 24 #[.slice A0 l0.length c0, .slice A1 l1.length c1] w fun e w' => e = .returned (.bool r) ∧ Drawn0 w w' := by
 have HR0 := Aside0.mk hr0
 have HC0 := Aside0.mk hc0
 clear hr0 hc0
 have HR1 := Aside0.mk hr1
 have HC1 := Aside0.mk hc1
 clear hr1 hc1
 have H : (if (l0.length : Int) = (l1.length : Int) then (handshakerref03_Numbers.l0 k l0 l1 0) else (some false)) = some r := h
 clear h
 by_cases c3 : (l0.length : Int) = (l1.length : Int)
 · rw [if_pos c3] at H
   have c3b0 : ((l0.length : Int) == (l1.length : Int)) = true := beq_iff_eq.mpr c3
   have c3b1 : ((l0.length : Int) != (l1.length : Int)) = false := bne_eq_false_iff_eq.mpr c3
   have c3b2 : (l0.length == l1.length) = true := by first | simpa using c3 | (simp at c3 ⊢; omega)
   clear c3
   have H' := Aside0.mk H
   clear H
   go_enter Try.func24, Try.ntmps24
   go_wp2
   repeat (go_quiet (fail); try go_wp2)
   go_loopg [5] k (fun kq v5 w' => ∃ (x5_1 : Int), v5 = .int .i64 x5_1 ∧ Aside0 (handshakerref03_Numbers.l0 kq l0 l1 x5_1 = some r) ∧ Aside0 (kq ≤ k) ∧ Drawn0 w w')
   case atStart => exact ⟨(0), (by first | rfl | (simp; done) | (simp [*]; done)), H', ⟨Nat.le_refl _⟩, by repeat (first | exact Drawn0.refl _ | apply Drawn0.step)⟩
   case round =>
    clear H'
    try clear c1
    try clear c2
    try clear p2
    try clear c3
    try clear c3b0
    try clear c3b1
    try clear c3b2
    obtain ⟨x5_1, rfl, HA, HK1, ⟨m1, rfl⟩⟩ := hrel
    cases gk with
    | zero => exact absurd HA.out (by simp [handshakerref03_Numbers.l0])
    | succ k1 =>
     have H := HA.out
     clear HA
     simp only [handshakerref03_Numbers.l0] at H
     by_cases c4 : x5_1 < (l0.length : Int)
     · rw [if_pos c4] at H
       have c4b0 : decide (x5_1 < (l0.length : Int)) = true := decide_eq_true c4
       clear c4
       by_cases c5 : 0 ≤ x5_1
       · rw [if_pos c5] at H
         have c5b0 : decide (0 ≤ x5_1) = true := decide_eq_true c5
         clear c5
         by_cases c6 : x5_1 < (l1.length : Int)
         · rw [if_pos c6] at H
           have c6b0 : decide (x5_1 < (l1.length : Int)) = true := decide_eq_true c6
           clear c6
           by_cases c7 : (rd l0 x5_1) = (rd l1 x5_1)
           · rw [if_pos c7] at H
             have c7b0 : ((rd l0 x5_1) == (rd l1 x5_1)) = true := beq_iff_eq.mpr c7
             have c7b1 : ((rd l0 x5_1) != (rd l1 x5_1)) = false := bne_eq_false_iff_eq.mpr c7
             clear c7
             have H' := Aside0.mk H
             clear H
             have p101 : 0 ≤ (x5_1 : Int) := of_decide_eq_true (by first | (with_reducible assumption) | assumption)
             have q101 : x5_1 < (l0.length : Int) := of_decide_eq_true (by first | (with_reducible assumption) | assumption)
             obtain ⟨ad101, e101, hx101_0⟩ := Kd.at_int HR0.out x5_1 p101 q101
             cases e101
             replace p101 := eq_true p101
             replace q101 := eq_true q101
             have p102 : 0 ≤ (x5_1 : Int) := of_decide_eq_true (by first | (with_reducible assumption) | assumption)
             have q102 : x5_1 < (l1.length : Int) := of_decide_eq_true (by first | (with_reducible assumption) | assumption)
             obtain ⟨ad102, e102, hx102_0⟩ := Kd.at_int HR1.out x5_1 p102 q102
             cases e102
             replace p102 := eq_true p102
             replace q102 := eq_true q102
             go_wp2
             repeat (go_quiet (fail); try go_wp2)
             go_roundg k1
             case measure => have := HK1.out; omega
             case rel => exact ⟨(wrap64 (x5_1 + 1)), (by first | rfl | (simp; done) | (simp [*]; done)), H', ⟨by have := HK1.out; omega⟩, by repeat (first | exact Drawn0.refl _ | apply Drawn0.step)⟩
           · rw [if_neg c7] at H
             have c7b0 : ((rd l0 x5_1) == (rd l1 x5_1)) = false := beq_eq_false_iff_ne.mpr c7
             have c7b1 : ((rd l0 x5_1) != (rd l1 x5_1)) = true := bne_iff_ne.mpr c7
             obtain rfl := Option.some.inj H
             have p101 : 0 ≤ (x5_1 : Int) := of_decide_eq_true (by first | (with_reducible assumption) | assumption)
             have q101 : x5_1 < (l0.length : Int) := of_decide_eq_true (by first | (with_reducible assumption) | assumption)
             obtain ⟨ad101, e101, hx101_0⟩ := Kd.at_int HR0.out x5_1 p101 q101
             cases e101
             replace p101 := eq_true p101
             replace q101 := eq_true q101
             have p102 : 0 ≤ (x5_1 : Int) := of_decide_eq_true (by first | (with_reducible assumption) | assumption)
             have q102 : x5_1 < (l1.length : Int) := of_decide_eq_true (by first | (with_reducible assumption) | assumption)
             obtain ⟨ad102, e102, hx102_0⟩ := Kd.at_int HR1.out x5_1 p102 q102
             cases e102
             replace p102 := eq_true p102
             replace q102 := eq_true q102
             go_wp2
             repeat (go_quiet (fail); try go_wp2)
             go_ret
             exact ⟨by first | rfl | (simp; done) | (simp [*]; done), by repeat (first | exact Drawn0.refl _ | apply Drawn0.step)⟩
         · rw [if_neg c6] at H
           exact absurd H (by simp)
       · rw [if_neg c5] at H
         exact absurd H (by simp)
     · rw [if_neg c4] at H
       have c4b0 : decide (x5_1 < (l0.length : Int)) = false := decide_eq_false c4
       clear c4
       obtain rfl := Option.some.inj H
       go_wp2
       repeat (go_quiet (fail); try go_wp2)
       go_ret
       exact ⟨by first | rfl | (simp; done) | (simp [*]; done), by repeat (first | exact Drawn0.refl _ | apply Drawn0.step)⟩
 · rw [if_neg c3] at H
   have c3b0 : ((l0.length : Int) == (l1.length : Int)) = false := beq_eq_false_iff_ne.mpr c3
   have c3b1 : ((l0.length : Int) != (l1.length : Int)) = true := bne_iff_ne.mpr c3
   have c3b2 : (l0.length == l1.length) = false := by first | simpa using c3 | (simp at c3 ⊢; omega)
   obtain rfl := Option.some.inj H
   go_enter Try.func24, Try.ntmps24
   go_wp2
   repeat (go_quiet (fail); try go_wp2)
   go_ret
   exact ⟨by first | rfl | (simp; done) | (simp [*]; done), by repeat (first | exact Drawn0.refl _ | apply Drawn0.step)⟩

-- NOT PRINTED: function 78 (slices_IndexFunc_78)

-- NOT PRINTED: function 66 (slices_ContainsFunc_66)

/-! ### stripe_somebody: function 58 -/
def stripe_somebody.f (a0 : Int) : Option (Bool) := if a0 ≥ 1 then (some (decide (a0 ≤ 8))) else (some false)
set_option maxHeartbeats 8000000 in
set_option maxRecDepth 100000 in
theorem stripe_somebody.calls (a0 : Int) (r : Bool) (w : World) (h : stripe_somebody.f a0 = some r) :
 Calls Try.prog 58 #[.int .i64 a0] w fun e w' => e = .returned (.bool r) ∧ Drawn0 w w' := by
 have H : (if a0 ≥ 1 then (some (decide (a0 ≤ 8))) else (some false)) = some r := h
 clear h
 by_cases c2 : a0 ≥ 1
 · rw [if_pos c2] at H
   have c2b0 : decide (1 ≤ a0) = true := decide_eq_true c2
   clear c2
   obtain rfl := Option.some.inj H
   go_enter Try.func58, Try.ntmps58
   go_wp2
   go_ret
   exact ⟨by first | rfl | (simp; done) | (simp [*]; done), by repeat (first | exact Drawn0.refl _ | apply Drawn0.step)⟩
 · rw [if_neg c2] at H
   have c2b0 : decide (1 ≤ a0) = false := decide_eq_false c2
   clear c2
   obtain rfl := Option.some.inj H
   go_enter Try.func58, Try.ntmps58
   go_wp2
   go_ret
   exact ⟨by first | rfl | (simp; done) | (simp [*]; done), by repeat (first | exact Drawn0.refl _ | apply Drawn0.step)⟩

/-! ### stripe_wrong: function 67 -/
def stripe_wrong.f (a0_0 : Int) (a0_1 : Int) : Option (Bool) := if a0_0 < 0 then (some true) else (if a0_0 > 2147483647 then (some true) else (if a0_1 = 0 then (some false) else ((stripe_somebody.f a0_1).bind fun t104 => (some (!t104)))))
set_option maxHeartbeats 8000000 in
set_option maxRecDepth 100000 in
theorem stripe_wrong.calls (a0_0 : Int) (a0_1 : Int) (r : Bool) (w : World) (h : stripe_wrong.f a0_0 a0_1 = some r) :
 Calls Try.prog 67 #[.agg #[.int .i64 a0_0, .int .i64 a0_1]] w fun e w' => e = .returned (.bool r) ∧ Below w.heap.size w w' := by
 have hu67 := Try.underlying67
 have HB := Aside0.mk (Below.refl w.heap.size w)
 have H : (if a0_0 < 0 then (some true) else (if a0_0 > 2147483647 then (some true) else (if a0_1 = 0 then (some false) else ((stripe_somebody.f a0_1).bind fun t104 => (some (!t104)))))) = some r := h
 clear h
 by_cases c2 : a0_0 < 0
 · rw [if_pos c2] at H
   have c2b0 : decide (a0_0 < 0) = true := decide_eq_true c2
   clear c2
   obtain rfl := Option.some.inj H
   go_enter Try.func67, Try.ntmps67
   go_wp2_with (first | ((with_reducible refine gate_dst (N := 1) rfl ?_); refine box_event ?hg (N := 1) ?hd (cs := #[.int .i64 a0_0, .int .i64 a0_1]) (t := 67) ?hr ?_; (case hd => rfl); (case hg => rfl); (case hr => first | (go_simp; done) | (go_simp; rfl)); intro gb103 hg w3 hbox hb; have n0_ := Aside0.mk (bst_ hb); have n1_ := Aside0.mk (hbox); have n2_ := Aside0.mk ((by rw [hg]; exact bsz_ : w.heap.size ≤ gb103)); have n3_ := n2_; clear HB; have HB := n0_; have BK103 := n1_; have GW103 := n2_; have GE103 := n3_; clear n0_ n1_ n2_ n3_; clear hb hbox hg; have hcz4_0 : w3.cell? ⟨gb103, 0, none⟩ = some (.int .i64 a0_0) := (blk_cell BK103.out 0).trans rfl; have hcz4_1 : w3.cell? ⟨gb103, 1, none⟩ = some (.int .i64 a0_1) := (blk_cell BK103.out 1).trans rfl; have hfz4_0 := blk_frozen BK103.out 0; have hfz4_1 := blk_frozen BK103.out 1))
   go_ret
   exact ⟨by first | rfl | (simp [errW_none, errW_some] <;> rfl) | (simp [*, errW_none, errW_some] <;> rfl), by repeat (with_reducible first | exact HB.out | apply below_alloc | apply pw_below_drewN | apply below_drew1 | refine below_set ?_ GE103.out)⟩
 · rw [if_neg c2] at H
   have c2b0 : decide (a0_0 < 0) = false := decide_eq_false c2
   clear c2
   by_cases c5 : a0_0 > 2147483647
   · rw [if_pos c5] at H
     have c5b0 : decide (2147483647 < a0_0) = true := decide_eq_true c5
     clear c5
     obtain rfl := Option.some.inj H
     go_enter Try.func67, Try.ntmps67
     go_wp2_with (first | ((with_reducible refine gate_dst (N := 1) rfl ?_); refine box_event ?hg (N := 1) ?hd (cs := #[.int .i64 a0_0, .int .i64 a0_1]) (t := 67) ?hr ?_; (case hd => rfl); (case hg => rfl); (case hr => first | (go_simp; done) | (go_simp; rfl)); intro gb103 hg w6 hbox hb; have n0_ := Aside0.mk (bst_ hb); have n1_ := Aside0.mk (hbox); have n2_ := Aside0.mk ((by rw [hg]; exact bsz_ : w.heap.size ≤ gb103)); have n3_ := n2_; clear HB; have HB := n0_; have BK103 := n1_; have GW103 := n2_; have GE103 := n3_; clear n0_ n1_ n2_ n3_; clear hb hbox hg; have hcz7_0 : w6.cell? ⟨gb103, 0, none⟩ = some (.int .i64 a0_0) := (blk_cell BK103.out 0).trans rfl; have hcz7_1 : w6.cell? ⟨gb103, 1, none⟩ = some (.int .i64 a0_1) := (blk_cell BK103.out 1).trans rfl; have hfz7_0 := blk_frozen BK103.out 0; have hfz7_1 := blk_frozen BK103.out 1))
     go_ret
     exact ⟨by first | rfl | (simp [errW_none, errW_some] <;> rfl) | (simp [*, errW_none, errW_some] <;> rfl), by repeat (with_reducible first | exact HB.out | apply below_alloc | apply pw_below_drewN | apply below_drew1 | refine below_set ?_ GE103.out)⟩
   · rw [if_neg c5] at H
     have c5b0 : decide (2147483647 < a0_0) = false := decide_eq_false c5
     clear c5
     by_cases c8 : a0_1 = 0
     · rw [if_pos c8] at H
       have c8b0 : (a0_1 == 0) = true := beq_iff_eq.mpr c8
       have c8b1 : (a0_1 != 0) = false := bne_eq_false_iff_eq.mpr c8
       clear c8
       obtain rfl := Option.some.inj H
       go_enter Try.func67, Try.ntmps67
       go_wp2_with (first | ((with_reducible refine gate_dst (N := 1) rfl ?_); refine box_event ?hg (N := 1) ?hd (cs := #[.int .i64 a0_0, .int .i64 a0_1]) (t := 67) ?hr ?_; (case hd => rfl); (case hg => rfl); (case hr => first | (go_simp; done) | (go_simp; rfl)); intro gb103 hg w9 hbox hb; have n0_ := Aside0.mk (bst_ hb); have n1_ := Aside0.mk (hbox); have n2_ := Aside0.mk ((by rw [hg]; exact bsz_ : w.heap.size ≤ gb103)); have n3_ := n2_; clear HB; have HB := n0_; have BK103 := n1_; have GW103 := n2_; have GE103 := n3_; clear n0_ n1_ n2_ n3_; clear hb hbox hg; have hcz10_0 : w9.cell? ⟨gb103, 0, none⟩ = some (.int .i64 a0_0) := (blk_cell BK103.out 0).trans rfl; have hcz10_1 : w9.cell? ⟨gb103, 1, none⟩ = some (.int .i64 a0_1) := (blk_cell BK103.out 1).trans rfl; have hfz10_0 := blk_frozen BK103.out 0; have hfz10_1 := blk_frozen BK103.out 1))
       go_ret
       exact ⟨by first | rfl | (simp [errW_none, errW_some] <;> rfl) | (simp [*, errW_none, errW_some] <;> rfl), by repeat (with_reducible first | exact HB.out | apply below_alloc | apply pw_below_drewN | apply below_drew1 | refine below_set ?_ GE103.out)⟩
     · rw [if_neg c8] at H
       have c8b0 : (a0_1 == 0) = false := beq_eq_false_iff_ne.mpr c8
       have c8b1 : (a0_1 != 0) = true := bne_iff_ne.mpr c8
       replace H := Option.bind_eq_some_iff.mp H
       obtain ⟨t104, A110, H⟩ := H
       replace H : (some (!t104)) = some r := H
       have A11 := Aside0.mk A110
       clear A110
       obtain rfl := Option.some.inj H
       go_enter Try.func67, Try.ntmps67
       go_wp2_with (first | ((with_reducible refine gate_dst (N := 1) rfl ?_); refine box_event ?hg (N := 1) ?hd (cs := #[.int .i64 a0_0, .int .i64 a0_1]) (t := 67) ?hr ?_; (case hd => rfl); (case hg => rfl); (case hr => first | (go_simp; done) | (go_simp; rfl)); intro gb103 hg w12 hbox hb; have n0_ := Aside0.mk (bst_ hb); have n1_ := Aside0.mk (hbox); have n2_ := Aside0.mk ((by rw [hg]; exact bsz_ : w.heap.size ≤ gb103)); have n3_ := n2_; clear HB; have HB := n0_; have BK103 := n1_; have GW103 := n2_; have GE103 := n3_; clear n0_ n1_ n2_ n3_; clear hb hbox hg; have hcz13_0 : w12.cell? ⟨gb103, 0, none⟩ = some (.int .i64 a0_0) := (blk_cell BK103.out 0).trans rfl; have hcz13_1 : w12.cell? ⟨gb103, 1, none⟩ = some (.int .i64 a0_1) := (blk_cell BK103.out 1).trans rfl; have hfz13_0 := blk_frozen BK103.out 0; have hfz13_1 := blk_frozen BK103.out 1) | (go_at_call 58; (with_reducible refine (stripe_somebody.calls a0_1 t104 _ A11.out).mono ?_); rintro e w' ⟨rfl, ⟨nd, rfl⟩⟩))
       go_ret
       exact ⟨by first | rfl | (simp [errW_none, errW_some] <;> rfl) | (simp [*, errW_none, errW_some] <;> rfl), by repeat (with_reducible first | exact HB.out | apply below_alloc | apply pw_below_drewN | apply below_drew1 | refine below_set ?_ GE103.out)⟩

/-! ### ho78: slices.IndexFunc, function 78, at whatever function value that reads -/
set_option maxHeartbeats 2000000 in
theorem ho78 (p : S67 → Option Bool) (g : Nat) (lb : Array Value) (eg : ∀ args w, (callFunc g args).run Try.prog w = .ok (.enter g args) w) (A0 : Option Addr) (c0 : Nat) (l0 : List S67) (r : Int) (w : World)
 (hr0 : Kd.C k67 w A0 l0.length l0)
 (hp : ∀ (W : World) (x : S67) (b : Bool), Below w.heap.size w W → p x = some b → Calls Try.prog g (#[.agg #[.int .i64 x.f0, .int .i64 x.f1]] ++ lb) W fun e W' => e = .returned (.bool b) ∧ Below W.heap.size W W')
 (h : idxF p l0 0 = some r) :
 Calls Try.prog 78 #[.slice A0 l0.length c0, .func (.func g) #[] lb] w fun e w' => e = .returned (.int .i64 r) ∧ Below w.heap.size w w' := by
 have hmax : l0.length ≤ 9223372036854775807 := Kd.C_max hr0
 have hread : ∀ (W : World), Below w.heap.size w W → ∀ j : Nat, j < l0.length → ∃ ad, A0 = some ad ∧ W.cell? (ad.add (j * 2)) = some (.int .i64 ((rd_T67 l0 j).f0)) ∧ W.cell? ⟨(ad.add (j * 2)).block, (ad.add (j * 2)).off + 1, none⟩ = some (.int .i64 ((rd_T67 l0 j).f1)) := by
  intro W hW j hj
  have := at_T67 (Kd.C_below hr0 hW) (j : Int) (by omega) (by omega)
  simpa only [Int.toNat_natCast] using this
 generalize hn : l0.length = n at *
 have HR := Aside0.mk hread
 have HP := Aside0.mk hp
 have HH := Aside0.mk h
 clear hread hp h hr0
 have HN := Aside0.mk hn
 clear hn
 go_enter Try.func78, Try.ntmps78
 go_wp2
 go_loopg [5, 8] n (fun gg _ s8 wr => ∃ kk : Nat, kk ≤ n ∧ n - kk ≤ gg ∧ s8 = .int .i64 kk ∧ Aside0 (Below w.heap.size w wr) ∧ Aside0 (idxF p (l0.drop kk) kk = some r))
 case atStart => exact ⟨0, Nat.zero_le _, by omega, rfl, ⟨Below.refl _ w⟩, ⟨HH.out⟩⟩
 case round =>
  obtain ⟨kk, hkk, hg, rfl, BW, HI⟩ := hrel
  by_cases hlt : kk < n
  · have hltz : (kk : Int) < (n : Int) := by omega
    obtain ⟨ad, e0, q0, q1⟩ := HR.out wr BW.out kk hlt
    have hi := HI.out
    rw [idxF_drop p l0 z67 kk (by rw [HN.out]; exact hlt)] at hi
    obtain ⟨b, hb, hi⟩ := Option.bind_eq_some_iff.mp hi
    have hcall := HP.out wr _ b BW.out hb
    (try rw [show l0.getD kk z67 = rd_T67 l0 kk from rfl] at hcall)
    generalize rd_T67 l0 kk = y at q0 q1 hcall
    subst e0
    clear hb HI
    cases b with
    | true =>
     have hi2 : (kk : Int) = r := by simpa using hi
     clear hi
     have HE := Aside0.mk hi2
     clear hi2
     go_wp2_with (go_at_fn g; refine hcall.mono ?_; rintro e w' ⟨rfl, hb'⟩)
     go_ret
     exact ⟨by first | rfl | (rw [← HE.out]; rfl) | simp [HE.out], BW.out.trans (hb'.mono BW.out.size)⟩
    | false =>
     have hi2 : idxF p (l0.drop (kk + 1)) (kk + 1) = some r := by simpa using hi
     clear hi
     have HE := Aside0.mk hi2
     clear hi2
     go_wp2_with (go_at_fn g; refine hcall.mono ?_; rintro e w' ⟨rfl, hb'⟩)
     go_roundg (n - (kk + 1))
     case measure => omega
     case rel =>
      exact ⟨kk + 1, by omega, by omega, by go_num, ⟨BW.out.trans (hb'.mono BW.out.size)⟩, ⟨HE.out⟩⟩
  · have hltz : ¬ (kk : Int) < (n : Int) := by omega
    have : kk = n := by omega
    subst this
    have hi := HI.out
    rw [List.drop_of_length_le (by rw [HN.out]; omega)] at hi
    have hi2 : -1 = r := by simpa [idxF] using hi
    clear hi HI
    have HE := Aside0.mk hi2
    clear hi2
    go_wp2
    go_ret
    exact ⟨by first | rfl | (rw [← HE.out]; rfl) | simp [HE.out], BW.out⟩

/-! ### ho66: slices.ContainsFunc, function 66 -/
set_option maxHeartbeats 2000000 in
theorem ho66 (p : S67 → Option Bool) (g : Nat) (lb : Array Value) (eg : ∀ args w, (callFunc g args).run Try.prog w = .ok (.enter g args) w) (A0 : Option Addr) (c0 : Nat) (l0 : List S67) (r : Bool) (w : World)
 (hr0 : Kd.C k67 w A0 l0.length l0)
 (hp : ∀ (W : World) (x : S67) (b : Bool), Below w.heap.size w W → p x = some b → Calls Try.prog g (#[.agg #[.int .i64 x.f0, .int .i64 x.f1]] ++ lb) W fun e W' => e = .returned (.bool b) ∧ Below W.heap.size W W')
 (h : anyF p l0 = some r) :
 Calls Try.prog 66 #[.slice A0 l0.length c0, .func (.func g) #[] lb] w fun e w' => e = .returned (.bool r) ∧ Below w.heap.size w w' := by
 obtain ⟨i, hi, hd⟩ := any_idx l0 0 r (by decide) h
 have hc := Aside0.mk (ho78 p g lb eg A0 c0 l0 i w hr0 hp hi)
 have HD := Aside0.mk hd
 clear hd hi h hp hr0 eg
 go_enter Try.func66, Try.ntmps66
 go_wp2_with (go_at_call 78; refine hc.out.mono ?_; rintro e w' ⟨rfl, hb⟩)
 go_ret
 exact ⟨by first | rfl | (rw [← HD.out]; rfl) | simp [HD.out], hb⟩

/-! ### any_at_stripe_wrong: function 66 at the function value 67 -/
def any_at_stripe_wrong.f (l0 : List (S67)) : Option (Bool) := anyF (fun x => stripe_wrong.f x.f0 x.f1) l0
theorem any_at_stripe_wrong.calls (A0 : Option Addr) (c0 : Nat) (l0 : List (S67)) (r : Bool) (w : World) (hr0 : Kd.C k67 w A0 l0.length l0) (hc0 : l0.length ≤ c0) (h : any_at_stripe_wrong.f l0 = some r) :
 Calls Try.prog 66 #[.slice A0 l0.length c0, .func (.func 67) #[] #[]] w fun e w' => e = .returned (.bool r) ∧ Below w.heap.size w w' :=
 ho66 (fun x => stripe_wrong.f x.f0 x.f1) 67 #[] (enters_of Try.func67 (by kernel_rfl) rfl) A0 c0 l0 r w hr0 (fun W x b hW_ hx => by
  show Calls Try.prog 67 #[.agg #[.int .i64 x.f0, .int .i64 x.f1]] W _
  exact (stripe_wrong.calls x.f0 x.f1 b W hx).mono (fun e W' ⟨he, hd⟩ => ⟨he, hd⟩)) h

/-! ### stripe_Right: function 37 -/
def stripe_Right.f (l0 : List (S67)) : Option (Bool) := if (l0.length : Int) ≥ 1 then (if (l0.length : Int) ≤ 16 then ((any_at_stripe_wrong.f l0).bind fun t105 => (some (!t105))) else (some false)) else (some false)
set_option maxHeartbeats 8000000 in
set_option maxRecDepth 100000 in
theorem stripe_Right.calls (A0 : Option Addr) (c0 : Nat) (l0 : List (S67)) (r : Bool) (w : World) (hr0 : Kd.C k67 w A0 l0.length l0) (hc0 : l0.length ≤ c0) (h : stripe_Right.f l0 = some r) :
 Calls Try.prog 37 #[.slice A0 l0.length c0] w fun e w' => e = .returned (.bool r) ∧ Below w.heap.size w w' := by
 have HR0 := Aside0.mk hr0
 have HC0 := Aside0.mk hc0
 clear hr0 hc0
 have HB := Aside0.mk (Below.refl w.heap.size w)
 have H : (if (l0.length : Int) ≥ 1 then (if (l0.length : Int) ≤ 16 then ((any_at_stripe_wrong.f l0).bind fun t105 => (some (!t105))) else (some false)) else (some false)) = some r := h
 clear h
 by_cases c2 : (l0.length : Int) ≥ 1
 · rw [if_pos c2] at H
   have c2b0 : decide (1 ≤ (l0.length : Int)) = true := decide_eq_true c2
   have c2b1 : decide (1 ≤ l0.length) = true := decide_eq_true (by omega)
   clear c2
   by_cases c3 : (l0.length : Int) ≤ 16
   · rw [if_pos c3] at H
     have c3b0 : decide ((l0.length : Int) ≤ 16) = true := decide_eq_true c3
     have c3b1 : decide (l0.length ≤ 16) = true := decide_eq_true (by omega)
     clear c3
     replace H := Option.bind_eq_some_iff.mp H
     obtain ⟨t105, A40, H⟩ := H
     replace H : (some (!t105)) = some r := H
     have A4 := Aside0.mk A40
     clear A40
     obtain rfl := Option.some.inj H
     go_enter Try.func37, Try.ntmps37
     go_wp2_with (first | (go_at_call 66; (with_reducible refine (any_at_stripe_wrong.calls _ _ l0 t105 _ ?side1 ?side2 A4.out).mono ?_); (case side1 => repeat (first | exact HR0.out | with_reducible first | refine Kd.C_alloc ?_ _ | refine Kd.C_drewN ?_ _ | refine Kd.C_drew ?_)); (case side2 => exact HC0.out); rintro e w5 ⟨rfl, hb⟩; have n0_ := Aside0.mk (bst_ hb); clear HB; have HB := n0_; clear n0_; (try clear hb); (try clear hb2); (try clear hk); (try clear hi)))
     go_ret
     exact ⟨by first | rfl | (simp [errW_none, errW_some] <;> rfl) | (simp [*, errW_none, errW_some] <;> rfl), by repeat (with_reducible first | exact HB.out | apply below_alloc | apply pw_below_drewN | apply below_drew1)⟩
   · rw [if_neg c3] at H
     have c3b0 : decide ((l0.length : Int) ≤ 16) = false := decide_eq_false c3
     have c3b1 : decide (l0.length ≤ 16) = false := decide_eq_false (by omega)
     clear c3
     obtain rfl := Option.some.inj H
     go_enter Try.func37, Try.ntmps37
     go_wp2
     go_ret
     exact ⟨by first | rfl | (simp [errW_none, errW_some] <;> rfl) | (simp [*, errW_none, errW_some] <;> rfl), by repeat (with_reducible first | exact HB.out | apply below_alloc | apply pw_below_drewN | apply below_drew1)⟩
 · rw [if_neg c2] at H
   have c2b0 : decide (1 ≤ (l0.length : Int)) = false := decide_eq_false c2
   have c2b1 : decide (1 ≤ l0.length) = false := decide_eq_false (by omega)
   clear c2
   obtain rfl := Option.some.inj H
   go_enter Try.func37, Try.ntmps37
   go_wp2
   go_ret
   exact ⟨by first | rfl | (simp [errW_none, errW_some] <;> rfl) | (simp [*, errW_none, errW_some] <;> rfl), by repeat (with_reducible first | exact HB.out | apply below_alloc | apply pw_below_drewN | apply below_drew1)⟩

/-! ### slices_Sort: function 50: the library's, by its contract -/
def slices_Sort.f (l0 : List Int) : Option (List Int) := if l0.length < 4611686018427387904 then some (Is.isort l0) else none
set_option maxHeartbeats 2000000 in
theorem slices_Sort.calls (P0_ : Nat → Prop) (u9000_ : Value) (l0 : List Int) (r : List Int) (w0 w : World) (hB : Below w0.heap.size w0 w) (ho0 : Kd.R (Kd.int .i64) 3 w w0.heap.size P0_ u9000_ l0) (h : slices_Sort.f l0 = some r) :
 Calls Try.prog 50 #[u9000_] w fun e w' => e = .returned (.tuple #[]) ∧ Kd.R (Kd.int .i64) 3 w' w0.heap.size (fun k_ => (P0_ k_ ∨ w.heap.size ≤ k_)) u9000_ r ∧ Below w0.heap.size w0 w' ∧ Kept w w' (fun k_ => P0_ k_) := by
 unfold slices_Sort.f at h
 rw [Is.isort_eq] at h
 split at h
 case isFalse => exact absurd h (by simp)
 rename_i hlen
 obtain rfl := Option.some.inj h
 rcases Nat.eq_zero_or_pos l0.length with h0 | h0
 · obtain rfl : l0 = [] := List.length_eq_zero_iff.1 h0
   obtain ⟨_, ho⟩ := Kd.R_own ho0
   obtain ⟨A, c, rfl⟩ := own_slice ho
   refine (Try.slices_Sort_int_none A c w).mono ?_
   rintro e w' ⟨rfl, rfl⟩
   exact ⟨rfl, Kd.R_mono (by simpa using ho0) (fun k hk => .inl hk), hB, Kept.refl _ _⟩
 · obtain ⟨g, cap, rfl, hbg, hgl, _⟩ := Kd.R_form ho0 h0
   refine (Try.slices_Sort_int g 0 cap l0 w (So.holds_of ho0) hgl hlen).mono ?_
   rintro e w' ⟨rfl, n, os, rfl⟩
   have hl : (l0.mergeSort fun x y => decide (x ≤ y)).length = l0.length := List.length_mergeSort _
   have hr := So.put_row ho0 n _ (l0.mergeSort fun x y => decide (x ≤ y)) os hl (by rw [List.take_length]) h0
   rw [hl] at hr
   exact ⟨rfl, Kd.R_mono hr (fun k hk => .inl hk), So.put_below hB n g _ os hgl hbg, So.put_kept n g _ os hgl (ho0.1 g rfl)⟩

-- NOT PRINTED: function 77 (slices_IndexFunc_77)

-- NOT PRINTED: function 59 (slices_ContainsFunc_59)

/-! ### stripe_below: function 60 -/
def stripe_below.f (a0 : Int) : Option (Bool) := some (decide (a0 < 0))
set_option maxHeartbeats 8000000 in
set_option maxRecDepth 100000 in
theorem stripe_below.calls (a0 : Int) (r : Bool) (w : World) (h : stripe_below.f a0 = some r) :
 Calls Try.prog 60 #[.int .i64 a0] w fun e w' => e = .returned (.bool r) ∧ Drawn0 w w' := by
 have H : (some (decide (a0 < 0))) = some r := h
 clear h
 obtain rfl := Option.some.inj H
 go_enter Try.func60, Try.ntmps60
 go_wp2
 go_ret
 exact ⟨by first | rfl | (simp; done) | (simp [*]; done), by repeat (first | exact Drawn0.refl _ | apply Drawn0.step)⟩

/-! ### slices_Compact: function 62: the library's, by its contract -/
def slices_Compact.f (l0 : List Int) : Option (List Int) := if l0.length ≤ 9223372036854775807 then some (Go.Lib.compact l0) else none
set_option maxHeartbeats 2000000 in
theorem slices_Compact.calls (P0_ : Nat → Prop) (u9000_ : Value) (l0 : List Int) (r : List Int) (w0 w : World) (hB : Below w0.heap.size w0 w) (ho0 : Kd.R (Kd.int .i64) 3 w w0.heap.size P0_ u9000_ l0) (h : slices_Compact.f l0 = some r) :
 Calls Try.prog 62 #[u9000_] w fun e w' => ∃ v0_ : Value, e = .returned (v0_) ∧ Kd.R (Kd.int .i64) 3 w' w0.heap.size (fun k_ => (P0_ k_ ∨ w.heap.size ≤ k_)) v0_ r ∧ Below w0.heap.size w0 w' ∧ Kept w w' (fun k_ => P0_ k_) := by
 unfold slices_Compact.f at h
 split at h
 case isFalse => exact absurd h (by simp)
 rename_i hlen
 obtain rfl := Option.some.inj h
 rcases Nat.eq_zero_or_pos l0.length with h0 | h0
 · obtain rfl : l0 = [] := List.length_eq_zero_iff.1 h0
   obtain ⟨_, ho⟩ := Kd.R_own ho0
   obtain ⟨A, c, rfl⟩ := own_slice ho
   refine (Try.slices_Compact_int_empty A c w).mono ?_
   rintro e w' ⟨rfl, rfl⟩
   exact ⟨_, rfl, Kd.R_mono (by simpa [Go.Lib.compact, Go.Lib.compactUpTo] using ho0) (fun k hk => .inl hk), hB, Kept.refl _ _⟩
 · obtain ⟨g, cap, rfl, hbg, hgl, _⟩ := Kd.R_form ho0 h0
   have hcap : l0.length ≤ cap := by
    rcases (Kd.own_of_R (enc := Value.int .i64) (h1 := fun _ => rfl) ho0).2 with ⟨e1, _⟩ | ⟨g', cap', cur, e1, _, _, hn, _⟩
    · cases e1
    · injection e1 with e1 e2 e3
      omega
   refine (Try.slices_Compact_int g 0 cap l0 w (So.holds_of ho0) hlen hcap).mono ?_
   rintro e w' ⟨rfl, q, rfl⟩
   have hcl : (Go.Lib.compact l0).length ≤ l0.length := So.compact_len l0
   rw [← Go.Sort.grow_empty (Go.Sort.putRow _ _ _ _ _)]
   have hr := So.put_row ho0 q (Go.Lib.compact l0 ++ List.replicate (l0.length - (Go.Lib.compact l0).length) 0) (Go.Lib.compact l0) #[] (by rw [List.length_append, List.length_replicate]; omega) (by rw [List.take_left']; rfl) h0
   exact ⟨_, rfl, Kd.R_mono hr (fun k hk => .inl hk), So.put_below hB q g _ #[] hgl hbg, So.put_kept q g _ #[] hgl (ho0.1 g rfl)⟩

/-! ### ho77: slices.IndexFunc, function 77, at whatever function value that reads -/
set_option maxHeartbeats 2000000 in
theorem ho77 (p : Int → Option Bool) (g : Nat) (lb : Array Value) (eg : ∀ args w, (callFunc g args).run Try.prog w = .ok (.enter g args) w) (A0 : Option Addr) (c0 : Nat) (l0 : List Int) (r : Int) (w : World)
 (hr0 : Kd.C (Kd.int .i64) w A0 l0.length l0)
 (hp : ∀ (W : World) (x : Int) (b : Bool), Below w.heap.size w W → p x = some b → Calls Try.prog g (#[.int .i64 x] ++ lb) W fun e W' => e = .returned (.bool b) ∧ Below W.heap.size W W')
 (h : idxF p l0 0 = some r) :
 Calls Try.prog 77 #[.slice A0 l0.length c0, .func (.func g) #[] lb] w fun e w' => e = .returned (.int .i64 r) ∧ Below w.heap.size w w' := by
 have hmax : l0.length ≤ 9223372036854775807 := Kd.C_max hr0
 have hread : ∀ (W : World), Below w.heap.size w W → ∀ j : Nat, j < l0.length → ∃ ad, A0 = some ad ∧ W.cell? (ad.add j) = some (.int .i64 (rd l0 j)) := by
  intro W hW j hj
  have := Kd.at_int (Kd.C_below hr0 hW) (j : Int) (by omega) (by omega)
  simpa only [Int.toNat_natCast] using this
 generalize hn : l0.length = n at *
 have HR := Aside0.mk hread
 have HP := Aside0.mk hp
 have HH := Aside0.mk h
 clear hread hp h hr0
 have HN := Aside0.mk hn
 clear hn
 go_enter Try.func77, Try.ntmps77
 go_wp2
 go_loopg [5, 8] n (fun gg _ s8 wr => ∃ kk : Nat, kk ≤ n ∧ n - kk ≤ gg ∧ s8 = .int .i64 kk ∧ Aside0 (Below w.heap.size w wr) ∧ Aside0 (idxF p (l0.drop kk) kk = some r))
 case atStart => exact ⟨0, Nat.zero_le _, by omega, rfl, ⟨Below.refl _ w⟩, ⟨HH.out⟩⟩
 case round =>
  obtain ⟨kk, hkk, hg, rfl, BW, HI⟩ := hrel
  by_cases hlt : kk < n
  · have hltz : (kk : Int) < (n : Int) := by omega
    obtain ⟨ad, e0, q0⟩ := HR.out wr BW.out kk hlt
    have hi := HI.out
    rw [idxF_drop p l0 0 kk (by rw [HN.out]; exact hlt)] at hi
    obtain ⟨b, hb, hi⟩ := Option.bind_eq_some_iff.mp hi
    have hcall := HP.out wr _ b BW.out hb
    (try rw [show l0.getD kk 0 = rd l0 kk from rfl] at hcall)
    generalize rd l0 kk = y at q0 hcall
    subst e0
    clear hb HI
    cases b with
    | true =>
     have hi2 : (kk : Int) = r := by simpa using hi
     clear hi
     have HE := Aside0.mk hi2
     clear hi2
     go_wp2_with (go_at_fn g; refine hcall.mono ?_; rintro e w' ⟨rfl, hb'⟩)
     go_ret
     exact ⟨by first | rfl | (rw [← HE.out]; rfl) | simp [HE.out], BW.out.trans (hb'.mono BW.out.size)⟩
    | false =>
     have hi2 : idxF p (l0.drop (kk + 1)) (kk + 1) = some r := by simpa using hi
     clear hi
     have HE := Aside0.mk hi2
     clear hi2
     go_wp2_with (go_at_fn g; refine hcall.mono ?_; rintro e w' ⟨rfl, hb'⟩)
     go_roundg (n - (kk + 1))
     case measure => omega
     case rel =>
      exact ⟨kk + 1, by omega, by omega, by go_num, ⟨BW.out.trans (hb'.mono BW.out.size)⟩, ⟨HE.out⟩⟩
  · have hltz : ¬ (kk : Int) < (n : Int) := by omega
    have : kk = n := by omega
    subst this
    have hi := HI.out
    rw [List.drop_of_length_le (by rw [HN.out]; omega)] at hi
    have hi2 : -1 = r := by simpa [idxF] using hi
    clear hi HI
    have HE := Aside0.mk hi2
    clear hi2
    go_wp2
    go_ret
    exact ⟨by first | rfl | (rw [← HE.out]; rfl) | simp [HE.out], BW.out⟩

/-! ### ho59: slices.ContainsFunc, function 59 -/
set_option maxHeartbeats 2000000 in
theorem ho59 (p : Int → Option Bool) (g : Nat) (lb : Array Value) (eg : ∀ args w, (callFunc g args).run Try.prog w = .ok (.enter g args) w) (A0 : Option Addr) (c0 : Nat) (l0 : List Int) (r : Bool) (w : World)
 (hr0 : Kd.C (Kd.int .i64) w A0 l0.length l0)
 (hp : ∀ (W : World) (x : Int) (b : Bool), Below w.heap.size w W → p x = some b → Calls Try.prog g (#[.int .i64 x] ++ lb) W fun e W' => e = .returned (.bool b) ∧ Below W.heap.size W W')
 (h : anyF p l0 = some r) :
 Calls Try.prog 59 #[.slice A0 l0.length c0, .func (.func g) #[] lb] w fun e w' => e = .returned (.bool r) ∧ Below w.heap.size w w' := by
 obtain ⟨i, hi, hd⟩ := any_idx l0 0 r (by decide) h
 have hc := Aside0.mk (ho77 p g lb eg A0 c0 l0 i w hr0 hp hi)
 have HD := Aside0.mk hd
 clear hd hi h hp hr0 eg
 go_enter Try.func59, Try.ntmps59
 go_wp2_with (go_at_call 77; refine hc.out.mono ?_; rintro e w' ⟨rfl, hb⟩)
 go_ret
 exact ⟨by first | rfl | (rw [← HD.out]; rfl) | simp [HD.out], hb⟩

/-! ### any_at_stripe_below: function 59 at the function value 60 -/
def any_at_stripe_below.f (l0 : List (Int)) : Option (Bool) := anyF (fun x => stripe_below.f x) l0
theorem any_at_stripe_below.calls (A0 : Option Addr) (c0 : Nat) (l0 : List (Int)) (r : Bool) (w : World) (hr0 : Kd.C (Kd.int .i64) w A0 l0.length l0) (hc0 : l0.length ≤ c0) (h : any_at_stripe_below.f l0 = some r) :
 Calls Try.prog 59 #[.slice A0 l0.length c0, .func (.func 60) #[] #[]] w fun e w' => e = .returned (.bool r) ∧ Below w.heap.size w w' :=
 ho59 (fun x => stripe_below.f x) 60 #[] (enters_of Try.func60 (by kernel_rfl) rfl) A0 c0 l0 r w hr0 (fun W x b hW_ hx => by
  show Calls Try.prog 60 #[.int .i64 x] W _
  exact (stripe_below.calls x b W hx).mono (fun e W' ⟨he, hd⟩ => ⟨he, hd.below⟩)) h

/-! ### stripe_Of: function 31 -/
mutual
def stripe_Of.j0 : Nat → List (S67) → List Int → Bool → Option (List Int)
 | 0, _, _, _ => none
 | k + 1, x0, x1, x14 => if x14 = true then (some ([] : List Int)) else (stripe_Of.l0 k x0 ([] : List Int) x1 (x1.length : Int) 0)
def stripe_Of.l0 : Nat → List (S67) → List Int → List Int → Int → Int → Option (List Int)
 | 0, _, _, _, _, _ => none
 | k + 1, x0, x5, x15, x16, x17 => if x17 < x16 then (if 0 ≤ x17 then (if x17 < (x15.length : Int) then (if (x0.length : Int) = 0 then (none) else (if x5.length < 17592186044416 then (stripe_Of.l0 k x0 (x5 ++ [Int.tmod (rd x15 x17) (x0.length : Int)]) x15 x16 (wrap64 (x17 + 1))) else (none))) else (none)) else (none)) else ((slices_Sort.f x5).bind fun t112 => ((slices_Compact.f t112).bind fun t113 => (some t113)))
end
def stripe_Of.f (k : Nat) (l0 : List (S67)) (l1 : List Int) : Option (List Int) := (stripe_Right.f l0).bind fun t106 => (if t106 = true then ((any_at_stripe_below.f l1).bind fun t107 => (stripe_Of.j0 k l0 l1 t107)) else (stripe_Of.j0 k l0 l1 true))
theorem stripe_Of.mono_l : ∀ k, (∀ y0 y1 y2, LeO (stripe_Of.j0 k y0 y1 y2) (stripe_Of.j0 (k + 1) y0 y1 y2)) ∧ (∀ y0 y1 y2 y3 y4, LeO (stripe_Of.l0 k y0 y1 y2 y3 y4) (stripe_Of.l0 (k + 1) y0 y1 y2 y3 y4))
 | 0 => ⟨fun _ _ _ r h => by simp [stripe_Of.j0] at h, fun _ _ _ _ _ r h => by simp [stripe_Of.l0] at h⟩
 | k + 1 => by
  obtain ⟨ih0, ih1⟩ := stripe_Of.mono_l k
  refine ⟨?_, ?_⟩
  · intro y0 y1 y2
    unfold stripe_Of.j0
    repeat' first
    | (with_reducible exact ih0 _ _ _)
    | (with_reducible exact ih1 _ _ _ _ _)
    | (with_reducible exact LeO.refl _)
    | (with_reducible exact LeO.none _)
    | (with_reducible refine LeO.ite ?_ ?_)
    | (with_reducible refine LeO.bind ?_ (fun _ => ?_))
    | exact ih0 _ _ _
    | exact ih1 _ _ _ _ _
    | exact LeO.none _
    | refine LeO.ite ?_ ?_
    | refine LeO.bind ?_ (fun _ => ?_)
  · intro y0 y1 y2 y3 y4
    unfold stripe_Of.l0
    repeat' first
    | (with_reducible exact ih0 _ _ _)
    | (with_reducible exact ih1 _ _ _ _ _)
    | (with_reducible exact LeO.refl _)
    | (with_reducible exact LeO.none _)
    | (with_reducible refine LeO.ite ?_ ?_)
    | (with_reducible refine LeO.bind ?_ (fun _ => ?_))
    | exact ih0 _ _ _
    | exact ih1 _ _ _ _ _
    | exact LeO.none _
    | refine LeO.ite ?_ ?_
    | refine LeO.bind ?_ (fun _ => ?_)
theorem stripe_Of.mono : ∀ a0 a1 k, LeO (stripe_Of.f k a0 a1) (stripe_Of.f (k + 1) a0 a1) := by
 intro a0 a1 k
 obtain ⟨ih0, ih1⟩ := stripe_Of.mono_l k
 unfold stripe_Of.f
 repeat' first
  | (with_reducible exact ih0 _ _ _)
  | (with_reducible exact ih1 _ _ _ _ _)
  | (with_reducible exact LeO.refl _)
  | (with_reducible exact LeO.none _)
  | (with_reducible refine LeO.ite ?_ ?_)
  | (with_reducible refine LeO.bind ?_ (fun _ => ?_))
  | exact ih0 _ _ _
  | exact ih1 _ _ _ _ _
  | exact LeO.none _
  | refine LeO.ite ?_ ?_
  | refine LeO.bind ?_ (fun _ => ?_)
set_option maxHeartbeats 8000000 in
set_option maxRecDepth 100000 in
theorem stripe_Of.calls (k : Nat) (A0 : Option Addr) (c0 : Nat) (l0 : List (S67)) (A1 : Option Addr) (c1 : Nat) (l1 : List Int) (r : List Int) (w : World) (hr0 : Kd.C k67 w A0 l0.length l0) (hc0 : l0.length ≤ c0) (hr1 : Kd.C (Kd.int .i64) w A1 l1.length l1) (hc1 : l1.length ≤ c1) (h : stripe_Of.f k l0 l1 = some r) :
 Calls Try.prog 31 #[.slice A0 l0.length c0, .slice A1 l1.length c1] w fun e w' => ∃ v0_ : Value, e = .returned (v0_) ∧ Kd.R (Kd.int .i64) 3 w' w.heap.size (fun _ => True) v0_ r ∧ Below w.heap.size w w' := by
 have HR0 := Aside0.mk hr0
 have HC0 := Aside0.mk hc0
 clear hr0 hc0
 have HR1 := Aside0.mk hr1
 have HC1 := Aside0.mk hc1
 clear hr1 hc1
 have HB := Aside0.mk (Below.refl w.heap.size w)
 have H : ((stripe_Right.f l0).bind fun t106 => (if t106 = true then ((any_at_stripe_below.f l1).bind fun t107 => (stripe_Of.j0 k l0 l1 t107)) else (stripe_Of.j0 k l0 l1 true))) = some r := h
 clear h
 have HC3 := Aside0.mk H
 clear H
 go_enter Try.func31, Try.ntmps31
 go_upto_region 1 with (fail)
 go_cut [14] (fun v14 wc => ∃ (kq : Nat) (x14_2 : Bool), v14 = .bool x14_2 ∧ Aside0 (stripe_Of.j0 kq l0 l1 x14_2 = some r) ∧ Aside0 (kq ≤ k) ∧ Aside0 (Below w.heap.size w wc))
 case first =>
  have H := HC3.out
  clear HC3
  replace H := Option.bind_eq_some_iff.mp H
  obtain ⟨t106, A40, H⟩ := H
  replace H : (if t106 = true then ((any_at_stripe_below.f l1).bind fun t107 => (stripe_Of.j0 k l0 l1 t107)) else (stripe_Of.j0 k l0 l1 true)) = some r := H
  have A4 := Aside0.mk A40
  clear A40
  by_cases c5 : t106 = true
  · subst c5
    have H1 : ((any_at_stripe_below.f l1).bind fun t107 => (stripe_Of.j0 k l0 l1 t107)) = some r := by rw [if_pos rfl] at H; exact H
    clear H
    have H := H1
    clear H1
    replace H := Option.bind_eq_some_iff.mp H
    obtain ⟨t107, A60, H⟩ := H
    replace H : (stripe_Of.j0 k l0 l1 t107) = some r := H
    have A6 := Aside0.mk A60
    clear A60
    have H' := Aside0.mk H
    clear H
    go_wp2_with (first | ((with_reducible refine gate_callee (f := 37) rfl ?_); refine goesL_ (some 9) rfl rfl Try.func37 (by kernel_rfl) rfl #[.slice A0 l0.length c0] rfl (by (try simp only [List.map_toArray, List.map_cons, List.map_nil]); first | done | rfl) ?_; (with_reducible refine (stripe_Right.calls _ _ l0 true _ ?side1 ?side2 A4.out).mono ?_); (case side1 => repeat (first | exact (Kd.C_below HR0.out HB.out) | with_reducible first | refine Kd.C_alloc ?_ _ | refine Kd.C_drewN ?_ _ | refine Kd.C_drew ?_)); (case side2 => exact HC0.out); rintro e w7 ⟨rfl, hb⟩; refine ⟨_, rfl, ?_⟩; have n0_ := Aside0.mk (bst_ hb); clear HB; have HB := n0_; clear n0_; (try clear hb); (try clear hb2); (try clear hk); (try clear hi)) | (go_at_call 59; (with_reducible refine (any_at_stripe_below.calls _ _ l1 t107 _ ?side1 ?side2 A6.out).mono ?_); (case side1 => repeat (first | exact (Kd.C_below HR1.out HB.out) | with_reducible first | refine Kd.C_alloc ?_ _ | refine Kd.C_drewN ?_ _ | refine Kd.C_drew ?_)); (case side2 => exact HC1.out); rintro e w8 ⟨rfl, hb⟩; have n0_ := Aside0.mk (bst_ hb); clear HB; have HB := n0_; clear n0_; (try clear hb); (try clear hb2); (try clear hk); (try clear hi)))
    go_meet
    case rel => exact ⟨_, (t107), (by first | rfl | (simp; done) | (simp [*]; done)), H', ⟨by first | omega | exact Nat.le_refl _⟩, ⟨by repeat (with_reducible first | exact HB.out | apply below_alloc | apply pw_below_drewN | apply below_drew1)⟩⟩
  · replace c5 := Bool.eq_false_iff.mpr c5
    subst c5
    have H1 : (stripe_Of.j0 k l0 l1 true) = some r := by rw [if_neg (show ¬ (false = true) by decide)] at H; exact H
    clear H
    have H := H1
    clear H1
    have H' := Aside0.mk H
    clear H
    go_wp2_with (first | ((with_reducible refine gate_callee (f := 37) rfl ?_); refine goesL_ (some 9) rfl rfl Try.func37 (by kernel_rfl) rfl #[.slice A0 l0.length c0] rfl (by (try simp only [List.map_toArray, List.map_cons, List.map_nil]); first | done | rfl) ?_; (with_reducible refine (stripe_Right.calls _ _ l0 false _ ?side1 ?side2 A4.out).mono ?_); (case side1 => repeat (first | exact (Kd.C_below HR0.out HB.out) | with_reducible first | refine Kd.C_alloc ?_ _ | refine Kd.C_drewN ?_ _ | refine Kd.C_drew ?_)); (case side2 => exact HC0.out); rintro e w9 ⟨rfl, hb⟩; refine ⟨_, rfl, ?_⟩; have n0_ := Aside0.mk (bst_ hb); clear HB; have HB := n0_; clear n0_; (try clear hb); (try clear hb2); (try clear hk); (try clear hi)))
    go_meet
    case rel => exact ⟨_, (true), (by first | rfl | (simp; done) | (simp [*]; done)), H', ⟨by first | omega | exact Nat.le_refl _⟩, ⟨by repeat (with_reducible first | exact HB.out | apply below_alloc | apply pw_below_drewN | apply below_drew1)⟩⟩
 case rest =>
  clear HC3
  try clear c1
  try clear p2
  try clear c3
  try clear c5
  obtain ⟨kq, x14_2, rfl, HA, HJ2, HB⟩ := hcut
  cases kq with
  | zero => exact absurd HA.out (by simp [stripe_Of.j0])
  | succ kj2 =>
   have H := HA.out
   clear HA
   simp only [stripe_Of.j0] at H
   by_cases c10 : x14_2 = true
   · subst c10
     have H1 : (some ([] : List Int)) = some r := by rw [if_pos rfl] at H; exact H
     clear H
     have H := H1
     clear H1
     obtain rfl := Option.some.inj H
     go_wp2
     go_ret
     exact ⟨_, by first | rfl | (simp [errW_none, errW_some] <;> rfl) | (simp [*, errW_none, errW_some] <;> rfl), by first | exact Kd.R_nil _ _ _ _ _ | exact Kd.N_nil _ _ _ _ _ | exact Kd.V_nil _ _ _ _ _ | exact Kd.Q_nil _ _ _ _ _ | exact Kd.S_nil _ _ _ _ _, by repeat (with_reducible first | exact HB.out | apply below_alloc | apply pw_below_drewN | apply below_drew1)⟩
   · replace c10 := Bool.eq_false_iff.mpr c10
     subst c10
     have H1 : (stripe_Of.l0 kj2 l0 ([] : List Int) l1 (l1.length : Int) 0) = some r := by rw [if_neg (show ¬ (false = true) by decide)] at H; exact H
     clear H
     have H := H1
     clear H1
     have H' := Aside0.mk H
     clear H
     go_wp2
     go_loopg [5, 17] kj2 (fun kq v5 v17 w' => ∃ (x5_2 : List Int) (x17_2 : Int), v17 = .int .i64 x17_2 ∧ Aside0 (stripe_Of.l0 kq l0 x5_2 l1 (l1.length : Int) x17_2 = some r) ∧ Aside0 (kq ≤ kj2) ∧ Aside0 (Kd.R (Kd.int .i64) 3 w' w.heap.size (fun _ => True) v5 x5_2) ∧ Aside0 (Below w.heap.size w w'))
     case atStart => exact ⟨(([] : List Int)), (0), (by first | rfl | (simp; done) | (simp [*]; done)), H', ⟨Nat.le_refl _⟩, ⟨by first | exact Kd.R_nil _ _ _ _ _ | exact Kd.N_nil _ _ _ _ _ | exact Kd.V_nil _ _ _ _ _ | exact Kd.Q_nil _ _ _ _ _ | exact Kd.S_nil _ _ _ _ _⟩, ⟨by repeat (with_reducible first | exact HB.out | apply below_alloc | apply pw_below_drewN | apply below_drew1)⟩⟩
     case round =>
      clear H'
      try clear c1
      try clear p2
      try clear c3
      try clear c5
      try clear c10
      try clear p2
      obtain ⟨x5_2, x17_2, rfl, HA, HK2, HO_5, HB⟩ := hrel
      cases gk with
      | zero => exact absurd HA.out (by simp [stripe_Of.l0])
      | succ k2 =>
       have H := HA.out
       clear HA
       simp only [stripe_Of.l0] at H
       by_cases c11 : x17_2 < (l1.length : Int)
       · rw [if_pos c11] at H
         have c11b0 : decide (x17_2 < (l1.length : Int)) = true := decide_eq_true c11
         clear c11
         by_cases c12 : 0 ≤ x17_2
         · rw [if_pos c12] at H
           have c12b0 : decide (0 ≤ x17_2) = true := decide_eq_true c12
           clear c12
           by_cases c13 : x17_2 < (l1.length : Int)
           · rw [if_pos c13] at H
             have c13b0 : decide (x17_2 < (l1.length : Int)) = true := decide_eq_true c13
             clear c13
             by_cases c14 : (l0.length : Int) = 0
             · rw [if_pos c14] at H
               exact absurd H (by simp)
             · rw [if_neg c14] at H
               have c14b0 : ((l0.length : Int) == 0) = false := beq_eq_false_iff_ne.mpr c14
               have c14b1 : ((l0.length : Int) != 0) = true := bne_iff_ne.mpr c14
               have c14b2 : ¬ (l0 = []) := fun h_ => c14 (by rw [h_]; rfl)
               by_cases c15 : x5_2.length < 17592186044416
               · rw [if_pos c15] at H
                 have LMc15 := Aside0.mk c15
                 clear c15
                 obtain ⟨y109, hy109⟩ : ∃ y_ : List Int, y_ = (x5_2 ++ [Int.tmod (rd l1 x17_2) (l0.length : Int)]) := ⟨_, rfl⟩
                 replace H : (stripe_Of.l0 k2 l0 y109 l1 (l1.length : Int) (wrap64 (x17_2 + 1))) = some r := by first | (rw [hy109]; with_reducible exact H) | (have H2_ := (Option.bind_some _ _).symm.trans H; rw [hy109]; with_reducible exact H2_) | (have H2_ := (Option.bind_some _ _).symm.trans H; with_reducible exact H2_) | with_reducible exact H | (rw [hy109]; exact H) | exact H
                 have Ny109 := Aside0.mk hy109
                 clear hy109
                 have H' := Aside0.mk H
                 clear H
                 have p108 : 0 ≤ (x17_2 : Int) := of_decide_eq_true (by first | (with_reducible assumption) | assumption)
                 have q108 : x17_2 < (l1.length : Int) := of_decide_eq_true (by first | (with_reducible assumption) | assumption)
                 obtain ⟨ad108, e108, hx108_0⟩ := Kd.at_int HR1.out x17_2 p108 q108
                 cases e108
                 replace hx108_0 := (HB.out.cell (World.block_lt_of_cell? w _ hx108_0)).trans hx108_0
                 replace p108 := eq_true p108
                 replace q108 := eq_true q108
                 go_wp2_with (first | ((with_reducible refine gate_builtin (b := .append) (xs := #[.tmp 21, .tmp 26]) rfl ?_); at_builtin; refine Kd.R_append (Kd.int .i64) (w0 := w) w.heap.size rfl (.tmp 21) (.tmp 26) 35 3 (.int .i64 0) 8 rfl Try.underlying35 info3 rfl (by decide) (by omega) u5 x5_2 (Int.tmod (rd l1 x17_2) (l0.length : Int)) [.int .i64 (Int.tmod (rd l1 x17_2) (l0.length : Int))] (fun _ => True) (fun _ => False) rfl rfl ?aP (fun _ hk => hk.elim) ?aF ?aO ?aB ?aS ?aL ?_; (case aP => exact rfl); (case aB => exact (by repeat (with_reducible first | exact HB.out | apply below_alloc | apply pw_below_drewN | apply below_drew1))); (case aF => exact (fun _ _ => trivial)); (case aO => exact (by (with_reducible repeat (first | apply Kd.R_alloc | apply Kd.R_drewN | apply Kd.R_drew)); exact HO_5.out)); (case aS => exact bsz_); (case aL => have := LMc15.out; omega); intro v110 w16 ho hb hg hat; rw [← Ny109.out] at ho; have n0_ := Aside0.mk (hb); have n1_ := Aside0.mk (ho); clear HB; clear HO_5; have HB := n0_; have HO111 := n1_; clear n0_ n1_; clear ho hb hg hat))
                 go_roundg k2
                 case measure => have := HJ2.out; have := HK2.out; omega
                 case rel => exact ⟨(y109), (wrap64 (x17_2 + 1)), (by first | rfl | (simp; done) | (simp [*]; done)), H', ⟨by have := HJ2.out; have := HK2.out; omega⟩, ⟨by (with_reducible repeat (first | apply Kd.R_alloc | apply Kd.R_drewN | apply Kd.R_drew)); exact HO111.out⟩, ⟨by repeat (with_reducible first | exact HB.out | apply below_alloc | apply pw_below_drewN | apply below_drew1)⟩⟩
               · rw [if_neg c15] at H
                 exact absurd H (by simp)
           · rw [if_neg c13] at H
             exact absurd H (by simp)
         · rw [if_neg c12] at H
           exact absurd H (by simp)
       · rw [if_neg c11] at H
         have c11b0 : decide (x17_2 < (l1.length : Int)) = false := decide_eq_false c11
         clear c11
         replace H := Option.bind_eq_some_iff.mp H
         obtain ⟨t112, A170, H⟩ := H
         replace H : ((slices_Compact.f t112).bind fun t113 => (some t113)) = some r := H
         have A17 := Aside0.mk A170
         clear A170
         replace H := Option.bind_eq_some_iff.mp H
         obtain ⟨t113, A180, H⟩ := H
         replace H : (some t113) = some r := H
         have A18 := Aside0.mk A180
         clear A180
         obtain rfl := Option.some.inj H
         obtain ⟨Ao19, co19, eo19⟩ := Kd.R_slice HO_5.out
         subst eo19
         go_wp2_with (first | ((with_reducible refine gate_callee (f := 50) rfl ?_); refine goesL_ (some 30) rfl rfl Try.func50 (by kernel_rfl) rfl #[.slice Ao19 x5_2.length co19] rfl (by (try simp only [List.map_toArray, List.map_cons, List.map_nil]); first | done | rfl) ?_; (with_reducible refine (slices_Sort.calls (fun k_ => some k_ = (.slice Ao19 x5_2.length co19 : Value).ownBlock) (.slice Ao19 x5_2.length co19) x5_2 t112 w _ ?side1 ?side2 A17.out).mono ?_); (case side1 => repeat (with_reducible first | exact HB.out | apply below_alloc | apply pw_below_drewN | apply below_drew1)); (case side2 => exact Kd.R_tight rfl HO_5.out); rintro e w20 ⟨rfl, hy0, hb, hkp⟩; refine ⟨_, rfl, ?_⟩; have n0_ := Aside0.mk (Kd.R_reok rfl hy0 (fun k_ e_ => HO_5.out.1 k_ e_)); have n1_ := Aside0.mk (hb); clear HO_5; clear HB; have HO_5 := n0_; have HB := n1_; clear n0_ n1_; (try clear hb); (try clear hkp); (try clear hy0)) | ((with_reducible refine gate_callee (f := 62) rfl ?_); refine goesL_ (some 32) rfl rfl Try.func62 (by kernel_rfl) rfl #[.slice Ao19 x5_2.length co19] rfl (by (try simp only [List.map_toArray, List.map_cons, List.map_nil]); first | done | rfl) ?_; (with_reducible refine (slices_Compact.calls (fun k_ => some k_ = (.slice Ao19 x5_2.length co19 : Value).ownBlock) (.slice Ao19 x5_2.length co19) t112 t113 w _ ?side1 ?side2 A18.out).mono ?_); (case side1 => repeat (with_reducible first | exact HB.out | apply below_alloc | apply pw_below_drewN | apply below_drew1)); (case side2 => exact Kd.R_tight rfl HO_5.out); rintro e w21 ⟨v114, rfl, ho0, hb, hkp⟩; refine ⟨_, rfl, ?_⟩; have n0_ := Aside0.mk (Kd.R_mono (ok' := fun k_ => True) ho0 (fun k_ hk_ => trivial)); have n1_ := Aside0.mk (hb); clear HB; clear HO_5; have HO115 := n0_; have HB := n1_; clear n0_ n1_; (try clear hb); (try clear hkp); (try clear ho0)))
         go_ret
         exact ⟨_, by first | rfl | (simp [errW_none, errW_some] <;> rfl) | (simp [*, errW_none, errW_some] <;> rfl), by (with_reducible repeat (first | apply Kd.R_alloc | apply Kd.R_drewN | apply Kd.R_drew)); exact HO115.out, by repeat (with_reducible first | exact HB.out | apply below_alloc | apply pw_below_drewN | apply below_drew1)⟩

/-! ### slices_Clone: function 61 -/
def slices_Clone.f (l0 : List (S67)) : Option ((List (S67))) := (some (([] : List (S67)) : List (S67))).bind fun y116 => (if y116.length + l0.length < 8796093022208 then (some (y116 ++ l0)) else (none))
set_option maxHeartbeats 8000000 in
set_option maxRecDepth 100000 in
theorem slices_Clone.callsN (A0 : Option Addr) (c0 : Nat) (l0 : List (S67)) (r : List (S67)) (w : World) (hr0 : Kd.C k67 w A0 l0.length l0) (hc0 : l0.length ≤ c0) (h : slices_Clone.f l0 = some r) (hnn : A0.isNone = false) :
 Calls Try.prog 61 #[.slice A0 l0.length c0] w fun e w' => ∃ v0_ : Value, e = .returned (v0_) ∧ Kd.R k67 67 w' w.heap.size (fun _ => True) v0_ r ∧ Below w.heap.size w w' := by
 have heql : ∀ W : World, (binOp .eql 40 (.slice A0 l0.length c0) (.slice none 0 0)).run Try.prog W = .ok (.bool false) W := fun W => by rw [Lib.run_eql_slice_nil W 40 67 A0 l0.length c0 0 0 Try.underlying40]; rw [hnn]
 clear hnn
 have HR0 := Aside0.mk hr0
 have HC0 := Aside0.mk hc0
 clear hr0 hc0
 have HB := Aside0.mk (Below.refl w.heap.size w)
 have H : ((some (([] : List (S67)) : List (S67))).bind fun y116 => (if y116.length + l0.length < 8796093022208 then (some (y116 ++ l0)) else (none))) = some r := h
 clear h
 obtain ⟨y116, hy116⟩ : ∃ y_ : List (S67), y_ = (([] : List (S67))) := ⟨_, rfl⟩
 replace H : (if y116.length + l0.length < 8796093022208 then (some (y116 ++ l0)) else (none)) = some r := by first | (rw [hy116]; with_reducible exact H) | (have H2_ := (Option.bind_some _ _).symm.trans H; rw [hy116]; with_reducible exact H2_) | (have H2_ := (Option.bind_some _ _).symm.trans H; with_reducible exact H2_) | with_reducible exact H | (rw [hy116]; exact H) | exact H
 have Ny116 := Aside0.mk hy116
 clear hy116
 by_cases c2 : y116.length + l0.length < 8796093022208
 · rw [if_pos c2] at H
   have LMc2 := Aside0.mk c2
   clear c2
   obtain ⟨y119, hy119⟩ : ∃ y_ : List (S67), y_ = (y116 ++ l0) := ⟨_, rfl⟩
   replace H : (some y119) = some r := by first | (rw [hy119]; with_reducible exact H) | (have H2_ := (Option.bind_some _ _).symm.trans H; rw [hy119]; with_reducible exact H2_) | (have H2_ := (Option.bind_some _ _).symm.trans H; with_reducible exact H2_) | with_reducible exact H | (rw [hy119]; exact H) | exact H
   have Ny119 := Aside0.mk hy119
   clear hy119
   obtain rfl := Option.some.inj H
   go_enter Try.func61, Try.ntmps61
   go_wp2_with (first | ((with_reducible refine gate_dst (N := 5) rfl ?_); refine Kd.R_lit k67 _ 67 ?hg (N := 5) ?hd (xs := ([] : List (S67))) (inner := []) (ok := fun _ => True) (okp := fun _ => True) ?hr ?hp (fun _ hk => hk) trivial (Below.refl _ _) (Nat.le_refl _) (by simp) ?_; (case hd => rfl); (case hg => rfl); (case hr => first | (go_simp; done) | (go_simp; rfl)); (case hp => exact (Reps.none _ _)); intro v117 w3 ho4 hb hg_ hnew_; clear hg_ hnew_; (first | rw [← Ny116.out] at ho4 | (simp only [Int.reduceToNat] at ho4; rw [← Ny116.out] at ho4)); have n0_ := Aside0.mk (Kd.R_lower ho4 bsz_); have n1_ := Aside0.mk (bst_ hb); clear HB; have HO118 := n0_; have HB := n1_; clear n0_ n1_; clear hb ho4) | ((with_reducible refine gate_builtin (b := .append) (xs := #[.tmp 5, .tmp 6]) rfl ?_); at_builtin; refine Kd.R_append_rows k67 (w0 := w) w.heap.size rfl (.tmp 5) (.tmp 6) 40 67 (.agg #[(.int .i64 0), (.int .i64 0)]) 16 rfl Try.underlying40 info67 rfl (by decide) (by omega) v117 y116 l0 _ _ _ (fun _ => True) (fun _ => False) rfl rfl ?aO ?aR (fun _ _ h => h) (fun _ h => h.elim) ?aF ?aB ?aS ?aL ?_; (case aR => repeat (first | exact (Kd.C_below HR0.out HB.out) | with_reducible first | refine Kd.C_alloc ?_ _ | refine Kd.C_drewN ?_ _ | refine Kd.C_drew ?_)); (case aB => exact (by repeat (with_reducible first | exact HB.out | apply below_alloc | apply pw_below_drewN | apply below_drew1))); (case aF => exact (fun _ _ => trivial)); (case aO => exact (by (with_reducible repeat (first | apply Kd.R_alloc | apply Kd.R_drewN | apply Kd.R_drew)); exact HO118.out)); (case aS => exact bsz_); (case aL => have := LMc2.out; omega); intro v120 w5 ho hb hg hat; rw [← Ny119.out] at ho; have n0_ := Aside0.mk (hb); have n1_ := Aside0.mk (ho); clear HB; clear HO118; have HB := n0_; have HO121 := n1_; clear n0_ n1_; clear ho hb hg hat))
   go_ret
   exact ⟨_, by first | rfl | (simp [errW_none, errW_some] <;> rfl) | (simp [*, errW_none, errW_some] <;> rfl), by (with_reducible repeat (first | apply Kd.R_alloc | apply Kd.R_drewN | apply Kd.R_drew)); exact HO121.out, by repeat (with_reducible first | exact HB.out | apply below_alloc | apply pw_below_drewN | apply below_drew1)⟩
 · rw [if_neg c2] at H
   exact absurd H (by simp)

set_option maxHeartbeats 2000000 in
theorem slices_Clone.calls (A0 : Option Addr) (c0 : Nat) (l0 : List (S67)) (r : List (S67)) (w : World) (hr0 : Kd.C k67 w A0 l0.length l0) (hc0 : l0.length ≤ c0) (h : slices_Clone.f l0 = some r) :
 Calls Try.prog 61 #[.slice A0 l0.length c0] w fun e w' => ∃ v0_ : Value, e = .returned (v0_) ∧ Kd.R k67 67 w' w.heap.size (fun _ => True) v0_ r ∧ Below w.heap.size w w' := by
 cases hA : A0 with
 | some ad => subst hA; exact slices_Clone.callsN (some ad) c0 l0 r w hr0 hc0 h rfl
 | none =>
  subst hA
  obtain rfl : l0 = [] := by
   rcases Nat.eq_zero_or_pos l0.length with h0 | h0
   · exact List.length_eq_zero_iff.1 h0
   · obtain ⟨ad, c, e0, _⟩ := Kd.C_get hr0 z67 0 (by omega) (by omega)
     cases e0
  obtain rfl : [] = r := by simpa [slices_Clone.f] using h
  have heql : ∀ W : World, (binOp .eql 40 (.slice none 0 c0) (.slice none 0 0)).run Try.prog W = .ok (.bool true) W := fun W => by rw [Lib.run_eql_slice_nil W 40 67 none 0 c0 0 0 Try.underlying40]; rfl
  clear hr0 hc0 h
  simp only [List.length_nil]
  go_enter Try.func61, Try.ntmps61
  go_wp2
  go_ret
  exact ⟨_, rfl, Kd.R_nil _ _ _ _ _, Below.refl _ _⟩

end Go.Proofs.Ytlfmobnmohnjmaa.T
