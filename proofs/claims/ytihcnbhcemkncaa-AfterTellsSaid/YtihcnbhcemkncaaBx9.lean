-- PRINTED by print.py (a twelfth state) out of the translation. Not trusted: Lean checks it.
import Derived.Test.YtihcnbhcemkncaaBx0
namespace Go.Proofs.Ytihcnbhcemkncaa.B
open Go.Proofs.Ytihcnbhcemkncaa.Ho
open Go.RowKit Go.Proofs.YtihcnbhcemkncaaW.PrintWords Go.Proofs.YtihcnbhcemkncaaW.PrintLast Go.Proofs.YtihcnbhcemkncaaW.PrintMore
attribute [local go_sem] max2_int min2_int max_two min_two max_three min_three max_four min_four   -- for this text's walks alone
set_option linter.unusedVariables false
set_option linter.unusedSimpArgs false

/-! ### handshakerref22_holder: function 52 -/
mutual
def handshakerref22_holder.l0 : Nat → List (S39) → Int → Int → Option (Int)
 | 0, _, _, _ => none
 | k + 1, x0, x1, x5 => if x5 < (x0.length : Int) then (handshakerref22_holder.l1 k x0 x1 x5 0) else (some 0)
def handshakerref22_holder.l1 : Nat → List (S39) → Int → Int → Int → Option (Int)
 | 0, _, _, _, _ => none
 | k + 1, x0, x1, x5, x6 => if 0 ≤ x5 then (if x5 < (x0.length : Int) then (if x6 < (((rd_T39 x0 x5).f1).length : Int) then (if 0 ≤ x6 then (if ((rd_T87 ((rd_T39 x0 x5).f1) x6).f0) = x1 then (some ((rd_T39 x0 x5).f0)) else (handshakerref22_holder.l1 k x0 x1 x5 (wrap64 (x6 + 1)))) else (none)) else (handshakerref22_holder.l0 k x0 x1 (wrap64 (x5 + 1)))) else (none)) else (none)
end
def handshakerref22_holder.f (k : Nat) (l0 : List (S39)) (a1 : Int) : Option (Int) := handshakerref22_holder.l0 k l0 a1 0
theorem handshakerref22_holder.mono_l : ∀ k, (∀ y0 y1 y2, LeO (handshakerref22_holder.l0 k y0 y1 y2) (handshakerref22_holder.l0 (k + 1) y0 y1 y2)) ∧ (∀ y0 y1 y2 y3, LeO (handshakerref22_holder.l1 k y0 y1 y2 y3) (handshakerref22_holder.l1 (k + 1) y0 y1 y2 y3))
 | 0 => ⟨fun _ _ _ r h => by simp [handshakerref22_holder.l0] at h, fun _ _ _ _ r h => by simp [handshakerref22_holder.l1] at h⟩
 | k + 1 => by
  obtain ⟨ih0, ih1⟩ := handshakerref22_holder.mono_l k
  refine ⟨?_, ?_⟩
  · intro y0 y1 y2
    unfold handshakerref22_holder.l0
    repeat' first
    | (with_reducible exact ih0 _ _ _)
    | (with_reducible exact ih1 _ _ _ _)
    | (with_reducible exact LeO.refl _)
    | (with_reducible exact LeO.none _)
    | (with_reducible refine LeO.ite ?_ ?_)
    | (with_reducible refine LeO.bind ?_ (fun _ => ?_))
    | exact ih0 _ _ _
    | exact ih1 _ _ _ _
    | exact LeO.none _
    | refine LeO.ite ?_ ?_
    | refine LeO.bind ?_ (fun _ => ?_)
  · intro y0 y1 y2 y3
    unfold handshakerref22_holder.l1
    repeat' first
    | (with_reducible exact ih0 _ _ _)
    | (with_reducible exact ih1 _ _ _ _)
    | (with_reducible exact LeO.refl _)
    | (with_reducible exact LeO.none _)
    | (with_reducible refine LeO.ite ?_ ?_)
    | (with_reducible refine LeO.bind ?_ (fun _ => ?_))
    | exact ih0 _ _ _
    | exact ih1 _ _ _ _
    | exact LeO.none _
    | refine LeO.ite ?_ ?_
    | refine LeO.bind ?_ (fun _ => ?_)
theorem handshakerref22_holder.mono : ∀ a0 a1 k, LeO (handshakerref22_holder.f k a0 a1) (handshakerref22_holder.f (k + 1) a0 a1) := by
 intro a0 a1 k
 obtain ⟨ih0, ih1⟩ := handshakerref22_holder.mono_l k
 unfold handshakerref22_holder.f
 repeat' first
  | (with_reducible exact ih0 _ _ _)
  | (with_reducible exact ih1 _ _ _ _)
  | (with_reducible exact LeO.refl _)
  | (with_reducible exact LeO.none _)
  | (with_reducible refine LeO.ite ?_ ?_)
  | (with_reducible refine LeO.bind ?_ (fun _ => ?_))
  | exact ih0 _ _ _
  | exact ih1 _ _ _ _
  | exact LeO.none _
  | refine LeO.ite ?_ ?_
  | refine LeO.bind ?_ (fun _ => ?_)
set_option maxHeartbeats 8000000 in
set_option maxRecDepth 100000 in
theorem handshakerref22_holder.calls (k : Nat) (A0 : Option Addr) (c0 : Nat) (l0 : List (S39)) (a1 : Int) (r : Int) (w : World) (hr0 : Kd.C k39 w A0 l0.length l0) (hc0 : l0.length ≤ c0) (h : handshakerref22_holder.f k l0 a1 = some r) :
 Calls Try.prog 52 #[.slice A0 l0.length c0, .int .i64 a1] w fun e w' => e = .returned (.int .i64 r) ∧ Drawn0 w w' := by
 have HR0 := Aside0.mk hr0
 have HC0 := Aside0.mk hc0
 clear hr0 hc0
 have H : (handshakerref22_holder.l0 k l0 a1 0) = some r := h
 clear h
 have H' := Aside0.mk H
 clear H
 go_enter Try.func52, Try.ntmps52
 go_wp2
 go_loopg [5] k (fun kq v5 w' => ∃ (x5_1 : Int), v5 = .int .i64 x5_1 ∧ Aside0 (handshakerref22_holder.l0 kq l0 a1 x5_1 = some r) ∧ Aside0 (kq ≤ k) ∧ Drawn0 w w')
 case atStart => exact ⟨(0), (by first | rfl | (simp; done) | (simp [*]; done)), H', ⟨Nat.le_refl _⟩, by repeat (first | exact Drawn0.refl _ | apply Drawn0.step)⟩
 case round =>
  clear H'
  try clear p2
  obtain ⟨x5_1, rfl, HA, HK1, ⟨m1, rfl⟩⟩ := hrel
  cases gk with
  | zero => exact absurd HA.out (by simp [handshakerref22_holder.l0])
  | succ k1 =>
   have H := HA.out
   clear HA
   simp only [handshakerref22_holder.l0] at H
   by_cases c3 : x5_1 < (l0.length : Int)
   · rw [if_pos c3] at H
     have c3b0 : decide (x5_1 < (l0.length : Int)) = true := decide_eq_true c3
     clear c3
     have H' := Aside0.mk H
     clear H
     go_wp2
     go_loopg [6] k1 (fun kq v6 w' => ∃ (x6_2 : Int), v6 = .int .i64 x6_2 ∧ Aside0 (handshakerref22_holder.l1 kq l0 a1 x5_1 x6_2 = some r) ∧ Aside0 (kq ≤ k1) ∧ Drawn0 w w')
     case atStart => exact ⟨(0), (by first | rfl | (simp; done) | (simp [*]; done)), H', ⟨Nat.le_refl _⟩, by repeat (first | exact Drawn0.refl _ | apply Drawn0.step)⟩
     case round =>
      clear H'
      try clear p2
      try clear c3
      try clear c3b0
      try clear p2
      obtain ⟨x6_2, rfl, HA, HK2, ⟨m2, rfl⟩⟩ := hrel
      cases gk with
      | zero => exact absurd HA.out (by simp [handshakerref22_holder.l1])
      | succ k2 =>
       have H := HA.out
       clear HA
       simp only [handshakerref22_holder.l1] at H
       by_cases c4 : 0 ≤ x5_1
       · rw [if_pos c4] at H
         have c4b0 : decide (0 ≤ x5_1) = true := decide_eq_true c4
         clear c4
         by_cases c5 : x5_1 < (l0.length : Int)
         · rw [if_pos c5] at H
           have c5b0 : decide (x5_1 < (l0.length : Int)) = true := decide_eq_true c5
           clear c5
           by_cases c6 : x6_2 < (((rd_T39 l0 x5_1).f1).length : Int)
           · rw [if_pos c6] at H
             have c6b0 : decide (x6_2 < (((rd_T39 l0 x5_1).f1).length : Int)) = true := decide_eq_true c6
             clear c6
             by_cases c7 : 0 ≤ x6_2
             · rw [if_pos c7] at H
               have c7b0 : decide (0 ≤ x6_2) = true := decide_eq_true c7
               clear c7
               by_cases c8 : ((rd_T87 ((rd_T39 l0 x5_1).f1) x6_2).f0) = a1
               · rw [if_pos c8] at H
                 have c8b0 : (((rd_T87 ((rd_T39 l0 x5_1).f1) x6_2).f0) == a1) = true := beq_iff_eq.mpr c8
                 have c8b1 : (((rd_T87 ((rd_T39 l0 x5_1).f1) x6_2).f0) != a1) = false := bne_eq_false_iff_eq.mpr c8
                 clear c8
                 obtain rfl := Option.some.inj H
                 have p297 : 0 ≤ (x5_1 : Int) := oda_
                 have q297 : x5_1 < (l0.length : Int) := oda_
                 obtain ⟨ad297, A297_1, c297_1, e297, hx297_0, hx297_1, hl297_1, hi297_1⟩ := at_T39 HR0.out x5_1 p297 q297
                 cases e297
                 have HR297_1 := Aside0.mk hi297_1
                 have HC297_1 := Aside0.mk hl297_1
                 clear hi297_1 hl297_1
                 replace p297 := eq_true p297
                 replace q297 := eq_true q297
                 have p298 : 0 ≤ (x5_1 : Int) := oda_
                 have q298 : x5_1 < (l0.length : Int) := oda_
                 obtain ⟨ad298, A298_1, c298_1, e298, hx298_0, hx298_1, hl298_1, hi298_1⟩ := at_T39 HR0.out x5_1 p298 q298
                 obtain rfl : ad297 = ad298 := (by injection e298)
                 have HR298_1 := Aside0.mk hi298_1
                 have HC298_1 := Aside0.mk hl298_1
                 clear hi298_1 hl298_1
                 replace p298 := eq_true p298
                 replace q298 := eq_true q298
                 have ea_ := Option.some.inj (hx297_1.symm.trans hx298_1)
                 injection ea_ with ea_ en_ ec_
                 subst ea_
                 subst ec_
                 clear en_
                 have p299 : 0 ≤ (x6_2 : Int) := oda_
                 have q299 : x6_2 < (((rd_T39 l0 x5_1).f1).length : Int) := oda_
                 obtain ⟨ad299, e299, hx299_0, hx299_1, hx299_2⟩ := at_T87 HR298_1.out x6_2 p299 q299
                 cases e299
                 replace p299 := eq_true p299
                 replace q299 := eq_true q299
                 have p300 : 0 ≤ (x5_1 : Int) := oda_
                 have q300 : x5_1 < (l0.length : Int) := oda_
                 obtain ⟨ad300, A300_1, c300_1, e300, hx300_0, hx300_1, hl300_1, hi300_1⟩ := at_T39 HR0.out x5_1 p300 q300
                 obtain rfl : ad297 = ad300 := (by injection e300)
                 have HR300_1 := Aside0.mk hi300_1
                 have HC300_1 := Aside0.mk hl300_1
                 clear hi300_1 hl300_1
                 replace p300 := eq_true p300
                 replace q300 := eq_true q300
                 have ea_ := Option.some.inj (hx297_1.symm.trans hx300_1)
                 injection ea_ with ea_ en_ ec_
                 subst ea_
                 subst ec_
                 clear en_
                 go_wp2
                 go_ret
                 exact ⟨by first | rfl | (simp; done) | (simp [*]; done), by repeat (first | exact Drawn0.refl _ | apply Drawn0.step)⟩
               · rw [if_neg c8] at H
                 have c8b0 : (((rd_T87 ((rd_T39 l0 x5_1).f1) x6_2).f0) == a1) = false := beq_eq_false_iff_ne.mpr c8
                 have c8b1 : (((rd_T87 ((rd_T39 l0 x5_1).f1) x6_2).f0) != a1) = true := bne_iff_ne.mpr c8
                 have H' := Aside0.mk H
                 clear H
                 have p297 : 0 ≤ (x5_1 : Int) := oda_
                 have q297 : x5_1 < (l0.length : Int) := oda_
                 obtain ⟨ad297, A297_1, c297_1, e297, hx297_0, hx297_1, hl297_1, hi297_1⟩ := at_T39 HR0.out x5_1 p297 q297
                 cases e297
                 have HR297_1 := Aside0.mk hi297_1
                 have HC297_1 := Aside0.mk hl297_1
                 clear hi297_1 hl297_1
                 replace p297 := eq_true p297
                 replace q297 := eq_true q297
                 have p298 : 0 ≤ (x5_1 : Int) := oda_
                 have q298 : x5_1 < (l0.length : Int) := oda_
                 obtain ⟨ad298, A298_1, c298_1, e298, hx298_0, hx298_1, hl298_1, hi298_1⟩ := at_T39 HR0.out x5_1 p298 q298
                 obtain rfl : ad297 = ad298 := (by injection e298)
                 have HR298_1 := Aside0.mk hi298_1
                 have HC298_1 := Aside0.mk hl298_1
                 clear hi298_1 hl298_1
                 replace p298 := eq_true p298
                 replace q298 := eq_true q298
                 have ea_ := Option.some.inj (hx297_1.symm.trans hx298_1)
                 injection ea_ with ea_ en_ ec_
                 subst ea_
                 subst ec_
                 clear en_
                 have p299 : 0 ≤ (x6_2 : Int) := oda_
                 have q299 : x6_2 < (((rd_T39 l0 x5_1).f1).length : Int) := oda_
                 obtain ⟨ad299, e299, hx299_0, hx299_1, hx299_2⟩ := at_T87 HR298_1.out x6_2 p299 q299
                 cases e299
                 replace p299 := eq_true p299
                 replace q299 := eq_true q299
                 go_wp2
                 go_roundg k2
                 case measure => have := HK1.out; have := HK2.out; omega
                 case rel => exact ⟨(wrap64 (x6_2 + 1)), (by first | rfl | (simp; done) | (simp [*]; done)), H', ⟨by have := HK1.out; have := HK2.out; omega⟩, by repeat (first | exact Drawn0.refl _ | apply Drawn0.step)⟩
             · rw [if_neg c7] at H
               exact absurd H (by simp)
           · rw [if_neg c6] at H
             have c6b0 : decide (x6_2 < (((rd_T39 l0 x5_1).f1).length : Int)) = false := decide_eq_false c6
             clear c6
             have H' := Aside0.mk H
             clear H
             have p297 : 0 ≤ (x5_1 : Int) := oda_
             have q297 : x5_1 < (l0.length : Int) := oda_
             obtain ⟨ad297, A297_1, c297_1, e297, hx297_0, hx297_1, hl297_1, hi297_1⟩ := at_T39 HR0.out x5_1 p297 q297
             cases e297
             have HR297_1 := Aside0.mk hi297_1
             have HC297_1 := Aside0.mk hl297_1
             clear hi297_1 hl297_1
             replace p297 := eq_true p297
             replace q297 := eq_true q297
             go_wp2
             go_roundg k2
             case measure => have := HK1.out; have := HK2.out; omega
             case rel => exact ⟨(wrap64 (x5_1 + 1)), (by first | rfl | (simp; done) | (simp [*]; done)), H', ⟨by have := HK1.out; have := HK2.out; omega⟩, by repeat (first | exact Drawn0.refl _ | apply Drawn0.step)⟩
         · rw [if_neg c5] at H
           exact absurd H (by simp)
       · rw [if_neg c4] at H
         exact absurd H (by simp)
   · rw [if_neg c3] at H
     have c3b0 : decide (x5_1 < (l0.length : Int)) = false := decide_eq_false c3
     clear c3
     obtain rfl := Option.some.inj H
     go_wp2
     go_ret
     exact ⟨by first | rfl | (simp; done) | (simp [*]; done), by repeat (first | exact Drawn0.refl _ | apply Drawn0.step)⟩

/-! ### handshakerref22_free: function 42 -/
def handshakerref22_free.l0 : Nat → List (S39) → Int → Int → List (S87) → Option (Bool)
 | 0, _, _, _, _ => none
 | k + 1, x0, x5, x302000, x302001 => if x5 < (x302001.length : Int) then (if 0 ≤ x5 then ((handshakerref22_holder.f k x0 ((rd_T87 x302001 x5).f0)).bind fun t303 => (if t303 = 0 then (handshakerref22_free.l0 k x0 (wrap64 (x5 + 1)) x302000 x302001) else (if t303 = x302000 then (handshakerref22_free.l0 k x0 (wrap64 (x5 + 1)) x302000 x302001) else (some false)))) else (none)) else (some true)
def handshakerref22_free.f (k : Nat) (l0 : List (S39)) (a1_0 : Int) (l1_1 : List (S87)) : Option (Bool) := handshakerref22_free.l0 k l0 0 a1_0 l1_1
theorem handshakerref22_free.mono_l : ∀ k, (∀ y0 y1 y2 y3, LeO (handshakerref22_free.l0 k y0 y1 y2 y3) (handshakerref22_free.l0 (k + 1) y0 y1 y2 y3))
 | 0 => fun _ _ _ _ r h => by simp [handshakerref22_free.l0] at h
 | k + 1 => by
  have ih0 := handshakerref22_free.mono_l k
  · intro y0 y1 y2 y3
    unfold handshakerref22_free.l0
    repeat' first
    | (with_reducible exact ih0 _ _ _ _)
    | (with_reducible exact handshakerref22_holder.mono _ _ _)
    | (with_reducible exact LeO.refl _)
    | (with_reducible exact LeO.none _)
    | (with_reducible refine LeO.ite ?_ ?_)
    | (with_reducible refine LeO.bind ?_ (fun _ => ?_))
    | exact ih0 _ _ _ _
    | exact handshakerref22_holder.mono _ _ _
    | exact LeO.none _
    | refine LeO.ite ?_ ?_
    | refine LeO.bind ?_ (fun _ => ?_)
theorem handshakerref22_free.mono : ∀ a0 a1 a2 k, LeO (handshakerref22_free.f k a0 a1 a2) (handshakerref22_free.f (k + 1) a0 a1 a2) := by
 intro a0 a1 a2 k
 have ih0 := handshakerref22_free.mono_l k
 unfold handshakerref22_free.f
 repeat' first
  | (with_reducible exact ih0 _ _ _ _)
  | (with_reducible exact handshakerref22_holder.mono _ _ _)
  | (with_reducible exact LeO.refl _)
  | (with_reducible exact LeO.none _)
  | (with_reducible refine LeO.ite ?_ ?_)
  | (with_reducible refine LeO.bind ?_ (fun _ => ?_))
  | exact ih0 _ _ _ _
  | exact handshakerref22_holder.mono _ _ _
  | exact LeO.none _
  | refine LeO.ite ?_ ?_
  | refine LeO.bind ?_ (fun _ => ?_)
set_option maxHeartbeats 8000000 in
set_option maxRecDepth 100000 in
theorem handshakerref22_free.calls (k : Nat) (A0 : Option Addr) (c0 : Nat) (l0 : List (S39)) (a1_0 : Int) (A1_1 : Option Addr) (c1_1 : Nat) (l1_1 : List (S87)) (r : Bool) (w : World) (hr0 : Kd.C k39 w A0 l0.length l0) (hc0 : l0.length ≤ c0) (hr1_1 : Kd.C k87 w A1_1 l1_1.length l1_1) (hc1_1 : l1_1.length ≤ c1_1) (h : handshakerref22_free.f k l0 a1_0 l1_1 = some r) :
 Calls Try.prog 42 #[.slice A0 l0.length c0, .agg #[.int .i64 a1_0, .slice A1_1 l1_1.length c1_1]] w fun e w' => e = .returned (.bool r) ∧ Below w.heap.size w w' := by
 have hu39 := Try.underlying39
 have HR0 := Aside0.mk hr0
 have HC0 := Aside0.mk hc0
 clear hr0 hc0
 have HR1_1 := Aside0.mk hr1_1
 have HC1_1 := Aside0.mk hc1_1
 clear hr1_1 hc1_1
 have HB := Aside0.mk (Below.refl w.heap.size w)
 have H : (handshakerref22_free.l0 k l0 0 a1_0 l1_1) = some r := h
 clear h
 have H' := Aside0.mk H
 clear H
 go_enter Try.func42, Try.ntmps42
 go_wp2_with (first | ((with_reducible refine gate_dst (N := 3) rfl ?_); refine box_event ?hg (N := 3) ?hd (cs := #[.int .i64 a1_0, .slice A1_1 l1_1.length c1_1]) (t := 39) ?hr ?_; (case hd => rfl); (case hg => rfl); (case hr => first | (go_simp; done) | (go_simp; rfl)); intro gb301 hg w3 hbox hb; replace BK301 := Aside0.mk (hbox); replace GW301 := Aside0.mk ((by rw [hg]; exact bsz_ : w.heap.size ≤ gb301)); replace HB := Aside0.mk (bst_ hb); replace GE301 := GW301; clear hb hbox hg))
 go_loopg [5] k (fun kq v5 w' => ∃ (x5_1 : Int), v5 = .int .i64 x5_1 ∧ Aside0 (handshakerref22_free.l0 kq l0 x5_1 a1_0 l1_1 = some r) ∧ Aside0 (kq ≤ k) ∧ Aside0 (w'.heap[gb301]? = some (.cells #[.int .i64 a1_0, (.slice A1_1 l1_1.length c1_1)] 39 (0, 0))) ∧ Aside0 (Below w.heap.size w w'))
 case atStart => exact ⟨(0), (by first | rfl | (simp; done) | (simp [*]; done)), H', ⟨Nat.le_refl _⟩, ⟨bq_ BK301⟩, ⟨bsw_⟩⟩
 case round =>
  clear H'
  try clear c1
  try clear p2
  obtain ⟨x5_1, rfl, HA, HK1, BK301, HB⟩ := hrel
  cases gk with
  | zero => exact absurd HA.out (by simp [handshakerref22_free.l0])
  | succ k1 =>
   have H := HA.out
   clear HA
   simp only [handshakerref22_free.l0] at H
   by_cases c4 : x5_1 < (l1_1.length : Int)
   · rw [if_pos c4] at H
     have c4b0 : decide (x5_1 < (l1_1.length : Int)) = true := decide_eq_true c4
     clear c4
     by_cases c5 : 0 ≤ x5_1
     · rw [if_pos c5] at H
       have c5b0 : decide (0 ≤ x5_1) = true := decide_eq_true c5
       clear c5
       replace H := Option.bind_eq_some_iff.mp H
       obtain ⟨t303, A60, H⟩ := H
       have A6 := Aside0.mk A60
       clear A60
       by_cases c7 : t303 = 0
       · rw [if_pos c7] at H
         have c7b0 : (t303 == 0) = true := beq_iff_eq.mpr c7
         have c7b1 : (t303 != 0) = false := bne_eq_false_iff_eq.mpr c7
         clear c7
         have H' := Aside0.mk H
         clear H
         have hcz8_0 : wr.cell? ⟨gb301, 0, none⟩ = some (.int .i64 a1_0) := (blk_cell BK301.out 0).trans rfl
         have hcz8_1 : wr.cell? ⟨gb301, 1, none⟩ = some (.slice A1_1 l1_1.length c1_1) := (blk_cell BK301.out 1).trans rfl
         have hfz8_0 := blk_frozen BK301.out 0
         have hfz8_1 := blk_frozen BK301.out 1
         have p302 : 0 ≤ (x5_1 : Int) := oda_
         have q302 : x5_1 < (l1_1.length : Int) := oda_
         obtain ⟨ad302, e302, hx302_0, hx302_1, hx302_2⟩ := at_T87 HR1_1.out x5_1 p302 q302
         cases e302
         replace hx302_0 := (HB.out.cell (World.block_lt_of_cell? w _ hx302_0)).trans hx302_0
         replace hx302_1 := (HB.out.cell (World.block_lt_of_cell? w _ hx302_1)).trans hx302_1
         replace hx302_2 := (HB.out.cell (World.block_lt_of_cell? w _ hx302_2)).trans hx302_2
         replace p302 := eq_true p302
         replace q302 := eq_true q302
         go_wp2_with (first | ((with_reducible refine gate_callee (f := 52) rfl ?_); refine goesL_ (some 21) rfl rfl Try.func52 (by kernel_rfl) rfl #[.slice A0 l0.length c0, .int .i64 ((rd_T87 l1_1 x5_1).f0)] rfl mp_ ?_; (with_reducible refine (handshakerref22_holder.calls k1 _ _ l0 ((rd_T87 l1_1 x5_1).f0) t303 _ ?side1 ?side2 A6.out).mono ?_); (case side1 => repeat (first | exact (Kd.C_below HR0.out HB.out) | with_reducible first | refine Kd.C_alloc ?_ _ | refine Kd.C_drewN ?_ _ | refine Kd.C_drew ?_)); (case side2 => exact HC0.out); rintro e w' ⟨rfl, ⟨nd, rfl⟩⟩; refine ⟨_, rfl, ?_⟩))
         go_roundg k1
         case measure => have := HK1.out; omega
         case rel => exact ⟨(wrap64 (x5_1 + 1)), (by first | rfl | (simp; done) | (simp [*]; done)), H', ⟨by have := HK1.out; omega⟩, ⟨bq_ BK301⟩, ⟨bsw_⟩⟩
       · rw [if_neg c7] at H
         have c7b0 : (t303 == 0) = false := beq_eq_false_iff_ne.mpr c7
         have c7b1 : (t303 != 0) = true := bne_iff_ne.mpr c7
         by_cases c9 : t303 = a1_0
         · rw [if_pos c9] at H
           have c9b0 : (t303 == a1_0) = true := beq_iff_eq.mpr c9
           have c9b1 : (t303 != a1_0) = false := bne_eq_false_iff_eq.mpr c9
           clear c9
           have H' := Aside0.mk H
           clear H
           have hcz10_0 : wr.cell? ⟨gb301, 0, none⟩ = some (.int .i64 a1_0) := (blk_cell BK301.out 0).trans rfl
           have hcz10_1 : wr.cell? ⟨gb301, 1, none⟩ = some (.slice A1_1 l1_1.length c1_1) := (blk_cell BK301.out 1).trans rfl
           have hfz10_0 := blk_frozen BK301.out 0
           have hfz10_1 := blk_frozen BK301.out 1
           have p302 : 0 ≤ (x5_1 : Int) := oda_
           have q302 : x5_1 < (l1_1.length : Int) := oda_
           obtain ⟨ad302, e302, hx302_0, hx302_1, hx302_2⟩ := at_T87 HR1_1.out x5_1 p302 q302
           cases e302
           replace hx302_0 := (HB.out.cell (World.block_lt_of_cell? w _ hx302_0)).trans hx302_0
           replace hx302_1 := (HB.out.cell (World.block_lt_of_cell? w _ hx302_1)).trans hx302_1
           replace hx302_2 := (HB.out.cell (World.block_lt_of_cell? w _ hx302_2)).trans hx302_2
           replace p302 := eq_true p302
           replace q302 := eq_true q302
           go_wp2_with (first | ((with_reducible refine gate_callee (f := 52) rfl ?_); refine goesL_ (some 21) rfl rfl Try.func52 (by kernel_rfl) rfl #[.slice A0 l0.length c0, .int .i64 ((rd_T87 l1_1 x5_1).f0)] rfl mp_ ?_; (with_reducible refine (handshakerref22_holder.calls k1 _ _ l0 ((rd_T87 l1_1 x5_1).f0) t303 _ ?side1 ?side2 A6.out).mono ?_); (case side1 => repeat (first | exact (Kd.C_below HR0.out HB.out) | with_reducible first | refine Kd.C_alloc ?_ _ | refine Kd.C_drewN ?_ _ | refine Kd.C_drew ?_)); (case side2 => exact HC0.out); rintro e w' ⟨rfl, ⟨nd, rfl⟩⟩; refine ⟨_, rfl, ?_⟩))
           go_roundg k1
           case measure => have := HK1.out; omega
           case rel => exact ⟨(wrap64 (x5_1 + 1)), (by first | rfl | (simp; done) | (simp [*]; done)), H', ⟨by have := HK1.out; omega⟩, ⟨bq_ BK301⟩, ⟨bsw_⟩⟩
         · rw [if_neg c9] at H
           have c9b0 : (t303 == a1_0) = false := beq_eq_false_iff_ne.mpr c9
           have c9b1 : (t303 != a1_0) = true := bne_iff_ne.mpr c9
           obtain rfl := Option.some.inj H
           have hcz11_0 : wr.cell? ⟨gb301, 0, none⟩ = some (.int .i64 a1_0) := (blk_cell BK301.out 0).trans rfl
           have hcz11_1 : wr.cell? ⟨gb301, 1, none⟩ = some (.slice A1_1 l1_1.length c1_1) := (blk_cell BK301.out 1).trans rfl
           have hfz11_0 := blk_frozen BK301.out 0
           have hfz11_1 := blk_frozen BK301.out 1
           have p302 : 0 ≤ (x5_1 : Int) := oda_
           have q302 : x5_1 < (l1_1.length : Int) := oda_
           obtain ⟨ad302, e302, hx302_0, hx302_1, hx302_2⟩ := at_T87 HR1_1.out x5_1 p302 q302
           cases e302
           replace hx302_0 := (HB.out.cell (World.block_lt_of_cell? w _ hx302_0)).trans hx302_0
           replace hx302_1 := (HB.out.cell (World.block_lt_of_cell? w _ hx302_1)).trans hx302_1
           replace hx302_2 := (HB.out.cell (World.block_lt_of_cell? w _ hx302_2)).trans hx302_2
           replace p302 := eq_true p302
           replace q302 := eq_true q302
           go_wp2_with (first | ((with_reducible refine gate_callee (f := 52) rfl ?_); refine goesL_ (some 21) rfl rfl Try.func52 (by kernel_rfl) rfl #[.slice A0 l0.length c0, .int .i64 ((rd_T87 l1_1 x5_1).f0)] rfl mp_ ?_; (with_reducible refine (handshakerref22_holder.calls k1 _ _ l0 ((rd_T87 l1_1 x5_1).f0) t303 _ ?side1 ?side2 A6.out).mono ?_); (case side1 => repeat (first | exact (Kd.C_below HR0.out HB.out) | with_reducible first | refine Kd.C_alloc ?_ _ | refine Kd.C_drewN ?_ _ | refine Kd.C_drew ?_)); (case side2 => exact HC0.out); rintro e w' ⟨rfl, ⟨nd, rfl⟩⟩; refine ⟨_, rfl, ?_⟩))
           go_ret
           exact ⟨by first | rfl | (simp [errW_none, errW_some] <;> rfl) | (simp [*, errW_none, errW_some] <;> rfl), bsw_⟩
     · rw [if_neg c5] at H
       exact absurd H (by simp)
   · rw [if_neg c4] at H
     have c4b0 : decide (x5_1 < (l1_1.length : Int)) = false := decide_eq_false c4
     clear c4
     obtain rfl := Option.some.inj H
     have hcz12_0 : wr.cell? ⟨gb301, 0, none⟩ = some (.int .i64 a1_0) := (blk_cell BK301.out 0).trans rfl
     have hcz12_1 : wr.cell? ⟨gb301, 1, none⟩ = some (.slice A1_1 l1_1.length c1_1) := (blk_cell BK301.out 1).trans rfl
     have hfz12_0 := blk_frozen BK301.out 0
     have hfz12_1 := blk_frozen BK301.out 1
     go_wp2
     go_ret
     exact ⟨by first | rfl | (simp [errW_none, errW_some] <;> rfl) | (simp [*, errW_none, errW_some] <;> rfl), bsw_⟩

end Go.Proofs.Ytihcnbhcemkncaa.B
