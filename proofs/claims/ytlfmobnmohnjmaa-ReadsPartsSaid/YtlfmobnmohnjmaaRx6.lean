-- PRINTED by print.py (a twelfth state) out of the translation. Not trusted: Lean checks it.
import Derived.Test.YtlfmobnmohnjmaaRx0
import Derived.Test.YtlfmobnmohnjmaaRx5
namespace Go.Proofs.Ytlfmobnmohnjmaa.R
open Go.Proofs.Ytlfmobnmohnjmaa.Ho
open Go.RowKit Go.Proofs.YtlfmobnmohnjmaaW.PrintWords Go.Proofs.YtlfmobnmohnjmaaW.PrintLast Go.Proofs.YtlfmobnmohnjmaaW.PrintMore
attribute [local go_sem] max2_int min2_int max_two min_two max_three min_three max_four min_four   -- for this text's walks alone
set_option linter.unusedVariables false
set_option linter.unusedSimpArgs false

/-! ### handshakerref05_Right: function 19 -/
mutual
def handshakerref05_Right.l0 : Nat → List (S24) → Int → Option (Bool)
 | 0, _, _ => none
 | k + 1, x0, x3 => if x3 < (x0.length : Int) then (if 0 ≤ x3 then ((handshakerref05_one.f ((rd_T24 x0 x3).f0) ((rd_T24 x0 x3).f1) ((rd_T24 x0 x3).f2)).bind fun t210 => (if t210 = true then (handshakerref05_Right.l1 k x0 x3 0) else (some false))) else (none)) else (some (decide ((x0.length : Int) < 25)))
def handshakerref05_Right.l1 : Nat → List (S24) → Int → Int → Option (Bool)
 | 0, _, _, _ => none
 | k + 1, x0, x3, x5 => if x5 < x3 then (if 0 ≤ x5 then (if x5 < (x0.length : Int) then (if 0 ≤ x3 then (if x3 < (x0.length : Int) then (if ((rd_T24 x0 x5).f0) = ((rd_T24 x0 x3).f0) then (some false) else (handshakerref05_Right.l1 k x0 x3 (wrap64 (x5 + 1)))) else (none)) else (none)) else (none)) else (none)) else (handshakerref05_Right.l0 k x0 (wrap64 (x3 + 1)))
end
def handshakerref05_Right.f (k : Nat) (l0 : List (S24)) : Option (Bool) := handshakerref05_Right.l0 k l0 0
theorem handshakerref05_Right.mono_l : ∀ k, (∀ y0 y1, LeO (handshakerref05_Right.l0 k y0 y1) (handshakerref05_Right.l0 (k + 1) y0 y1)) ∧ (∀ y0 y1 y2, LeO (handshakerref05_Right.l1 k y0 y1 y2) (handshakerref05_Right.l1 (k + 1) y0 y1 y2))
 | 0 => ⟨fun _ _ r h => by simp [handshakerref05_Right.l0] at h, fun _ _ _ r h => by simp [handshakerref05_Right.l1] at h⟩
 | k + 1 => by
  obtain ⟨ih0, ih1⟩ := handshakerref05_Right.mono_l k
  refine ⟨?_, ?_⟩
  · intro y0 y1
    unfold handshakerref05_Right.l0
    repeat' first
    | (with_reducible exact ih0 _ _)
    | (with_reducible exact ih1 _ _ _)
    | (with_reducible exact LeO.refl _)
    | (with_reducible exact LeO.none _)
    | (with_reducible refine LeO.ite ?_ ?_)
    | (with_reducible refine LeO.bind ?_ (fun _ => ?_))
    | exact ih0 _ _
    | exact ih1 _ _ _
    | exact LeO.none _
    | refine LeO.ite ?_ ?_
    | refine LeO.bind ?_ (fun _ => ?_)
  · intro y0 y1 y2
    unfold handshakerref05_Right.l1
    repeat' first
    | (with_reducible exact ih0 _ _)
    | (with_reducible exact ih1 _ _ _)
    | (with_reducible exact LeO.refl _)
    | (with_reducible exact LeO.none _)
    | (with_reducible refine LeO.ite ?_ ?_)
    | (with_reducible refine LeO.bind ?_ (fun _ => ?_))
    | exact ih0 _ _
    | exact ih1 _ _ _
    | exact LeO.none _
    | refine LeO.ite ?_ ?_
    | refine LeO.bind ?_ (fun _ => ?_)
theorem handshakerref05_Right.mono : ∀ a0 k, LeO (handshakerref05_Right.f k a0) (handshakerref05_Right.f (k + 1) a0) := by
 intro a0 k
 obtain ⟨ih0, ih1⟩ := handshakerref05_Right.mono_l k
 unfold handshakerref05_Right.f
 repeat' first
  | (with_reducible exact ih0 _ _)
  | (with_reducible exact ih1 _ _ _)
  | (with_reducible exact LeO.refl _)
  | (with_reducible exact LeO.none _)
  | (with_reducible refine LeO.ite ?_ ?_)
  | (with_reducible refine LeO.bind ?_ (fun _ => ?_))
  | exact ih0 _ _
  | exact ih1 _ _ _
  | exact LeO.none _
  | refine LeO.ite ?_ ?_
  | refine LeO.bind ?_ (fun _ => ?_)
set_option maxHeartbeats 8000000 in
set_option maxRecDepth 100000 in
theorem handshakerref05_Right.calls (k : Nat) (A0 : Option Addr) (c0 : Nat) (l0 : List (S24)) (r : Bool) (w : World) (hr0 : Kd.C k24 w A0 l0.length l0) (hc0 : l0.length ≤ c0) (h : handshakerref05_Right.f k l0 = some r) :
 Calls Try.prog 19 #[.slice A0 l0.length c0] w fun e w' => e = .returned (.bool r) ∧ Below w.heap.size w w' := by
 have hu24 := Try.underlying24
 have HR0 := Aside0.mk hr0
 have HC0 := Aside0.mk hc0
 clear hr0 hc0
 have HB := Aside0.mk (Below.refl w.heap.size w)
 have H : (handshakerref05_Right.l0 k l0 0) = some r := h
 clear h
 have H' := Aside0.mk H
 clear H
 go_enter Try.func19, Try.ntmps19
 go_wp2
 repeat (go_quiet (fail); try go_wp2)
 go_loopg [3] k (fun kq v3 w' => ∃ (x3_1 : Int), v3 = .int .i64 x3_1 ∧ Aside0 (handshakerref05_Right.l0 kq l0 x3_1 = some r) ∧ Aside0 (kq ≤ k) ∧ Aside0 (Below w.heap.size w w'))
 case atStart => exact ⟨(0), (by first | rfl | (simp; done) | (simp [*]; done)), H', ⟨Nat.le_refl _⟩, ⟨by repeat (with_reducible first | exact HB.out | apply below_alloc | apply pw_below_drewN | apply below_drew1)⟩⟩
 case round =>
  clear H'
  try clear c1
  obtain ⟨x3_1, rfl, HA, HK1, HB⟩ := hrel
  cases gk with
  | zero => exact absurd HA.out (by simp [handshakerref05_Right.l0])
  | succ k1 =>
   have H := HA.out
   clear HA
   simp only [handshakerref05_Right.l0] at H
   by_cases c2 : x3_1 < (l0.length : Int)
   · rw [if_pos c2] at H
     have c2b0 : decide (x3_1 < (l0.length : Int)) = true := decide_eq_true c2
     clear c2
     by_cases c3 : 0 ≤ x3_1
     · rw [if_pos c3] at H
       have c3b0 : decide (0 ≤ x3_1) = true := decide_eq_true c3
       clear c3
       replace H := Option.bind_eq_some_iff.mp H
       obtain ⟨t210, A40, H⟩ := H
       replace H : (if t210 = true then (handshakerref05_Right.l1 k1 l0 x3_1 0) else (some false)) = some r := H
       have A4 := Aside0.mk A40
       clear A40
       by_cases c5 : t210 = true
       · subst c5
         have H1 : (handshakerref05_Right.l1 k1 l0 x3_1 0) = some r := by rw [if_pos rfl] at H; exact H
         clear H
         have H := H1
         clear H1
         have H' := Aside0.mk H
         clear H
         have p209 : 0 ≤ (x3_1 : Int) := of_decide_eq_true (by first | (with_reducible assumption) | assumption)
         have q209 : x3_1 < (l0.length : Int) := of_decide_eq_true (by first | (with_reducible assumption) | assumption)
         obtain ⟨ad209, e209, hx209_0, hx209_1, hx209_2⟩ := at_T24 HR0.out x3_1 p209 q209
         cases e209
         replace hx209_0 := (HB.out.cell (World.block_lt_of_cell? w _ hx209_0)).trans hx209_0
         replace hx209_1 := (HB.out.cell (World.block_lt_of_cell? w _ hx209_1)).trans hx209_1
         replace hx209_2 := (HB.out.cell (World.block_lt_of_cell? w _ hx209_2)).trans hx209_2
         replace p209 := eq_true p209
         replace q209 := eq_true q209
         go_wp2_with (first | ((first | ((with_reducible refine gate_callee (f := 47) rfl ?_); refine goesL_ (some 16) rfl rfl Try.func47 (by kernel_rfl) rfl #[.agg #[.int .i64 ((rd_T24 l0 x3_1).f0), .int .i64 ((rd_T24 l0 x3_1).f1), .int .i64 ((rd_T24 l0 x3_1).f2)]] rfl (by (try simp only [List.map_toArray, List.map_cons, List.map_nil]); first | done | rfl) ?_; (with_reducible refine (handshakerref05_one.calls ((rd_T24 l0 x3_1).f0) ((rd_T24 l0 x3_1).f1) ((rd_T24 l0 x3_1).f2) true _ A4.out).mono ?_); rintro e w6 ⟨rfl, hb⟩; refine ⟨_, rfl, ?_⟩; have n0_ := Aside0.mk (bst_ hb); clear HB; have HB := n0_; clear n0_; (try clear hb); (try clear hb2); (try clear hk); (try clear hi)) | (go_at_call 47; (with_reducible refine (handshakerref05_one.calls ((rd_T24 l0 x3_1).f0) ((rd_T24 l0 x3_1).f1) ((rd_T24 l0 x3_1).f2) true _ A4.out).mono ?_); rintro e w6 ⟨rfl, hb⟩; have n0_ := Aside0.mk (bst_ hb); clear HB; have HB := n0_; clear n0_; (try clear hb); (try clear hb2); (try clear hk); (try clear hi)))))
         repeat (go_quiet (first | ((first | ((with_reducible refine gate_callee (f := 47) rfl ?_); refine goesL_ (some 16) rfl rfl Try.func47 (by kernel_rfl) rfl #[.agg #[.int .i64 ((rd_T24 l0 x3_1).f0), .int .i64 ((rd_T24 l0 x3_1).f1), .int .i64 ((rd_T24 l0 x3_1).f2)]] rfl (by (try simp only [List.map_toArray, List.map_cons, List.map_nil]); first | done | rfl) ?_; (with_reducible refine (handshakerref05_one.calls ((rd_T24 l0 x3_1).f0) ((rd_T24 l0 x3_1).f1) ((rd_T24 l0 x3_1).f2) true _ A4.out).mono ?_); rintro e w6 ⟨rfl, hb⟩; refine ⟨_, rfl, ?_⟩; have n0_ := Aside0.mk (bst_ hb); clear HB; have HB := n0_; clear n0_; (try clear hb); (try clear hb2); (try clear hk); (try clear hi)) | (go_at_call 47; (with_reducible refine (handshakerref05_one.calls ((rd_T24 l0 x3_1).f0) ((rd_T24 l0 x3_1).f1) ((rd_T24 l0 x3_1).f2) true _ A4.out).mono ?_); rintro e w6 ⟨rfl, hb⟩; have n0_ := Aside0.mk (bst_ hb); clear HB; have HB := n0_; clear n0_; (try clear hb); (try clear hb2); (try clear hk); (try clear hi))))); try go_wp2_with (first | ((first | ((with_reducible refine gate_callee (f := 47) rfl ?_); refine goesL_ (some 16) rfl rfl Try.func47 (by kernel_rfl) rfl #[.agg #[.int .i64 ((rd_T24 l0 x3_1).f0), .int .i64 ((rd_T24 l0 x3_1).f1), .int .i64 ((rd_T24 l0 x3_1).f2)]] rfl (by (try simp only [List.map_toArray, List.map_cons, List.map_nil]); first | done | rfl) ?_; (with_reducible refine (handshakerref05_one.calls ((rd_T24 l0 x3_1).f0) ((rd_T24 l0 x3_1).f1) ((rd_T24 l0 x3_1).f2) true _ A4.out).mono ?_); rintro e w6 ⟨rfl, hb⟩; refine ⟨_, rfl, ?_⟩; have n0_ := Aside0.mk (bst_ hb); clear HB; have HB := n0_; clear n0_; (try clear hb); (try clear hb2); (try clear hk); (try clear hi)) | (go_at_call 47; (with_reducible refine (handshakerref05_one.calls ((rd_T24 l0 x3_1).f0) ((rd_T24 l0 x3_1).f1) ((rd_T24 l0 x3_1).f2) true _ A4.out).mono ?_); rintro e w6 ⟨rfl, hb⟩; have n0_ := Aside0.mk (bst_ hb); clear HB; have HB := n0_; clear n0_; (try clear hb); (try clear hb2); (try clear hk); (try clear hi))))))
         go_loopg [5] k1 (fun kq v5 w' => ∃ (x5_2 : Int), v5 = .int .i64 x5_2 ∧ Aside0 (handshakerref05_Right.l1 kq l0 x3_1 x5_2 = some r) ∧ Aside0 (kq ≤ k1) ∧ Aside0 (Below w.heap.size w w'))
         case atStart => exact ⟨(0), (by first | rfl | (simp; done) | (simp [*]; done)), H', ⟨Nat.le_refl _⟩, ⟨by repeat (with_reducible first | exact HB.out | apply below_alloc | apply pw_below_drewN | apply below_drew1)⟩⟩
         case round =>
          clear H'
          try clear c1
          try clear c2
          try clear c2b0
          try clear p2
          try clear q2
          try clear hx2
          try clear c3
          try clear c3b0
          try clear c4
          try clear c5
          try clear hx209_0
          try clear hx209_1
          try clear hx209_2
          try clear p209
          try clear q209
          obtain ⟨x5_2, rfl, HA, HK2, HB⟩ := hrel
          cases gk with
          | zero => exact absurd HA.out (by simp [handshakerref05_Right.l1])
          | succ k2 =>
           have H := HA.out
           clear HA
           simp only [handshakerref05_Right.l1] at H
           by_cases c7 : x5_2 < x3_1
           · rw [if_pos c7] at H
             have c7b0 : decide (x5_2 < x3_1) = true := decide_eq_true c7
             clear c7
             by_cases c8 : 0 ≤ x5_2
             · rw [if_pos c8] at H
               have c8b0 : decide (0 ≤ x5_2) = true := decide_eq_true c8
               clear c8
               by_cases c9 : x5_2 < (l0.length : Int)
               · rw [if_pos c9] at H
                 have c9b0 : decide (x5_2 < (l0.length : Int)) = true := decide_eq_true c9
                 clear c9
                 by_cases c10 : 0 ≤ x3_1
                 · rw [if_pos c10] at H
                   have c10b0 : decide (0 ≤ x3_1) = true := decide_eq_true c10
                   clear c10
                   by_cases c11 : x3_1 < (l0.length : Int)
                   · rw [if_pos c11] at H
                     have c11b0 : decide (x3_1 < (l0.length : Int)) = true := decide_eq_true c11
                     clear c11
                     by_cases c12 : ((rd_T24 l0 x5_2).f0) = ((rd_T24 l0 x3_1).f0)
                     · rw [if_pos c12] at H
                       have c12b0 : (((rd_T24 l0 x5_2).f0) == ((rd_T24 l0 x3_1).f0)) = true := beq_iff_eq.mpr c12
                       have c12b1 : (((rd_T24 l0 x5_2).f0) != ((rd_T24 l0 x3_1).f0)) = false := bne_eq_false_iff_eq.mpr c12
                       clear c12
                       obtain rfl := Option.some.inj H
                       have p211 : 0 ≤ (x5_2 : Int) := of_decide_eq_true (by first | (with_reducible assumption) | assumption)
                       have q211 : x5_2 < (l0.length : Int) := of_decide_eq_true (by first | (with_reducible assumption) | assumption)
                       obtain ⟨ad211, e211, hx211_0, hx211_1, hx211_2⟩ := at_T24 HR0.out x5_2 p211 q211
                       obtain rfl : ad209 = ad211 := (by injection e211)
                       replace hx211_0 := (HB.out.cell (World.block_lt_of_cell? w _ hx211_0)).trans hx211_0
                       replace hx211_1 := (HB.out.cell (World.block_lt_of_cell? w _ hx211_1)).trans hx211_1
                       replace hx211_2 := (HB.out.cell (World.block_lt_of_cell? w _ hx211_2)).trans hx211_2
                       replace p211 := eq_true p211
                       replace q211 := eq_true q211
                       have p212 : 0 ≤ (x3_1 : Int) := of_decide_eq_true (by first | (with_reducible assumption) | assumption)
                       have q212 : x3_1 < (l0.length : Int) := of_decide_eq_true (by first | (with_reducible assumption) | assumption)
                       obtain ⟨ad212, e212, hx212_0, hx212_1, hx212_2⟩ := at_T24 HR0.out x3_1 p212 q212
                       obtain rfl : ad209 = ad212 := (by injection e212)
                       replace hx212_0 := (HB.out.cell (World.block_lt_of_cell? w _ hx212_0)).trans hx212_0
                       replace hx212_1 := (HB.out.cell (World.block_lt_of_cell? w _ hx212_1)).trans hx212_1
                       replace hx212_2 := (HB.out.cell (World.block_lt_of_cell? w _ hx212_2)).trans hx212_2
                       replace p212 := eq_true p212
                       replace q212 := eq_true q212
                       go_wp2
                       repeat (go_quiet (fail); try go_wp2)
                       go_ret
                       exact ⟨by first | rfl | (simp [errW_none, errW_some] <;> rfl) | (simp [*, errW_none, errW_some] <;> rfl), by repeat (with_reducible first | exact HB.out | apply below_alloc | apply pw_below_drewN | apply below_drew1)⟩
                     · rw [if_neg c12] at H
                       have c12b0 : (((rd_T24 l0 x5_2).f0) == ((rd_T24 l0 x3_1).f0)) = false := beq_eq_false_iff_ne.mpr c12
                       have c12b1 : (((rd_T24 l0 x5_2).f0) != ((rd_T24 l0 x3_1).f0)) = true := bne_iff_ne.mpr c12
                       have H' := Aside0.mk H
                       clear H
                       have p211 : 0 ≤ (x5_2 : Int) := of_decide_eq_true (by first | (with_reducible assumption) | assumption)
                       have q211 : x5_2 < (l0.length : Int) := of_decide_eq_true (by first | (with_reducible assumption) | assumption)
                       obtain ⟨ad211, e211, hx211_0, hx211_1, hx211_2⟩ := at_T24 HR0.out x5_2 p211 q211
                       obtain rfl : ad209 = ad211 := (by injection e211)
                       replace hx211_0 := (HB.out.cell (World.block_lt_of_cell? w _ hx211_0)).trans hx211_0
                       replace hx211_1 := (HB.out.cell (World.block_lt_of_cell? w _ hx211_1)).trans hx211_1
                       replace hx211_2 := (HB.out.cell (World.block_lt_of_cell? w _ hx211_2)).trans hx211_2
                       replace p211 := eq_true p211
                       replace q211 := eq_true q211
                       have p212 : 0 ≤ (x3_1 : Int) := of_decide_eq_true (by first | (with_reducible assumption) | assumption)
                       have q212 : x3_1 < (l0.length : Int) := of_decide_eq_true (by first | (with_reducible assumption) | assumption)
                       obtain ⟨ad212, e212, hx212_0, hx212_1, hx212_2⟩ := at_T24 HR0.out x3_1 p212 q212
                       obtain rfl : ad209 = ad212 := (by injection e212)
                       replace hx212_0 := (HB.out.cell (World.block_lt_of_cell? w _ hx212_0)).trans hx212_0
                       replace hx212_1 := (HB.out.cell (World.block_lt_of_cell? w _ hx212_1)).trans hx212_1
                       replace hx212_2 := (HB.out.cell (World.block_lt_of_cell? w _ hx212_2)).trans hx212_2
                       replace p212 := eq_true p212
                       replace q212 := eq_true q212
                       go_wp2
                       repeat (go_quiet (fail); try go_wp2)
                       go_roundg k2
                       case measure => have := HK1.out; have := HK2.out; omega
                       case rel => exact ⟨(wrap64 (x5_2 + 1)), (by first | rfl | (simp; done) | (simp [*]; done)), H', ⟨by have := HK1.out; have := HK2.out; omega⟩, ⟨by repeat (with_reducible first | exact HB.out | apply below_alloc | apply pw_below_drewN | apply below_drew1)⟩⟩
                   · rw [if_neg c11] at H
                     exact absurd H (by simp)
                 · rw [if_neg c10] at H
                   exact absurd H (by simp)
               · rw [if_neg c9] at H
                 exact absurd H (by simp)
             · rw [if_neg c8] at H
               exact absurd H (by simp)
           · rw [if_neg c7] at H
             have c7b0 : decide (x5_2 < x3_1) = false := decide_eq_false c7
             clear c7
             have H' := Aside0.mk H
             clear H
             go_wp2
             repeat (go_quiet (fail); try go_wp2)
             go_roundg k2
             case measure => have := HK1.out; have := HK2.out; omega
             case rel => exact ⟨(wrap64 (x3_1 + 1)), (by first | rfl | (simp; done) | (simp [*]; done)), H', ⟨by have := HK1.out; have := HK2.out; omega⟩, ⟨by repeat (with_reducible first | exact HB.out | apply below_alloc | apply pw_below_drewN | apply below_drew1)⟩⟩
       · replace c5 := Bool.eq_false_iff.mpr c5
         subst c5
         have H1 : (some false) = some r := by rw [if_neg (show ¬ (false = true) by decide)] at H; exact H
         clear H
         have H := H1
         clear H1
         obtain rfl := Option.some.inj H
         have p209 : 0 ≤ (x3_1 : Int) := of_decide_eq_true (by first | (with_reducible assumption) | assumption)
         have q209 : x3_1 < (l0.length : Int) := of_decide_eq_true (by first | (with_reducible assumption) | assumption)
         obtain ⟨ad209, e209, hx209_0, hx209_1, hx209_2⟩ := at_T24 HR0.out x3_1 p209 q209
         cases e209
         replace hx209_0 := (HB.out.cell (World.block_lt_of_cell? w _ hx209_0)).trans hx209_0
         replace hx209_1 := (HB.out.cell (World.block_lt_of_cell? w _ hx209_1)).trans hx209_1
         replace hx209_2 := (HB.out.cell (World.block_lt_of_cell? w _ hx209_2)).trans hx209_2
         replace p209 := eq_true p209
         replace q209 := eq_true q209
         go_wp2_with (first | ((first | ((with_reducible refine gate_callee (f := 47) rfl ?_); refine goesL_ (some 16) rfl rfl Try.func47 (by kernel_rfl) rfl #[.agg #[.int .i64 ((rd_T24 l0 x3_1).f0), .int .i64 ((rd_T24 l0 x3_1).f1), .int .i64 ((rd_T24 l0 x3_1).f2)]] rfl (by (try simp only [List.map_toArray, List.map_cons, List.map_nil]); first | done | rfl) ?_; (with_reducible refine (handshakerref05_one.calls ((rd_T24 l0 x3_1).f0) ((rd_T24 l0 x3_1).f1) ((rd_T24 l0 x3_1).f2) false _ A4.out).mono ?_); rintro e w13 ⟨rfl, hb⟩; refine ⟨_, rfl, ?_⟩; have n0_ := Aside0.mk (bst_ hb); clear HB; have HB := n0_; clear n0_; (try clear hb); (try clear hb2); (try clear hk); (try clear hi)) | (go_at_call 47; (with_reducible refine (handshakerref05_one.calls ((rd_T24 l0 x3_1).f0) ((rd_T24 l0 x3_1).f1) ((rd_T24 l0 x3_1).f2) false _ A4.out).mono ?_); rintro e w13 ⟨rfl, hb⟩; have n0_ := Aside0.mk (bst_ hb); clear HB; have HB := n0_; clear n0_; (try clear hb); (try clear hb2); (try clear hk); (try clear hi)))))
         repeat (go_quiet (first | ((first | ((with_reducible refine gate_callee (f := 47) rfl ?_); refine goesL_ (some 16) rfl rfl Try.func47 (by kernel_rfl) rfl #[.agg #[.int .i64 ((rd_T24 l0 x3_1).f0), .int .i64 ((rd_T24 l0 x3_1).f1), .int .i64 ((rd_T24 l0 x3_1).f2)]] rfl (by (try simp only [List.map_toArray, List.map_cons, List.map_nil]); first | done | rfl) ?_; (with_reducible refine (handshakerref05_one.calls ((rd_T24 l0 x3_1).f0) ((rd_T24 l0 x3_1).f1) ((rd_T24 l0 x3_1).f2) false _ A4.out).mono ?_); rintro e w13 ⟨rfl, hb⟩; refine ⟨_, rfl, ?_⟩; have n0_ := Aside0.mk (bst_ hb); clear HB; have HB := n0_; clear n0_; (try clear hb); (try clear hb2); (try clear hk); (try clear hi)) | (go_at_call 47; (with_reducible refine (handshakerref05_one.calls ((rd_T24 l0 x3_1).f0) ((rd_T24 l0 x3_1).f1) ((rd_T24 l0 x3_1).f2) false _ A4.out).mono ?_); rintro e w13 ⟨rfl, hb⟩; have n0_ := Aside0.mk (bst_ hb); clear HB; have HB := n0_; clear n0_; (try clear hb); (try clear hb2); (try clear hk); (try clear hi))))); try go_wp2_with (first | ((first | ((with_reducible refine gate_callee (f := 47) rfl ?_); refine goesL_ (some 16) rfl rfl Try.func47 (by kernel_rfl) rfl #[.agg #[.int .i64 ((rd_T24 l0 x3_1).f0), .int .i64 ((rd_T24 l0 x3_1).f1), .int .i64 ((rd_T24 l0 x3_1).f2)]] rfl (by (try simp only [List.map_toArray, List.map_cons, List.map_nil]); first | done | rfl) ?_; (with_reducible refine (handshakerref05_one.calls ((rd_T24 l0 x3_1).f0) ((rd_T24 l0 x3_1).f1) ((rd_T24 l0 x3_1).f2) false _ A4.out).mono ?_); rintro e w13 ⟨rfl, hb⟩; refine ⟨_, rfl, ?_⟩; have n0_ := Aside0.mk (bst_ hb); clear HB; have HB := n0_; clear n0_; (try clear hb); (try clear hb2); (try clear hk); (try clear hi)) | (go_at_call 47; (with_reducible refine (handshakerref05_one.calls ((rd_T24 l0 x3_1).f0) ((rd_T24 l0 x3_1).f1) ((rd_T24 l0 x3_1).f2) false _ A4.out).mono ?_); rintro e w13 ⟨rfl, hb⟩; have n0_ := Aside0.mk (bst_ hb); clear HB; have HB := n0_; clear n0_; (try clear hb); (try clear hb2); (try clear hk); (try clear hi))))))
         go_ret
         exact ⟨by first | rfl | (simp [errW_none, errW_some] <;> rfl) | (simp [*, errW_none, errW_some] <;> rfl), by repeat (with_reducible first | exact HB.out | apply below_alloc | apply pw_below_drewN | apply below_drew1)⟩
     · rw [if_neg c3] at H
       exact absurd H (by simp)
   · rw [if_neg c2] at H
     have c2b0 : decide (x3_1 < (l0.length : Int)) = false := decide_eq_false c2
     clear c2
     obtain rfl := Option.some.inj H
     go_wp2
     repeat (go_quiet (fail); try go_wp2)
     go_ret
     exact ⟨by first | rfl | (simp [errW_none, errW_some] <;> rfl) | (simp [*, errW_none, errW_some] <;> rfl), by repeat (with_reducible first | exact HB.out | apply below_alloc | apply pw_below_drewN | apply below_drew1)⟩

end Go.Proofs.Ytlfmobnmohnjmaa.R
