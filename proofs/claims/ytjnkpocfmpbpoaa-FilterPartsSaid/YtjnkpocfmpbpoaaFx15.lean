-- PRINTED by print.py (a twelfth state) out of the translation. Not trusted: Lean checks it.
import Derived.Test.YtjnkpocfmpbpoaaFx0
import Derived.Test.YtjnkpocfmpbpoaaFx13
namespace Go.Proofs.Ytjnkpocfmpbpoaa.F
open Go.Proofs.Ytjnkpocfmpbpoaa.Ho
open Go.RowKit Go.Proofs.YtjnkpocfmpbpoaaW.PrintWords Go.Proofs.YtjnkpocfmpbpoaaW.PrintLast Go.Proofs.YtjnkpocfmpbpoaaW.PrintMore
attribute [local go_sem] max2_int min2_int max_two min_two max_three min_three max_four min_four   -- for this text's walks alone
set_option linter.unusedVariables false
set_option linter.unusedSimpArgs false

/-! ### handshakerlaw15_Small: function 14 -/
def handshakerlaw15_Small.l0 : Nat → List (S26) → List (S26) → Int → Int → Option (Int)
 | 0, _, _, _, _ => none
 | k + 1, x0, x5, x6, x7 => if x7 < x6 then (if 0 ≤ x7 then (if x7 < (x5.length : Int) then (if (((rd_T26 x5 x7).f3).length : Int) > 40 then (some (-1)) else (if (((rd_T26 x5 x7).f4).length : Int) > 20 then (some (-1)) else (handshakerlaw15_Small.l0 k x0 x5 x6 (wrap64 (x7 + 1))))) else (none)) else (none)) else (if (x0.length : Int) > 20 then (some (-1)) else (some (x0.length : Int)))
def handshakerlaw15_Small.f (k : Nat) (l0 : List (S26)) : Option (Int) := handshakerlaw15_Small.l0 k l0 l0 (l0.length : Int) 0
theorem handshakerlaw15_Small.mono_l : ∀ k, (∀ y0 y1 y2 y3, LeO (handshakerlaw15_Small.l0 k y0 y1 y2 y3) (handshakerlaw15_Small.l0 (k + 1) y0 y1 y2 y3))
 | 0 => fun _ _ _ _ r h => by simp [handshakerlaw15_Small.l0] at h
 | k + 1 => by
  have ih0 := handshakerlaw15_Small.mono_l k
  · intro y0 y1 y2 y3
    unfold handshakerlaw15_Small.l0
    repeat' first
    | (with_reducible exact ih0 _ _ _ _)
    | (with_reducible exact LeO.refl _)
    | (with_reducible exact LeO.none _)
    | (with_reducible refine LeO.ite ?_ ?_)
    | (with_reducible refine LeO.bind ?_ (fun _ => ?_))
    | exact ih0 _ _ _ _
    | exact LeO.none _
    | refine LeO.ite ?_ ?_
    | refine LeO.bind ?_ (fun _ => ?_)
theorem handshakerlaw15_Small.mono : ∀ a0 k, LeO (handshakerlaw15_Small.f k a0) (handshakerlaw15_Small.f (k + 1) a0) := by
 intro a0 k
 have ih0 := handshakerlaw15_Small.mono_l k
 unfold handshakerlaw15_Small.f
 repeat' first
  | (with_reducible exact ih0 _ _ _ _)
  | (with_reducible exact LeO.refl _)
  | (with_reducible exact LeO.none _)
  | (with_reducible refine LeO.ite ?_ ?_)
  | (with_reducible refine LeO.bind ?_ (fun _ => ?_))
  | exact ih0 _ _ _ _
  | exact LeO.none _
  | refine LeO.ite ?_ ?_
  | refine LeO.bind ?_ (fun _ => ?_)
set_option maxHeartbeats 8000000 in
set_option maxRecDepth 100000 in
theorem handshakerlaw15_Small.calls (k : Nat) (A0 : Option Addr) (c0 : Nat) (l0 : List (S26)) (r : Int) (w : World) (hr0 : Kd.C k26 w A0 l0.length l0) (hc0 : l0.length ≤ c0) (h : handshakerlaw15_Small.f k l0 = some r) :
 Calls Try.prog 14 #[.slice A0 l0.length c0] w fun e w' => e = .returned (.int .i64 r) ∧ Below w.heap.size w w' := by
 have hu26 := Try.underlying26
 have HR0 := ak hr0
 have HC0 := ak hc0
 clear hr0 hc0
 have HB := ak (Below.refl w.heap.size w)
 have H : (handshakerlaw15_Small.l0 k l0 l0 (l0.length : Int) 0) = some r := h
 clear h
 have H' := ak H
 clear H
 go_enter Try.func14, Try.ntmps14
 go_wp2
 go_loopg [7] k (fun kq v7 w' => ∃ (x7_1 : Int), v7 = .int .i64 x7_1 ∧ Aside0 (handshakerlaw15_Small.l0 kq l0 l0 (l0.length : Int) x7_1 = some r) ∧ Aside0 (kq ≤ k) ∧ Aside0 (Below w.heap.size w w'))
 case atStart => exact ⟨(0), (by first | rfl | (simp; done) | (simp [*]; done)), H', ⟨Nat.le_refl _⟩, ⟨bsv_⟩⟩
 case round =>
  clear H'
  try clear c1
  obtain ⟨x7_1, rfl, HA, HK1, HB⟩ := hrel
  cases gk with
  | zero => exact absurd HA.out (by simp [handshakerlaw15_Small.l0])
  | succ k1 =>
   have H := HA.out
   clear HA
   simp only [handshakerlaw15_Small.l0] at H
   by_cases c2 : x7_1 < (l0.length : Int)
   · rw [if_pos c2] at H
     have c2b0 : decide (x7_1 < (l0.length : Int)) = true := decide_eq_true c2
     clear c2
     by_cases c3 : 0 ≤ x7_1
     · rw [if_pos c3] at H
       have c3b0 : decide (0 ≤ x7_1) = true := decide_eq_true c3
       clear c3
       by_cases c4 : x7_1 < (l0.length : Int)
       · rw [if_pos c4] at H
         have c4b0 : decide (x7_1 < (l0.length : Int)) = true := decide_eq_true c4
         clear c4
         by_cases c5 : (((rd_T26 l0 x7_1).f3).length : Int) > 40
         · rw [if_pos c5] at H
           have c5b0 : decide (40 < (((rd_T26 l0 x7_1).f3).length : Int)) = true := decide_eq_true c5
           have c5b1 : decide (40 < ((rd_T26 l0 x7_1).f3).length) = true := decide_eq_true (by omega)
           clear c5
           obtain rfl := Option.some.inj H
           have p441 : 0 ≤ (x7_1 : Int) := oda_
           have q441 : x7_1 < (l0.length : Int) := oda_
           obtain ⟨ad441, A441_3, c441_3, A441_4, c441_4, e441, hx441_0, hx441_1, hx441_2, hx441_3, hx441_4, hl441_3, hi441_3, hl441_4, hi441_4⟩ := at_T26 HR0.out x7_1 p441 q441
           cases e441
           replace hx441_0 := bl_ HB hx441_0
           replace hx441_1 := bl_ HB hx441_1
           replace hx441_2 := bl_ HB hx441_2
           replace hx441_3 := bl_ HB hx441_3
           replace hx441_4 := bl_ HB hx441_4
           have HR441_3 := ak hi441_3
           have HC441_3 := ak hl441_3
           clear hi441_3 hl441_3
           have HR441_4 := ak hi441_4
           have HC441_4 := ak hl441_4
           clear hi441_4 hl441_4
           replace p441 := eq_true p441
           replace q441 := eq_true q441
           go_wp2_with (first | ((with_reducible refine gate_dst (N := 4) rfl ?_); (try (refine gate_guard (by rfl) ?_; dsimp only)); refine box_event ?hg (N := 4) ?hd (cs := #[.int .i64 0, .int .i64 0, .int .i64 0, .slice none 0 0, .slice none 0 0]) (t := 26) ?hr ?_; (case hd => rfl); (case hg => rfl); (case hr => first | (go_simp; done) | (go_simp; rfl)); intro gb442 hg w6 hbox hb; replace BK442 := ak (hbox); replace GW442 := ak ((by rw [hg]; exact bsz_ : w.heap.size ≤ gb442)); replace HB := ak (bst_ hb); replace GE442 := GW442; clear hb hbox hg; obtain ⟨hcz7_0, hcz7_1, hcz7_2, hcz7_3, hcz7_4, hfz7_0, hfz7_1, hfz7_2, hfz7_3, hfz7_4⟩ := bz5_ BK442))
           go_ret
           exact ⟨by first | rfl | (simp [errW_none, errW_some] <;> rfl) | (simp [*, errW_none, errW_some] <;> rfl), bsw_⟩
         · rw [if_neg c5] at H
           have c5b0 : decide (40 < (((rd_T26 l0 x7_1).f3).length : Int)) = false := decide_eq_false c5
           have c5b1 : decide (40 < ((rd_T26 l0 x7_1).f3).length) = false := decide_eq_false (by omega)
           clear c5
           by_cases c8 : (((rd_T26 l0 x7_1).f4).length : Int) > 20
           · rw [if_pos c8] at H
             have c8b0 : decide (20 < (((rd_T26 l0 x7_1).f4).length : Int)) = true := decide_eq_true c8
             have c8b1 : decide (20 < ((rd_T26 l0 x7_1).f4).length) = true := decide_eq_true (by omega)
             clear c8
             obtain rfl := Option.some.inj H
             have p441 : 0 ≤ (x7_1 : Int) := oda_
             have q441 : x7_1 < (l0.length : Int) := oda_
             obtain ⟨ad441, A441_3, c441_3, A441_4, c441_4, e441, hx441_0, hx441_1, hx441_2, hx441_3, hx441_4, hl441_3, hi441_3, hl441_4, hi441_4⟩ := at_T26 HR0.out x7_1 p441 q441
             cases e441
             replace hx441_0 := bl_ HB hx441_0
             replace hx441_1 := bl_ HB hx441_1
             replace hx441_2 := bl_ HB hx441_2
             replace hx441_3 := bl_ HB hx441_3
             replace hx441_4 := bl_ HB hx441_4
             have HR441_3 := ak hi441_3
             have HC441_3 := ak hl441_3
             clear hi441_3 hl441_3
             have HR441_4 := ak hi441_4
             have HC441_4 := ak hl441_4
             clear hi441_4 hl441_4
             replace p441 := eq_true p441
             replace q441 := eq_true q441
             go_wp2_with (first | ((with_reducible refine gate_dst (N := 4) rfl ?_); (try (refine gate_guard (by rfl) ?_; dsimp only)); refine box_event ?hg (N := 4) ?hd (cs := #[.int .i64 0, .int .i64 0, .int .i64 0, .slice none 0 0, .slice none 0 0]) (t := 26) ?hr ?_; (case hd => rfl); (case hg => rfl); (case hr => first | (go_simp; done) | (go_simp; rfl)); intro gb442 hg w9 hbox hb; replace BK442 := ak (hbox); replace GW442 := ak ((by rw [hg]; exact bsz_ : w.heap.size ≤ gb442)); replace HB := ak (bst_ hb); replace GE442 := GW442; clear hb hbox hg; obtain ⟨hcz10_0, hcz10_1, hcz10_2, hcz10_3, hcz10_4, hfz10_0, hfz10_1, hfz10_2, hfz10_3, hfz10_4⟩ := bz5_ BK442))
             go_ret
             exact ⟨by first | rfl | (simp [errW_none, errW_some] <;> rfl) | (simp [*, errW_none, errW_some] <;> rfl), bsw_⟩
           · rw [if_neg c8] at H
             have c8b0 : decide (20 < (((rd_T26 l0 x7_1).f4).length : Int)) = false := decide_eq_false c8
             have c8b1 : decide (20 < ((rd_T26 l0 x7_1).f4).length) = false := decide_eq_false (by omega)
             clear c8
             have H' := ak H
             clear H
             have p441 : 0 ≤ (x7_1 : Int) := oda_
             have q441 : x7_1 < (l0.length : Int) := oda_
             obtain ⟨ad441, A441_3, c441_3, A441_4, c441_4, e441, hx441_0, hx441_1, hx441_2, hx441_3, hx441_4, hl441_3, hi441_3, hl441_4, hi441_4⟩ := at_T26 HR0.out x7_1 p441 q441
             cases e441
             replace hx441_0 := bl_ HB hx441_0
             replace hx441_1 := bl_ HB hx441_1
             replace hx441_2 := bl_ HB hx441_2
             replace hx441_3 := bl_ HB hx441_3
             replace hx441_4 := bl_ HB hx441_4
             have HR441_3 := ak hi441_3
             have HC441_3 := ak hl441_3
             clear hi441_3 hl441_3
             have HR441_4 := ak hi441_4
             have HC441_4 := ak hl441_4
             clear hi441_4 hl441_4
             replace p441 := eq_true p441
             replace q441 := eq_true q441
             go_wp2_with (first | ((with_reducible refine gate_dst (N := 4) rfl ?_); (try (refine gate_guard (by rfl) ?_; dsimp only)); refine box_event ?hg (N := 4) ?hd (cs := #[.int .i64 0, .int .i64 0, .int .i64 0, .slice none 0 0, .slice none 0 0]) (t := 26) ?hr ?_; (case hd => rfl); (case hg => rfl); (case hr => first | (go_simp; done) | (go_simp; rfl)); intro gb442 hg w11 hbox hb; replace BK442 := ak (hbox); replace GW442 := ak ((by rw [hg]; exact bsz_ : w.heap.size ≤ gb442)); replace HB := ak (bst_ hb); replace GE442 := GW442; clear hb hbox hg; obtain ⟨hcz12_0, hcz12_1, hcz12_2, hcz12_3, hcz12_4, hfz12_0, hfz12_1, hfz12_2, hfz12_3, hfz12_4⟩ := bz5_ BK442))
             go_roundg k1
             case measure => have := HK1.out; omega
             case rel => exact ⟨(wrap64 (x7_1 + 1)), (by first | rfl | (simp; done) | (simp [*]; done)), H', ⟨by have := HK1.out; omega⟩, ⟨bsw_⟩⟩
       · rw [if_neg c4] at H
         exact absurd H (by simp)
     · rw [if_neg c3] at H
       exact absurd H (by simp)
   · rw [if_neg c2] at H
     have c2b0 : decide (x7_1 < (l0.length : Int)) = false := decide_eq_false c2
     clear c2
     by_cases c13 : (l0.length : Int) > 20
     · rw [if_pos c13] at H
       have c13b0 : decide (20 < (l0.length : Int)) = true := decide_eq_true c13
       have c13b1 : decide (20 < l0.length) = true := decide_eq_true (by omega)
       clear c13
       obtain rfl := Option.some.inj H
       go_wp2
       go_ret
       exact ⟨by first | rfl | (simp [errW_none, errW_some] <;> rfl) | (simp [*, errW_none, errW_some] <;> rfl), bsv_⟩
     · rw [if_neg c13] at H
       have c13b0 : decide (20 < (l0.length : Int)) = false := decide_eq_false c13
       have c13b1 : decide (20 < l0.length) = false := decide_eq_false (by omega)
       clear c13
       obtain rfl := Option.some.inj H
       go_wp2
       go_ret
       exact ⟨by first | rfl | (simp [errW_none, errW_some] <;> rfl) | (simp [*, errW_none, errW_some] <;> rfl), bsv_⟩

/-! ### wfS80 -/
def wfS80 (x : S80) : Prop := (Lit.int .i64 x.f0).wf = true ∧ (Lit.int .i64 x.f1).wf = true

/-! ### wfS26 -/
def wfS26 (x : S26) : Prop := (Lit.int .i64 x.f0).wf = true ∧ (Lit.int .i64 x.f1).wf = true ∧ (Lit.int .i64 x.f2).wf = true ∧ (x.f3.length ≤ maxLen ∧ ∀ y ∈ x.f3, wfS62 y) ∧ (x.f4.length ≤ maxLen ∧ ∀ y ∈ x.f4, wfS80 y)

end Go.Proofs.Ytjnkpocfmpbpoaa.F
