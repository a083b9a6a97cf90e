-- PRINTED by print.py (a twelfth state) out of the translation. Not trusted: Lean checks it.
import Derived.Test.YtpeblomhhofhkaaHx0
import Derived.Test.YtpeblomhhofhkaaHx8
namespace Go.Proofs.Ytpeblomhhofhkaa.H
open Go.Proofs.Ytpeblomhhofhkaa.Ho
open Go.RowKit Go.Proofs.YtpeblomhhofhkaaW.PrintWords Go.Proofs.YtpeblomhhofhkaaW.PrintLast Go.Proofs.YtpeblomhhofhkaaW.PrintMore
attribute [local go_sem] max2_int min2_int max_two min_two max_three min_three max_four min_four   -- for this text's walks alone
set_option linter.unusedVariables false
set_option linter.unusedSimpArgs false

/-! ### handshakerlaw09_small: function 9 -/
def handshakerlaw09_small.l0 : Nat → List (List (S53)) → List (List (S53)) → Int → Int → Option (Bool)
 | 0, _, _, _, _ => none
 | k + 1, x0, x5, x6, x7 => if x7 < x6 then (if 0 ≤ x7 then (if x7 < (x5.length : Int) then ((handshakerlaw08_Small.f k (rd_L5 x5 x7)).bind fun t228 => (if t228 < 0 then (some false) else (handshakerlaw09_small.l0 k x0 x5 x6 (wrap64 (x7 + 1))))) else (none)) else (none)) else (some (decide ((x0.length : Int) ≤ 12)))
def handshakerlaw09_small.f (k : Nat) (l0 : List (List (S53))) : Option (Bool) := handshakerlaw09_small.l0 k l0 l0 (l0.length : Int) 0
theorem handshakerlaw09_small.mono_l : ∀ k, (∀ y0 y1 y2 y3, LeO (handshakerlaw09_small.l0 k y0 y1 y2 y3) (handshakerlaw09_small.l0 (k + 1) y0 y1 y2 y3))
 | 0 => fun _ _ _ _ r h => by simp [handshakerlaw09_small.l0] at h
 | k + 1 => by
  have ih0 := handshakerlaw09_small.mono_l k
  · intro y0 y1 y2 y3
    unfold handshakerlaw09_small.l0
    repeat' first
    | (with_reducible exact ih0 _ _ _ _)
    | (with_reducible exact handshakerlaw08_Small.mono _ _)
    | (with_reducible exact LeO.refl _)
    | (with_reducible exact LeO.none _)
    | (with_reducible refine LeO.ite ?_ ?_)
    | (with_reducible refine LeO.bind ?_ (fun _ => ?_))
    | exact ih0 _ _ _ _
    | exact handshakerlaw08_Small.mono _ _
    | exact LeO.none _
    | refine LeO.ite ?_ ?_
    | refine LeO.bind ?_ (fun _ => ?_)
theorem handshakerlaw09_small.mono : ∀ a0 k, LeO (handshakerlaw09_small.f k a0) (handshakerlaw09_small.f (k + 1) a0) := by
 intro a0 k
 have ih0 := handshakerlaw09_small.mono_l k
 unfold handshakerlaw09_small.f
 repeat' first
  | (with_reducible exact ih0 _ _ _ _)
  | (with_reducible exact handshakerlaw08_Small.mono _ _)
  | (with_reducible exact LeO.refl _)
  | (with_reducible exact LeO.none _)
  | (with_reducible refine LeO.ite ?_ ?_)
  | (with_reducible refine LeO.bind ?_ (fun _ => ?_))
  | exact ih0 _ _ _ _
  | exact handshakerlaw08_Small.mono _ _
  | exact LeO.none _
  | refine LeO.ite ?_ ?_
  | refine LeO.bind ?_ (fun _ => ?_)
set_option maxHeartbeats 8000000 in
set_option maxRecDepth 100000 in
theorem handshakerlaw09_small.calls (k : Nat) (A0 : Option Addr) (c0 : Nat) (l0 : List (List (S53))) (r : Bool) (w : World) (hr0 : Kd.C (Kd.slice 53 k53) w A0 l0.length l0) (hc0 : l0.length ≤ c0) (h : handshakerlaw09_small.f k l0 = some r) :
 Calls Try.prog 9 #[.slice A0 l0.length c0] w fun e w' => e = .returned (.bool r) ∧ Below w.heap.size w w' := by
 have HR0 := ak hr0
 have HC0 := ak hc0
 clear hr0 hc0
 have HB := ak (Below.refl w.heap.size w)
 have H : (handshakerlaw09_small.l0 k l0 l0 (l0.length : Int) 0) = some r := h
 clear h
 have H' := ak H
 clear H
 go_enter Try.func9, Try.ntmps9
 go_wp2
 go_loopg [7] k (fun kq v7 w' => ∃ (x7_1 : Int), v7 = .int .i64 x7_1 ∧ Aside0 (handshakerlaw09_small.l0 kq l0 l0 (l0.length : Int) x7_1 = some r) ∧ Aside0 (kq ≤ k) ∧ Aside0 (Below w.heap.size w w'))
 case atStart => exact ⟨(0), (by first | rfl | (simp; done) | (simp [*]; done)), H', ⟨Nat.le_refl _⟩, ⟨bsv_⟩⟩
 case round =>
  clear H'
  obtain ⟨x7_1, rfl, HA, HK1, HB⟩ := hrel
  cases gk with
  | zero => exact absurd HA.out (by simp [handshakerlaw09_small.l0])
  | succ k1 =>
   have H := HA.out
   clear HA
   simp only [handshakerlaw09_small.l0] at H
   by_cases c2 : x7_1 < (l0.length : Int)
   rotate_left
   · rw [if_neg c2] at H
     have c2b0 : decide (x7_1 < (l0.length : Int)) = false := decide_eq_false c2
     clear c2
     obtain rfl := Option.some.inj H
     go_wp2
     go_ret
     exact ⟨by first | rfl | (simp [errW_none, errW_some] <;> rfl) | (simp [*, errW_none, errW_some] <;> rfl), bsv_⟩
   rw [if_pos c2] at H
   have c2b0 : decide (x7_1 < (l0.length : Int)) = true := decide_eq_true c2
   clear c2
   by_cases c3 : 0 ≤ x7_1
   rotate_left
   · rw [if_neg c3] at H
     exact absurd H (by simp)
   rw [if_pos c3] at H
   have c3b0 : decide (0 ≤ x7_1) = true := decide_eq_true c3
   clear c3
   by_cases c4 : x7_1 < (l0.length : Int)
   rotate_left
   · rw [if_neg c4] at H
     exact absurd H (by simp)
   rw [if_pos c4] at H
   have c4b0 : decide (x7_1 < (l0.length : Int)) = true := decide_eq_true c4
   clear c4
   obtain ⟨t228, A5, H⟩ := bd_ H
   by_cases c6 : t228 < 0
   · rw [if_pos c6] at H
     have c6b0 : decide (t228 < 0) = true := decide_eq_true c6
     clear c6
     obtain rfl := Option.some.inj H
     have p227 : 0 ≤ (x7_1 : Int) := oda_
     have q227 : x7_1 < (l0.length : Int) := oda_
     obtain ⟨ad227, A227_0, c227_0, e227, hx227_0, hl227_0, hi227_0⟩ := at_L5 HR0.out x7_1 p227 q227
     cases e227
     replace hx227_0 := bl_ HB hx227_0
     have HR227_0 := ak hi227_0
     have HC227_0 := ak hl227_0
     clear hi227_0 hl227_0
     replace p227 := eq_true p227
     replace q227 := eq_true q227
     go_wp2_with (first | ((with_reducible refine gate_callee (f := 22) rfl ?_); refine goesL_ (some 12) rfl rfl Try.func22 (by kernel_rfl) rfl #[.slice A227_0 (rd_L5 l0 x7_1).length c227_0] rfl mp_ ?_; (with_reducible refine (handshakerlaw08_Small.calls k1 _ _ (rd_L5 l0 x7_1) t228 _ ?side1 ?side2 A5.out).mono ?_); (case side1 => exact cb_ HR227_0 HB); (case side2 => exact HC227_0.out); rintro e w7 ⟨rfl, hb⟩; refine ⟨_, rfl, ?_⟩; replace HB := ak (bst_ hb); (try clear hb)))
     go_ret
     exact ⟨by first | rfl | (simp [errW_none, errW_some] <;> rfl) | (simp [*, errW_none, errW_some] <;> rfl), bsv_⟩
   rw [if_neg c6] at H
   have c6b0 : decide (t228 < 0) = false := decide_eq_false c6
   clear c6
   have H' := ak H
   clear H
   have p227 : 0 ≤ (x7_1 : Int) := oda_
   have q227 : x7_1 < (l0.length : Int) := oda_
   obtain ⟨ad227, A227_0, c227_0, e227, hx227_0, hl227_0, hi227_0⟩ := at_L5 HR0.out x7_1 p227 q227
   cases e227
   replace hx227_0 := bl_ HB hx227_0
   have HR227_0 := ak hi227_0
   have HC227_0 := ak hl227_0
   clear hi227_0 hl227_0
   replace p227 := eq_true p227
   replace q227 := eq_true q227
   go_wp2_with (first | ((with_reducible refine gate_callee (f := 22) rfl ?_); refine goesL_ (some 12) rfl rfl Try.func22 (by kernel_rfl) rfl #[.slice A227_0 (rd_L5 l0 x7_1).length c227_0] rfl mp_ ?_; (with_reducible refine (handshakerlaw08_Small.calls k1 _ _ (rd_L5 l0 x7_1) t228 _ ?side1 ?side2 A5.out).mono ?_); (case side1 => exact cb_ HR227_0 HB); (case side2 => exact HC227_0.out); rintro e w8 ⟨rfl, hb⟩; refine ⟨_, rfl, ?_⟩; replace HB := ak (bst_ hb); (try clear hb)))
   go_roundg k1
   case measure => have := HK1.out; omega
   case rel => exact ⟨(wrap64 (x7_1 + 1)), (by first | rfl | (simp; done) | (simp [*]; done)), H', ⟨by have := HK1.out; omega⟩, ⟨bsv_⟩⟩

end Go.Proofs.Ytpeblomhhofhkaa.H
