-- PRINTED by print.py (a twelfth state) out of the translation. Not trusted: Lean checks it.
import Derived.Test.YtpeblomhhofhkaaHShI
import Derived.Test.YtpeblomhhofhkaaHx0
namespace Go.Proofs.Ytpeblomhhofhkaa.H
open Go.Proofs.Ytpeblomhhofhkaa.Ho
open Go.RowKit Go.Proofs.YtpeblomhhofhkaaW.PrintWords Go.Proofs.YtpeblomhhofhkaaW.PrintLast Go.Proofs.YtpeblomhhofhkaaW.PrintMore
attribute [local go_sem] max2_int min2_int max_two min_two max_three min_three max_four min_four   -- for this text's walks alone
set_option linter.unusedVariables false
set_option linter.unusedSimpArgs false

/-! ### shape_Read: function 18: walked by hand, in a text of its own -/

/-! ### handshakerlaw09_awake: function 10 -/
def handshakerlaw09_awake.f (k : Nat)  : Option (Bool) := (some (([(⟨3, 9, 0, (([(⟨1, (-2)⟩ : S50)] : List (S50)))⟩ : S53)] : List (S53)) : List (S53))).bind fun y163 => ((shape_Write.f k (([y163] : List (List (S53))))).bind fun bt169 => ((shape_Read.f k bt169.1).bind fun bt173 => ((some (([] : List Int) : List Int)).bind fun y177 => (if y177.length + bt169.1.length < 140737488355328 then ((some (y177 ++ bt169.1 : List Int)).bind fun y180 => (if y180.length < 140737488355328 then ((shape_Read.f k (y180 ++ [0])).bind fun bt186 => ((shape_Read.f k ([] : List Int)).bind fun bt190 => ((shape_Write.f k ([] : List (List (S53)))).bind fun bt194 => (if (strOfNums bt169.1).toList = ([1, 1, 3, 9, 0, 1, 1, 255, 255, 255, 254] : List UInt8) then (if bt169.2 = 0 then (if (bt173.1.length : Int) = 1 then (if 0 < (bt173.1.length : Int) then (if ((rd_L5 bt173.1 0).length : Int) = 1 then (if 0 < ((rd_L5 bt173.1 0).length : Int) then (if ((rd_T53 (rd_L5 bt173.1 0) 0).f1) = 9 then (if bt173.2 = 0 then (if bt186.2 = 2 then (if bt190.2 = 2 then (if (strOfNums bt194.1).toList = ([0] : List UInt8) then (if bt194.2 = 0 then ((shape_Size.f k y163).bind fun t201 => (if t201 = 10 then (some true) else (some false))) else (some false)) else (some false)) else (some false)) else (some false)) else (some false)) else (some false)) else (none)) else (some false)) else (none)) else (some false)) else (some false)) else (some false))))) else (none))) else (none)))))
theorem handshakerlaw09_awake.mono : ∀ k, LeO (handshakerlaw09_awake.f k ) (handshakerlaw09_awake.f (k + 1) ) := by
 intro  k
 unfold handshakerlaw09_awake.f
 repeat' first
  | (with_reducible exact shape_Read.mono _ _)
  | (with_reducible exact shape_Size.mono _ _)
  | (with_reducible exact shape_Write.mono _ _)
  | (with_reducible exact LeO.refl _)
  | (with_reducible exact LeO.none _)
  | (with_reducible refine LeO.ite ?_ ?_)
  | (with_reducible refine LeO.bind ?_ (fun _ => ?_))
  | exact shape_Read.mono _ _
  | exact shape_Size.mono _ _
  | exact shape_Write.mono _ _
  | exact LeO.none _
  | refine LeO.ite ?_ ?_
  | refine LeO.bind ?_ (fun _ => ?_)
set_option maxHeartbeats 8000000 in
set_option maxRecDepth 100000 in
theorem handshakerlaw09_awake.callsT (k : Nat)  (r : Bool) (w : World) (HT : Aside0 (r = true)) (h : handshakerlaw09_awake.f k  = some r) :
 Calls Try.prog 10 #[] w fun e w' => e = .returned (.bool r) ∧ Below w.heap.size w w' := by
 have hu50 := Try.underlying50
 have hu53 := Try.underlying53
 have HB := ak (Below.refl w.heap.size w)
 have H : ((some (([(⟨3, 9, 0, (([(⟨1, (-2)⟩ : S50)] : List (S50)))⟩ : S53)] : List (S53)) : List (S53))).bind fun y163 => ((shape_Write.f k (([y163] : List (List (S53))))).bind fun bt169 => ((shape_Read.f k bt169.1).bind fun bt173 => ((some (([] : List Int) : List Int)).bind fun y177 => (if y177.length + bt169.1.length < 140737488355328 then ((some (y177 ++ bt169.1 : List Int)).bind fun y180 => (if y180.length < 140737488355328 then ((shape_Read.f k (y180 ++ [0])).bind fun bt186 => ((shape_Read.f k ([] : List Int)).bind fun bt190 => ((shape_Write.f k ([] : List (List (S53)))).bind fun bt194 => (if (strOfNums bt169.1).toList = ([1, 1, 3, 9, 0, 1, 1, 255, 255, 255, 254] : List UInt8) then (if bt169.2 = 0 then (if (bt173.1.length : Int) = 1 then (if 0 < (bt173.1.length : Int) then (if ((rd_L5 bt173.1 0).length : Int) = 1 then (if 0 < ((rd_L5 bt173.1 0).length : Int) then (if ((rd_T53 (rd_L5 bt173.1 0) 0).f1) = 9 then (if bt173.2 = 0 then (if bt186.2 = 2 then (if bt190.2 = 2 then (if (strOfNums bt194.1).toList = ([0] : List UInt8) then (if bt194.2 = 0 then ((shape_Size.f k y163).bind fun t201 => (if t201 = 10 then (some true) else (some false))) else (some false)) else (some false)) else (some false)) else (some false)) else (some false)) else (some false)) else (none)) else (some false)) else (none)) else (some false)) else (some false)) else (some false))))) else (none))) else (none)))))) = some r := h
 clear h
 obtain ⟨y160, hy160⟩ : ∃ y_ : List (S50), y_ = (([(⟨1, (-2)⟩ : S50)] : List (S50))) := ⟨_, rfl⟩
 replace H : ((some (([(⟨3, 9, 0, y160⟩ : S53)] : List (S53)) : List (S53))).bind fun y163 => ((shape_Write.f k (([y163] : List (List (S53))))).bind fun bt169 => ((shape_Read.f k bt169.1).bind fun bt173 => ((some (([] : List Int) : List Int)).bind fun y177 => (if y177.length + bt169.1.length < 140737488355328 then ((some (y177 ++ bt169.1 : List Int)).bind fun y180 => (if y180.length < 140737488355328 then ((shape_Read.f k (y180 ++ [0])).bind fun bt186 => ((shape_Read.f k ([] : List Int)).bind fun bt190 => ((shape_Write.f k ([] : List (List (S53)))).bind fun bt194 => (if (strOfNums bt169.1).toList = ([1, 1, 3, 9, 0, 1, 1, 255, 255, 255, 254] : List UInt8) then (if bt169.2 = 0 then (if (bt173.1.length : Int) = 1 then (if 0 < (bt173.1.length : Int) then (if ((rd_L5 bt173.1 0).length : Int) = 1 then (if 0 < ((rd_L5 bt173.1 0).length : Int) then (if ((rd_T53 (rd_L5 bt173.1 0) 0).f1) = 9 then (if bt173.2 = 0 then (if bt186.2 = 2 then (if bt190.2 = 2 then (if (strOfNums bt194.1).toList = ([0] : List UInt8) then (if bt194.2 = 0 then ((shape_Size.f k y163).bind fun t201 => (if t201 = 10 then (some true) else (some false))) else (some false)) else (some false)) else (some false)) else (some false)) else (some false)) else (some false)) else (none)) else (some false)) else (none)) else (some false)) else (some false)) else (some false))))) else (none))) else (none)))))) = some r := rh_ hy160 H
 have Ny160 := ak hy160
 clear hy160
 obtain ⟨y163, hy163⟩ : ∃ y_ : List (S53), y_ = (([(⟨3, 9, 0, y160⟩ : S53)] : List (S53))) := ⟨_, rfl⟩
 replace H : ((shape_Write.f k (([y163] : List (List (S53))))).bind fun bt169 => ((shape_Read.f k bt169.1).bind fun bt173 => ((some (([] : List Int) : List Int)).bind fun y177 => (if y177.length + bt169.1.length < 140737488355328 then ((some (y177 ++ bt169.1 : List Int)).bind fun y180 => (if y180.length < 140737488355328 then ((shape_Read.f k (y180 ++ [0])).bind fun bt186 => ((shape_Read.f k ([] : List Int)).bind fun bt190 => ((shape_Write.f k ([] : List (List (S53)))).bind fun bt194 => (if (strOfNums bt169.1).toList = ([1, 1, 3, 9, 0, 1, 1, 255, 255, 255, 254] : List UInt8) then (if bt169.2 = 0 then (if (bt173.1.length : Int) = 1 then (if 0 < (bt173.1.length : Int) then (if ((rd_L5 bt173.1 0).length : Int) = 1 then (if 0 < ((rd_L5 bt173.1 0).length : Int) then (if ((rd_T53 (rd_L5 bt173.1 0) 0).f1) = 9 then (if bt173.2 = 0 then (if bt186.2 = 2 then (if bt190.2 = 2 then (if (strOfNums bt194.1).toList = ([0] : List UInt8) then (if bt194.2 = 0 then ((shape_Size.f k y163).bind fun t201 => (if t201 = 10 then (some true) else (some false))) else (some false)) else (some false)) else (some false)) else (some false)) else (some false)) else (some false)) else (none)) else (some false)) else (none)) else (some false)) else (some false)) else (some false))))) else (none))) else (none))))) = some r := rh_ hy163 H
 have Ny163 := ak hy163
 clear hy163
 obtain ⟨y166, hy166⟩ : ∃ y_ : List (List (S53)), y_ = (([y163] : List (List (S53)))) := ⟨_, rfl⟩
 replace H : ((shape_Write.f k y166).bind fun bt169 => ((shape_Read.f k bt169.1).bind fun bt173 => ((some (([] : List Int) : List Int)).bind fun y177 => (if y177.length + bt169.1.length < 140737488355328 then ((some (y177 ++ bt169.1 : List Int)).bind fun y180 => (if y180.length < 140737488355328 then ((shape_Read.f k (y180 ++ [0])).bind fun bt186 => ((shape_Read.f k ([] : List Int)).bind fun bt190 => ((shape_Write.f k ([] : List (List (S53)))).bind fun bt194 => (if (strOfNums bt169.1).toList = ([1, 1, 3, 9, 0, 1, 1, 255, 255, 255, 254] : List UInt8) then (if bt169.2 = 0 then (if (bt173.1.length : Int) = 1 then (if 0 < (bt173.1.length : Int) then (if ((rd_L5 bt173.1 0).length : Int) = 1 then (if 0 < ((rd_L5 bt173.1 0).length : Int) then (if ((rd_T53 (rd_L5 bt173.1 0) 0).f1) = 9 then (if bt173.2 = 0 then (if bt186.2 = 2 then (if bt190.2 = 2 then (if (strOfNums bt194.1).toList = ([0] : List UInt8) then (if bt194.2 = 0 then ((shape_Size.f k y163).bind fun t201 => (if t201 = 10 then (some true) else (some false))) else (some false)) else (some false)) else (some false)) else (some false)) else (some false)) else (some false)) else (none)) else (some false)) else (none)) else (some false)) else (some false)) else (some false))))) else (none))) else (none))))) = some r := rh_ hy166 H
 have Ny166 := ak hy166
 clear hy166
 replace H := Option.bind_eq_some_iff.mp H
 obtain ⟨⟨t169, t170⟩, A10, H⟩ := H
 have A1 := ak A10
 clear A10
 replace H := Option.bind_eq_some_iff.mp H
 obtain ⟨⟨t173, t174⟩, A20, H⟩ := H
 have A2 := ak A20
 clear A20
 obtain ⟨y177, hy177⟩ : ∃ y_ : List Int, y_ = (([] : List Int)) := ⟨_, rfl⟩
 replace H : (if y177.length + t169.length < 140737488355328 then ((some (y177 ++ t169 : List Int)).bind fun y180 => (if y180.length < 140737488355328 then ((shape_Read.f k (y180 ++ [0])).bind fun bt186 => ((shape_Read.f k ([] : List Int)).bind fun bt190 => ((shape_Write.f k ([] : List (List (S53)))).bind fun bt194 => (if (strOfNums t169).toList = ([1, 1, 3, 9, 0, 1, 1, 255, 255, 255, 254] : List UInt8) then (if t170 = 0 then (if (t173.length : Int) = 1 then (if 0 < (t173.length : Int) then (if ((rd_L5 t173 0).length : Int) = 1 then (if 0 < ((rd_L5 t173 0).length : Int) then (if ((rd_T53 (rd_L5 t173 0) 0).f1) = 9 then (if t174 = 0 then (if bt186.2 = 2 then (if bt190.2 = 2 then (if (strOfNums bt194.1).toList = ([0] : List UInt8) then (if bt194.2 = 0 then ((shape_Size.f k y163).bind fun t201 => (if t201 = 10 then (some true) else (some false))) else (some false)) else (some false)) else (some false)) else (some false)) else (some false)) else (some false)) else (none)) else (some false)) else (none)) else (some false)) else (some false)) else (some false))))) else (none))) else (none)) = some r := rh_ hy177 H
 have Ny177 := ak hy177
 clear hy177
 by_cases c3 : y177.length + t169.length < 140737488355328
 rotate_left
 · rw [if_neg c3] at H
   exact absurd H (by simp)
 rw [if_pos c3] at H
 have LMc3 := ak c3
 clear c3
 obtain ⟨y180, hy180⟩ : ∃ y_ : List Int, y_ = (y177 ++ t169) := ⟨_, rfl⟩
 replace H : (if y180.length < 140737488355328 then ((shape_Read.f k (y180 ++ [0])).bind fun bt186 => ((shape_Read.f k ([] : List Int)).bind fun bt190 => ((shape_Write.f k ([] : List (List (S53)))).bind fun bt194 => (if (strOfNums t169).toList = ([1, 1, 3, 9, 0, 1, 1, 255, 255, 255, 254] : List UInt8) then (if t170 = 0 then (if (t173.length : Int) = 1 then (if 0 < (t173.length : Int) then (if ((rd_L5 t173 0).length : Int) = 1 then (if 0 < ((rd_L5 t173 0).length : Int) then (if ((rd_T53 (rd_L5 t173 0) 0).f1) = 9 then (if t174 = 0 then (if bt186.2 = 2 then (if bt190.2 = 2 then (if (strOfNums bt194.1).toList = ([0] : List UInt8) then (if bt194.2 = 0 then ((shape_Size.f k y163).bind fun t201 => (if t201 = 10 then (some true) else (some false))) else (some false)) else (some false)) else (some false)) else (some false)) else (some false)) else (some false)) else (none)) else (some false)) else (none)) else (some false)) else (some false)) else (some false))))) else (none)) = some r := rh_ hy180 H
 have Ny180 := ak hy180
 clear hy180
 by_cases c4 : y180.length < 140737488355328
 rotate_left
 · rw [if_neg c4] at H
   exact absurd H (by simp)
 rw [if_pos c4] at H
 have LMc4 := ak c4
 clear c4
 obtain ⟨y183, hy183⟩ : ∃ y_ : List Int, y_ = (y180 ++ [0]) := ⟨_, rfl⟩
 replace H : ((shape_Read.f k y183).bind fun bt186 => ((shape_Read.f k ([] : List Int)).bind fun bt190 => ((shape_Write.f k ([] : List (List (S53)))).bind fun bt194 => (if (strOfNums t169).toList = ([1, 1, 3, 9, 0, 1, 1, 255, 255, 255, 254] : List UInt8) then (if t170 = 0 then (if (t173.length : Int) = 1 then (if 0 < (t173.length : Int) then (if ((rd_L5 t173 0).length : Int) = 1 then (if 0 < ((rd_L5 t173 0).length : Int) then (if ((rd_T53 (rd_L5 t173 0) 0).f1) = 9 then (if t174 = 0 then (if bt186.2 = 2 then (if bt190.2 = 2 then (if (strOfNums bt194.1).toList = ([0] : List UInt8) then (if bt194.2 = 0 then ((shape_Size.f k y163).bind fun t201 => (if t201 = 10 then (some true) else (some false))) else (some false)) else (some false)) else (some false)) else (some false)) else (some false)) else (some false)) else (none)) else (some false)) else (none)) else (some false)) else (some false)) else (some false))))) = some r := rh_ hy183 H
 have Ny183 := ak hy183
 clear hy183
 replace H := Option.bind_eq_some_iff.mp H
 obtain ⟨⟨t186, t187⟩, A50, H⟩ := H
 have A5 := ak A50
 clear A50
 replace H := Option.bind_eq_some_iff.mp H
 obtain ⟨⟨t190, t191⟩, A60, H⟩ := H
 have A6 := ak A60
 clear A60
 replace H := Option.bind_eq_some_iff.mp H
 obtain ⟨⟨t194, t195⟩, A70, H⟩ := H
 have A7 := ak A70
 clear A70
 by_cases c8 : (strOfNums t169).toList = ([1, 1, 3, 9, 0, 1, 1, 255, 255, 255, 254] : List UInt8)
 rotate_left
 · rw [if_neg c8] at H
   have c8b0 : ((strOfNums t169).toList == ([1, 1, 3, 9, 0, 1, 1, 255, 255, 255, 254] : List UInt8)) = false := beq_eq_false_iff_ne.mpr c8
   have c8b1 : ((strOfNums t169).toList != ([1, 1, 3, 9, 0, 1, 1, 255, 255, 255, 254] : List UInt8)) = true := bne_iff_ne.mpr c8
   exact absurd (Option.some.inj H) (by rw [HT.out]; decide)
 rw [if_pos c8] at H
 have c8b0 : ((strOfNums t169).toList == ([1, 1, 3, 9, 0, 1, 1, 255, 255, 255, 254] : List UInt8)) = true := beq_iff_eq.mpr c8
 have c8b1 : ((strOfNums t169).toList != ([1, 1, 3, 9, 0, 1, 1, 255, 255, 255, 254] : List UInt8)) = false := bne_eq_false_iff_eq.mpr c8
 clear c8
 by_cases c9 : t170 = 0
 rotate_left
 · rw [if_neg c9] at H
   have c9b0 : (t170 == 0) = false := beq_eq_false_iff_ne.mpr c9
   have c9b1 : (t170 != 0) = true := bne_iff_ne.mpr c9
   exact absurd (Option.some.inj H) (by rw [HT.out]; decide)
 rw [if_pos c9] at H
 have c9b0 : (t170 == 0) = true := beq_iff_eq.mpr c9
 have c9b1 : (t170 != 0) = false := bne_eq_false_iff_eq.mpr c9
 clear c9
 by_cases c10 : (t173.length : Int) = 1
 rotate_left
 · rw [if_neg c10] at H
   have c10b0 : ((t173.length : Int) == 1) = false := beq_eq_false_iff_ne.mpr c10
   have c10b1 : ((t173.length : Int) != 1) = true := bne_iff_ne.mpr c10
   exact absurd (Option.some.inj H) (by rw [HT.out]; decide)
 rw [if_pos c10] at H
 have c10b0 : ((t173.length : Int) == 1) = true := beq_iff_eq.mpr c10
 have c10b1 : ((t173.length : Int) != 1) = false := bne_eq_false_iff_eq.mpr c10
 clear c10
 by_cases c11 : 0 < (t173.length : Int)
 rotate_left
 · rw [if_neg c11] at H
   exact absurd H (by simp)
 rw [if_pos c11] at H
 have c11b0 : decide (0 < (t173.length : Int)) = true := decide_eq_true c11
 have c11b1 : decide (0 < t173.length) = true := decide_eq_true (by omega)
 clear c11
 by_cases c12 : ((rd_L5 t173 0).length : Int) = 1
 rotate_left
 · rw [if_neg c12] at H
   have c12b0 : (((rd_L5 t173 0).length : Int) == 1) = false := beq_eq_false_iff_ne.mpr c12
   have c12b1 : (((rd_L5 t173 0).length : Int) != 1) = true := bne_iff_ne.mpr c12
   exact absurd (Option.some.inj H) (by rw [HT.out]; decide)
 rw [if_pos c12] at H
 have c12b0 : (((rd_L5 t173 0).length : Int) == 1) = true := beq_iff_eq.mpr c12
 have c12b1 : (((rd_L5 t173 0).length : Int) != 1) = false := bne_eq_false_iff_eq.mpr c12
 clear c12
 by_cases c13 : 0 < ((rd_L5 t173 0).length : Int)
 rotate_left
 · rw [if_neg c13] at H
   exact absurd H (by simp)
 rw [if_pos c13] at H
 have c13b0 : decide (0 < ((rd_L5 t173 0).length : Int)) = true := decide_eq_true c13
 have c13b1 : decide (0 < (rd_L5 t173 0).length) = true := decide_eq_true (by omega)
 clear c13
 by_cases c14 : ((rd_T53 (rd_L5 t173 0) 0).f1) = 9
 rotate_left
 · rw [if_neg c14] at H
   have c14b0 : (((rd_T53 (rd_L5 t173 0) 0).f1) == 9) = false := beq_eq_false_iff_ne.mpr c14
   have c14b1 : (((rd_T53 (rd_L5 t173 0) 0).f1) != 9) = true := bne_iff_ne.mpr c14
   exact absurd (Option.some.inj H) (by rw [HT.out]; decide)
 rw [if_pos c14] at H
 have c14b0 : (((rd_T53 (rd_L5 t173 0) 0).f1) == 9) = true := beq_iff_eq.mpr c14
 have c14b1 : (((rd_T53 (rd_L5 t173 0) 0).f1) != 9) = false := bne_eq_false_iff_eq.mpr c14
 clear c14
 by_cases c15 : t174 = 0
 rotate_left
 · rw [if_neg c15] at H
   have c15b0 : (t174 == 0) = false := beq_eq_false_iff_ne.mpr c15
   have c15b1 : (t174 != 0) = true := bne_iff_ne.mpr c15
   exact absurd (Option.some.inj H) (by rw [HT.out]; decide)
 rw [if_pos c15] at H
 have c15b0 : (t174 == 0) = true := beq_iff_eq.mpr c15
 have c15b1 : (t174 != 0) = false := bne_eq_false_iff_eq.mpr c15
 clear c15
 by_cases c16 : t187 = 2
 rotate_left
 · rw [if_neg c16] at H
   have c16b0 : (t187 == 2) = false := beq_eq_false_iff_ne.mpr c16
   have c16b1 : (t187 != 2) = true := bne_iff_ne.mpr c16
   exact absurd (Option.some.inj H) (by rw [HT.out]; decide)
 rw [if_pos c16] at H
 have c16b0 : (t187 == 2) = true := beq_iff_eq.mpr c16
 have c16b1 : (t187 != 2) = false := bne_eq_false_iff_eq.mpr c16
 clear c16
 by_cases c17 : t191 = 2
 rotate_left
 · rw [if_neg c17] at H
   have c17b0 : (t191 == 2) = false := beq_eq_false_iff_ne.mpr c17
   have c17b1 : (t191 != 2) = true := bne_iff_ne.mpr c17
   exact absurd (Option.some.inj H) (by rw [HT.out]; decide)
 rw [if_pos c17] at H
 have c17b0 : (t191 == 2) = true := beq_iff_eq.mpr c17
 have c17b1 : (t191 != 2) = false := bne_eq_false_iff_eq.mpr c17
 clear c17
 by_cases c18 : (strOfNums t194).toList = ([0] : List UInt8)
 rotate_left
 · rw [if_neg c18] at H
   have c18b0 : ((strOfNums t194).toList == ([0] : List UInt8)) = false := beq_eq_false_iff_ne.mpr c18
   have c18b1 : ((strOfNums t194).toList != ([0] : List UInt8)) = true := bne_iff_ne.mpr c18
   exact absurd (Option.some.inj H) (by rw [HT.out]; decide)
 rw [if_pos c18] at H
 have c18b0 : ((strOfNums t194).toList == ([0] : List UInt8)) = true := beq_iff_eq.mpr c18
 have c18b1 : ((strOfNums t194).toList != ([0] : List UInt8)) = false := bne_eq_false_iff_eq.mpr c18
 clear c18
 by_cases c19 : t195 = 0
 rotate_left
 · rw [if_neg c19] at H
   have c19b0 : (t195 == 0) = false := beq_eq_false_iff_ne.mpr c19
   have c19b1 : (t195 != 0) = true := bne_iff_ne.mpr c19
   exact absurd (Option.some.inj H) (by rw [HT.out]; decide)
 rw [if_pos c19] at H
 have c19b0 : (t195 == 0) = true := beq_iff_eq.mpr c19
 have c19b1 : (t195 != 0) = false := bne_eq_false_iff_eq.mpr c19
 clear c19
 obtain ⟨t201, A20, H⟩ := bd_ H
 by_cases c21 : t201 = 10
 rotate_left
 · rw [if_neg c21] at H
   have c21b0 : (t201 == 10) = false := beq_eq_false_iff_ne.mpr c21
   have c21b1 : (t201 != 10) = true := bne_iff_ne.mpr c21
   exact absurd (Option.some.inj H) (by rw [HT.out]; decide)
 rw [if_pos c21] at H
 have c21b0 : (t201 == 10) = true := beq_iff_eq.mpr c21
 have c21b1 : (t201 != 10) = false := bne_eq_false_iff_eq.mpr c21
 clear c21
 obtain rfl := Option.some.inj H
 go_enter Try.func10, Try.ntmps10
 go_wp2_with (first | ((with_reducible refine gate_dst (N := 13) rfl ?_); (try (refine gate_guard (by rfl) ?_; dsimp only)); refine Kd.R_lit k50 _ 50 ?hg (N := 13) ?hd (xs := ([(⟨1, (-2)⟩ : S50)] : List (S50))) (inner := [.int .i64 1, .int .i64 (-2)]) (ok := fun _ => True) (okp := fun _ => True) ?hr ?hp (fun _ hk => hk) trivial (Below.refl _ _) (Nat.le_refl _) (by simp) ?_; (case hd => rfl); (case hg => rfl); (case hr => first | (go_simp; done) | (go_simp; rfl)); (case hp => exact (Reps.c2 (show Kd.M k50 _ _ _ (⟨1, (-2)⟩ : S50) [.int .i64 1, .int .i64 (-2)] from (k50_mkM _ _ _ (⟨1, (-2)⟩ : S50) )) (Reps.none _ _))); intro v161 w22 ho23 hb hg_ hnew_; clear hg_ hnew_; (first | rw [← Ny160.out] at ho23 | (simp only [Int.reduceToNat] at ho23; rw [← Ny160.out] at ho23)); replace HO162 := ak (Kd.R_lower ho23 bsz_); replace HB := ak (bst_ hb); clear hb ho23; obtain ⟨Ao24, co24, eo24⟩ := Kd.R_slice HO162.out; subst eo24) | ((with_reducible refine gate_dst (N := 15) rfl ?_); (try (refine gate_guard (by rfl) ?_; dsimp only)); refine Kd.N_lit k53 _ 53 ?hg (N' := 15) ?hd (xs := ([(⟨3, 9, 0, y160⟩ : S53)] : List (S53))) (inner := [.int .i64 3, .int .i64 9, .int .i64 0, .slice Ao24 y160.length co24]) (ok := (fun _ => True)) (okp := (fun _ => True)) ?hr ?hp (fun _ hk => hk) ((show ∀ k_, w22.heap.size ≤ k_ → (fun _ => True) k_ from fun k_ hk => trivial) _ (Nat.le_refl _)) (Below.refl _ _) (Nat.le_refl _) (by simp) ?_; (case hd => rfl); (case hg => rfl); (case hr => first | (go_simp; done) | (go_simp; rfl)); (case hp => exact (Reps.c4 (show Kd.FK k53 _ _ (⟨3, 9, 0, y160⟩ : S53) [.int .i64 3, .int .i64 9, .int .i64 0, .slice Ao24 y160.length co24] from (k53_mkF _ _ (⟨3, 9, 0, y160⟩ : S53) (Kd.R_reads' (Kd.R_mono (ok' := (fun _ => True)) (HO162.out) (fun k_ hk => trivial))).2.1 (Kd.R_F (Kd.R_mono (ok' := (fun _ => True)) (HO162.out) (fun k_ hk => trivial))))) (Reps.none _ _))); intro v164 w25 ho26 hb hg_ hnew_; clear hg_ hnew_; (first | rw [← Ny163.out] at ho26 | (simp only [Int.reduceToNat] at ho26; rw [← Ny163.out] at ho26)); replace HO165 := ak (Kd.N_lower ho26 bsz_); replace HB := ak (bst_ hb); clear HO162; clear hb ho26; obtain ⟨Ao27, co27, eo27⟩ := Kd.N_slice HO165.out; subst eo27) | ((with_reducible refine gate_dst (N := 18) rfl ?_); (try (refine gate_guard (by rfl) ?_; dsimp only)); refine Kd.N_lit (Kd.slice 53 k53) _ 33 ?hg (N' := 18) ?hd (xs := ([y163] : List (List (S53)))) (inner := [.slice Ao27 y163.length co27]) (ok := (fun _ => True)) (okp := (fun _ => True)) ?hr ?hp (fun _ hk => hk) ((show ∀ k_, w25.heap.size ≤ k_ → (fun _ => True) k_ from fun k_ hk => trivial) _ (Nat.le_refl _)) (Below.refl _ _) (Nat.le_refl _) (by simp) ?_; (case hd => rfl); (case hg => rfl); (case hr => first | (go_simp; done) | (go_simp; rfl)); (case hp => exact (Reps.one (show Kd.FK (Kd.slice 53 k53) _ _ y163 [.slice Ao27 y163.length co27] from (Kd.FK_slice_mk (Kd.N_reads' (Kd.N_mono (ok' := (fun _ => True)) (HO165.out) (fun k_ hk => trivial))).2.1 (Kd.N_F (Kd.N_mono (ok' := (fun _ => True)) (HO165.out) (fun k_ hk => trivial))))) (Reps.none _ _))); intro v167 w28 ho29 hb hg_ hnew_; clear hg_ hnew_; (first | rw [← Ny166.out] at ho29 | (simp only [Int.reduceToNat] at ho29; rw [← Ny166.out] at ho29)); replace HO168 := ak (Kd.N_lower ho29 bsz_); replace HO165 := nb_ HO165 hb; replace HO165 := ak (Kd.N_mono (Kd.N_bound HO165.out) (ok' := fun k => k < w28.heap.size) (fun k hk => hk.2)); have SZ := ak (Nat.le_refl w28.heap.size); replace HB := ak (bst_ hb); clear hb ho29; obtain ⟨Ao30, co30, eo30⟩ := Kd.N_slice HO168.out; subst eo30) | ((with_reducible refine gate_callee (f := 11) rfl ?_); refine goesL_ (some 19) rfl rfl Try.func11 (by kernel_rfl) rfl #[.slice Ao30 y166.length co30] rfl mp_ ?_; (with_reducible refine (shape_Write.calls k _ _ y166 t169 t170 _ ?side1 ?side2 A1.out).mono ?_); (case side1 => exact nc_ HO168); (case side2 => exact (Kd.N_reads' HO168.out).2.1); rintro e w31 ⟨v171, rfl, ho0, hb⟩; replace HO165 := nb_ HO165 hb; replace SZ := ak (Nat.le_trans SZ.out hb.size); refine ⟨_, rfl, ?_⟩; replace HO168 := ak (Kd.N_elder' (nq_ HO168) (Kd.R_base ho0) hb); replace HO172 := ak (Kd.R_lower ho0 bsz_); replace HB := ak (bst_ hb); (try clear hb); (try clear ho0); obtain ⟨Ao32, co32, eo32⟩ := Kd.R_slice HO172.out; subst eo32) | ((with_reducible refine gate_callee (f := 18) rfl ?_); refine goesL_ (some 24) rfl rfl Try.func18 (by kernel_rfl) rfl #[.slice Ao32 t169.length co32] rfl mp_ ?_; (with_reducible refine (shape_Read.calls k _ _ t169 t173 t174 _ ?side1 ?side2 A2.out).mono ?_); (case side1 => exact rc_ HO172); (case side2 => exact (Kd.R_reads' HO172.out).2.1); rintro e w33 ⟨v175, rfl, ho0, hb⟩; replace HO165 := nb_ HO165 hb; replace SZ := ak (Nat.le_trans SZ.out hb.size); refine ⟨_, rfl, ?_⟩; replace HO176 := ak (Kd.N_lower (Kd.N_mono (ok' := fun k_ => some k_ ≠ (.slice Ao30 y166.length co30 : Value).ownBlock ∧ some k_ ≠ (.slice Ao32 t169.length co32 : Value).ownBlock) (Kd.R_N (Kd.R_bound ho0)) (fun k_ hk_ => ⟨(Kd.fresh' (Kd.N_lt (nq_ HO168)) k_ hk_.2.1), (Kd.fresh' (Kd.R_lt (rq_ HO172)) k_ hk_.2.1)⟩)) bsz_); replace HO168 := ak (Kd.N_elder' (nq_ HO168) (Kd.R_base ho0) hb); replace HO172 := rb_ HO172 hb; replace HB := ak (bst_ hb); (try clear hb); (try clear ho0)) | ((with_reducible refine gate_dst (N := 28) rfl ?_); (try (refine gate_guard (by rfl) ?_; dsimp only)); refine Kd.R_lit (Kd.int .u8) _ 5 ?hg (N := 28) ?hd (xs := ([] : List Int)) (inner := []) (ok := fun _ => True) (okp := fun _ => True) ?hr ?hp (fun _ hk => hk) trivial (Below.refl _ _) (Nat.le_refl _) (by simp) ?_; (case hd => rfl); (case hg => rfl); (case hr => first | (go_simp; done) | (go_simp; rfl)); (case hp => exact (Reps.none _ _)); intro v178 w34 ho35 hb hg_ hnew_; have NB := ak (show ∀ k, k < w28.heap.size → some k ≠ (v178 : Value).ownBlock from fun k hk q => hnew_.elim (fun b hb' => by rw [hb'.1] at q; injection q with q; exact Nat.lt_irrefl _ (Nat.lt_of_lt_of_le hk (Nat.le_trans SZ.out (q ▸ hb'.2))))); replace HO165 := nb_ HO165 hb; replace SZ := ak (Nat.le_trans SZ.out hb.size); clear hg_ hnew_; (first | rw [← Ny177.out] at ho35 | (simp only [Int.reduceToNat] at ho35; rw [← Ny177.out] at ho35)); replace HO168 := ak (Kd.N_elder' (nq_ HO168) (Kd.R_base ho35) hb); replace HO176 := ak (Kd.N_elder' (nq_ HO176) (Kd.R_base ho35) hb); replace HO179 := ak (Kd.R_lower (Kd.R_new' ho35 (Kd.R_lt (rq_ HO172))) bsz_); replace HO172 := ak (Kd.R_elder' (rq_ HO172) (Kd.R_base ho35) hb); replace HB := ak (bst_ hb); clear hb ho35) | ((with_reducible refine gate_builtin (b := .append) (xs := #[.tmp 28, .tmp 29]) rfl ?_); (try (refine gate_guard (by rfl) ?_; dsimp only)); at_builtin; refine Kd.R_append_rows (Kd.int .u8) (w0 := w) w.heap.size rfl (.tmp 28) (.tmp 29) 25 5 (.int .u8 0) 1 rfl Try.underlying25 info5 rfl (by decide) (by omega) v178 y177 t169 _ _ _ (fun k_ => some k_ ≠ (.slice Ao32 t169.length co32 : Value).ownBlock) (fun _ => False) rfl rfl ?aO ?aR (fun _ _ h => h) (fun _ h => h.elim) ?aF ?aB ?aS ?aL ?_; (case aR => repeat (first | exact (Kd.R_reads' HO172.out).2.2 | with_reducible first | refine Kd.C_alloc ?_ _ | refine Kd.C_drewN ?_ _ | refine Kd.C_drew ?_)); (case aB => exact bsv_); (case aF => exact (fun k_ hk => Kd.fresh' (Kd.R_lt (rq_ HO172)) k_ hk)); (case aO => exact (Kd.R_mono (rq_ HO179) (fun _ hk => hk.2))); (case aS => exact bsz_); (case aL => have := LMc3.out; omega); intro v181 w36 ho hb hg hat; replace HO165 := ak (Kd.N_step (nq_ HO165) (fun k hk hl => hg.block k hl (NB.out k hk))); replace NB := ak (show ∀ k, k < w28.heap.size → some k ≠ (v181 : Value).ownBlock from fun k hk => hat.elim (fun e => by rw [e]; exact NB.out k hk) (fun ⟨b, e, hb'⟩ q => by rw [e] at q; injection q with q; exact Nat.lt_irrefl _ (Nat.lt_of_lt_of_le hk (Nat.le_trans SZ.out (q ▸ hb'))))); replace SZ := ak (Nat.le_trans SZ.out hg.size); rw [← Ny180.out] at ho; replace HO168 := ak (Kd.N_afterv (ok := (fun k_ => some k_ ≠ (.slice Ao32 t169.length co32 : Value).ownBlock ∧ some k_ ≠ (v175 : Value).ownBlock)) (Kd.N_mono (nq_ HO168) (fun _ hk => ⟨⟨hk.1.1.2, hk.1.2⟩, hk.2⟩)) hg hat); replace HO172 := ak (Kd.R_after (ok := (fun _ => True)) (rq_ HO172) hg hat); replace HO176 := ak (Kd.N_afterv (ok := (fun k_ => some k_ ≠ (.slice Ao30 y166.length co30 : Value).ownBlock ∧ some k_ ≠ (.slice Ao32 t169.length co32 : Value).ownBlock)) (nq_ HO176) hg hat); replace HB := ak (hb); replace HO182 := ak (ho); clear HO179; clear ho hb hg hat) | ((with_reducible refine gate_builtin (b := .append) (xs := #[.tmp 30, .tmp 31]) rfl ?_); (try (refine gate_guard (by rfl) ?_; dsimp only)); at_builtin; refine Kd.R_append (Kd.int .u8) (w0 := w) w.heap.size rfl (.tmp 30) (.tmp 31) 25 5 (.int .u8 0) 1 rfl Try.underlying25 info5 rfl (by decide) (by omega) v181 y180 0 [.int .u8 0] (fun k_ => some k_ ≠ (.slice Ao32 t169.length co32 : Value).ownBlock) (fun _ => False) rfl rfl ?aP (fun _ hk => hk.elim) ?aF ?aO ?aB ?aS ?aL ?_; (case aP => exact rfl); (case aB => exact bsv_); (case aF => exact (fun k_ hk => Kd.fresh' (Kd.R_lt (rq_ HO172)) k_ hk)); (case aO => exact (rq_ HO182)); (case aS => exact bsz_); (case aL => have := LMc4.out; omega); intro v184 w37 ho hb hg hat; replace HO165 := ak (Kd.N_step (nq_ HO165) (fun k hk hl => hg.block k hl (NB.out k hk))); replace NB := ak (show ∀ k, k < w28.heap.size → some k ≠ (v184 : Value).ownBlock from fun k hk => hat.elim (fun e => by rw [e]; exact NB.out k hk) (fun ⟨b, e, hb'⟩ q => by rw [e] at q; injection q with q; exact Nat.lt_irrefl _ (Nat.lt_of_lt_of_le hk (Nat.le_trans SZ.out (q ▸ hb'))))); replace SZ := ak (Nat.le_trans SZ.out hg.size); rw [← Ny183.out] at ho; replace HO168 := ak (Kd.N_afterv (ok := (fun k_ => some k_ ≠ (.slice Ao32 t169.length co32 : Value).ownBlock ∧ some k_ ≠ (v175 : Value).ownBlock)) (nq_ HO168) hg hat); replace HO172 := ak (Kd.R_after (ok := (fun _ => True)) (rq_ HO172) hg hat); replace HO176 := ak (Kd.N_afterv (ok := (fun k_ => some k_ ≠ (.slice Ao30 y166.length co30 : Value).ownBlock ∧ some k_ ≠ (.slice Ao32 t169.length co32 : Value).ownBlock)) (nq_ HO176) hg hat); replace HB := ak (hb); replace HO185 := ak (ho); clear HO182; clear ho hb hg hat; obtain ⟨Ao38, co38, eo38⟩ := Kd.R_slice HO185.out; subst eo38) | ((with_reducible refine gate_callee (f := 18) rfl ?_); refine goesL_ (some 33) rfl rfl Try.func18 (by kernel_rfl) rfl #[.slice Ao38 y183.length co38] rfl mp_ ?_; (with_reducible refine (shape_Read.calls k _ _ y183 t186 t187 _ ?side1 ?side2 A5.out).mono ?_); (case side1 => exact rc_ HO185); (case side2 => exact (Kd.R_reads' HO185.out).2.1); rintro e w39 ⟨v188, rfl, ho0, hb⟩; replace HO165 := nb_ HO165 hb; replace SZ := ak (Nat.le_trans SZ.out hb.size); refine ⟨_, rfl, ?_⟩; replace HO189 := ak (Kd.N_lower (Kd.N_mono (ok' := fun k_ => some k_ ≠ (.slice Ao30 y166.length co30 : Value).ownBlock ∧ some k_ ≠ (.slice Ao32 t169.length co32 : Value).ownBlock ∧ some k_ ≠ (v175 : Value).ownBlock ∧ some k_ ≠ (.slice Ao38 y183.length co38 : Value).ownBlock) (Kd.R_N (Kd.R_bound ho0)) (fun k_ hk_ => ⟨(Kd.fresh' (Kd.N_lt (nq_ HO168)) k_ hk_.2.1), (Kd.fresh' (Kd.R_lt (rq_ HO172)) k_ hk_.2.1), (Kd.fresh' (Kd.N_lt (nq_ HO176)) k_ hk_.2.1), (Kd.fresh' (Kd.R_lt (rq_ HO185)) k_ hk_.2.1)⟩)) bsz_); replace HO168 := ak (Kd.N_elder' (nq_ HO168) (Kd.R_base ho0) hb); replace HO172 := rb_ HO172 hb; replace HO176 := ak (Kd.N_elder' (nq_ HO176) (Kd.R_base ho0) hb); replace HO185 := rb_ HO185 hb; replace HB := ak (bst_ hb); (try clear hb); (try clear ho0)) | ((with_reducible refine gate_callee (f := 18) rfl ?_); refine goesL_ (some 37) rfl rfl Try.func18 (by kernel_rfl) rfl #[.slice none 0 0] rfl mp_ ?_; (refine (shape_Read.calls k _ _ ([] : List Int) t190 t191 _ ?side1 ?side2 A6.out).mono ?_); (case side1 => exact Kd.C_nil _ _); (case side2 => exact Nat.le_refl _); rintro e w40 ⟨v192, rfl, ho0, hb⟩; replace HO165 := nb_ HO165 hb; replace SZ := ak (Nat.le_trans SZ.out hb.size); refine ⟨_, rfl, ?_⟩; replace HO193 := ak (Kd.N_lower (Kd.N_mono (ok' := fun k_ => some k_ ≠ (.slice Ao30 y166.length co30 : Value).ownBlock ∧ some k_ ≠ (.slice Ao32 t169.length co32 : Value).ownBlock ∧ some k_ ≠ (v175 : Value).ownBlock ∧ some k_ ≠ (.slice Ao38 y183.length co38 : Value).ownBlock ∧ some k_ ≠ (v188 : Value).ownBlock) (Kd.R_N (Kd.R_bound ho0)) (fun k_ hk_ => ⟨(Kd.fresh' (Kd.N_lt (nq_ HO168)) k_ hk_.2.1), (Kd.fresh' (Kd.R_lt (rq_ HO172)) k_ hk_.2.1), (Kd.fresh' (Kd.N_lt (nq_ HO176)) k_ hk_.2.1), (Kd.fresh' (Kd.R_lt (rq_ HO185)) k_ hk_.2.1), (Kd.fresh' (Kd.N_lt (nq_ HO189)) k_ hk_.2.1)⟩)) bsz_); replace HO168 := ak (Kd.N_elder' (nq_ HO168) (Kd.R_base ho0) hb); replace HO172 := rb_ HO172 hb; replace HO176 := ak (Kd.N_elder' (nq_ HO176) (Kd.R_base ho0) hb); replace HO185 := rb_ HO185 hb; replace HO189 := ak (Kd.N_elder' (nq_ HO189) (Kd.R_base ho0) hb); replace HB := ak (bst_ hb); (try clear hb); (try clear ho0)) | ((with_reducible refine gate_callee (f := 11) rfl ?_); refine goesL_ (some 41) rfl rfl Try.func11 (by kernel_rfl) rfl #[.slice none 0 0] rfl mp_ ?_; (refine (shape_Write.calls k _ _ ([] : List (List (S53))) t194 t195 _ ?side1 ?side2 A7.out).mono ?_); (case side1 => exact Kd.C_nil _ _); (case side2 => exact Nat.le_refl _); rintro e w41 ⟨v196, rfl, ho0, hb⟩; replace HO165 := nb_ HO165 hb; replace SZ := ak (Nat.le_trans SZ.out hb.size); refine ⟨_, rfl, ?_⟩; replace HO168 := ak (Kd.N_elder' (nq_ HO168) (Kd.R_base ho0) hb); replace HO176 := ak (Kd.N_elder' (nq_ HO176) (Kd.R_base ho0) hb); replace HO189 := ak (Kd.N_elder' (nq_ HO189) (Kd.R_base ho0) hb); replace HO193 := ak (Kd.N_elder' (nq_ HO193) (Kd.R_base ho0) hb); replace HO197 := ak (Kd.R_lower (Kd.R_new' (Kd.R_new' ho0 (Kd.R_lt (rq_ HO172))) (Kd.R_lt (rq_ HO185))) bsz_); replace HO172 := ak (Kd.R_elder' (rq_ HO172) (Kd.R_base ho0) hb); replace HO185 := ak (Kd.R_elder' (rq_ HO185) (Kd.R_base ho0) hb); replace HB := ak (bst_ hb); (try clear hb); (try clear ho0); have hcv42 := own_string (P := Try.prog) Try.underlying25 Try.underlying5 Try.underlying9 (Kd.own_of_R HO172.out); obtain ⟨Ao43, co43, eo43⟩ := Kd.N_slice HO176.out; subst eo43; have p198 : 0 ≤ (0 : Int) := (by omega); have q198 : 0 < (t173.length : Int) := oda_; obtain ⟨ad198, A198_0, c198_0, e198, hx198_0, hl198_0, hi198_0⟩ := at_L5 (Kd.N_reads' HO176.out).2.2 0 p198 q198; cases e198; obtain ⟨ce198, hce198, hMe198, hcc198⟩ := Kd.N_get HO176.out [] 0 p198 (by first | exact q198 | exact oda_ | (have e_ := (Kd.N_reads' HO176.out).1; omega)); obtain ⟨ua198_0, uc198_0, rfl, ul198_0, ge198_0⟩ := Kd.FK_slice_open hMe198; have hv198_0 := hcc198 0 _ rfl; rw [Nat.add_zero, show ((Kd.slice 53 k53)).sz = 1 from rfl, Nat.mul_one] at hv198_0; replace hv198_0 := Option.some.inj (hv198_0.symm.trans hx198_0); injection hv198_0 with hva_ hvn_ hvc_; rw [hva_] at ge198_0; rw [hvc_] at ul198_0; have HL198_0 := ak (show Kd.V k53 53 _ w.heap.size _ _ (rd_L5 t173 0) from Kd.V_mk ul198_0 ge198_0); clear hva_ hvn_ hvc_ ge198_0 ul198_0; clear hcc198 hce198; have qi198 : (0 < t173.length) = True := eq_true (by omega); (try rw [show ((0 : Int)).toNat = 0 from rfl] at hx198_0); (try rw [Addr.add_zero'] at hx198_0); have HR198_0 := ak hi198_0; have HC198_0 := ak hl198_0; clear hi198_0 hl198_0; replace p198 := eq_true p198; replace q198 := eq_true q198; have p199 : 0 ≤ (0 : Int) := (by omega); have q199 : 0 < (t173.length : Int) := oda_; obtain ⟨ad199, A199_0, c199_0, e199, hx199_0, hl199_0, hi199_0⟩ := at_L5 (Kd.N_reads' HO176.out).2.2 0 p199 q199; obtain rfl : ad198 = ad199 := (by injection e199); obtain ⟨ce199, hce199, hMe199, hcc199⟩ := Kd.N_get HO176.out [] 0 p199 (by first | exact q199 | exact oda_ | (have e_ := (Kd.N_reads' HO176.out).1; omega)); obtain ⟨ua199_0, uc199_0, rfl, ul199_0, ge199_0⟩ := Kd.FK_slice_open hMe199; have hv199_0 := hcc199 0 _ rfl; rw [Nat.add_zero, show ((Kd.slice 53 k53)).sz = 1 from rfl, Nat.mul_one] at hv199_0; replace hv199_0 := Option.some.inj (hv199_0.symm.trans hx199_0); injection hv199_0 with hva_ hvn_ hvc_; rw [hva_] at ge199_0; rw [hvc_] at ul199_0; have HL199_0 := ak (show Kd.V k53 53 _ w.heap.size _ _ (rd_L5 t173 0) from Kd.V_mk ul199_0 ge199_0); clear hva_ hvn_ hvc_ ge199_0 ul199_0; clear hcc199 hce199; have qi199 : (0 < t173.length) = True := eq_true (by omega); (try rw [show ((0 : Int)).toNat = 0 from rfl] at hx199_0); (try rw [Addr.add_zero'] at hx199_0); have HR199_0 := ak hi199_0; have HC199_0 := ak hl199_0; clear hi199_0 hl199_0; replace p199 := eq_true p199; replace q199 := eq_true q199; have ea_ := Option.some.inj (hx198_0.symm.trans hx199_0); injection ea_ with ea_ en_ ec_; subst ea_; subst ec_; clear en_; have p200 : 0 ≤ (0 : Int) := (by omega); have q200 : 0 < ((rd_L5 t173 0).length : Int) := oda_; obtain ⟨ad200, A200_3, c200_3, e200, hx200_0, hx200_1, hx200_2, hx200_3, hl200_3, hi200_3⟩ := at_T53 (by repeat (first | (with_reducible exact HR199_0.out) | (with_reducible refine Kd.C_alloc ?_ _) | (with_reducible refine Kd.C_drewN ?_ _) | (with_reducible refine Kd.C_drew ?_) | exact HR199_0.out)) 0 p200 q200; cases e200; obtain ⟨ce200, hce200, hMe200, hcc200⟩ := Kd.V_get HL199_0.out z53 0 p200 (by first | exact q200 | exact oda_ | (have e_ := (Kd.V_reads' HL199_0.out).1; omega)); obtain ⟨ua200_3, uc200_3, rfl, ul200_3, ge200_3⟩ := k53_openF hMe200; have hv200_3 := hcc200 3 _ rfl; rw [add_field _ _ 3 (by omega)] at hv200_3; replace hv200_3 := Option.some.inj (hv200_3.symm.trans hx200_3); injection hv200_3 with hva_ hvn_ hvc_; rw [hva_] at ge200_3; rw [hvc_] at ul200_3; have HL200_3 := ak (show Kd.V k50 50 _ w.heap.size _ _ ((rd_T53 (rd_L5 t173 0) 0).f3) from Kd.V_mk ul200_3 ge200_3); clear hva_ hvn_ hvc_ ge200_3 ul200_3; clear hcc200 hce200; have qi200 : (0 < (rd_L5 t173 0).length) = True := eq_true (by omega); (try rw [show ((0 : Int)).toNat = 0 from rfl] at hx200_0); (try rw [show 0 * 4 = 0 from rfl] at hx200_0); (try rw [Addr.add_zero'] at hx200_0); (try rw [show ((0 : Int)).toNat = 0 from rfl] at hx200_1); (try rw [show 0 * 4 = 0 from rfl] at hx200_1); (try rw [Addr.add_zero'] at hx200_1); (try rw [show ((0 : Int)).toNat = 0 from rfl] at hx200_2); (try rw [show 0 * 4 = 0 from rfl] at hx200_2); (try rw [Addr.add_zero'] at hx200_2); (try rw [show ((0 : Int)).toNat = 0 from rfl] at hx200_3); (try rw [show 0 * 4 = 0 from rfl] at hx200_3); (try rw [Addr.add_zero'] at hx200_3); have HR200_3 := ak hi200_3; have HC200_3 := ak hl200_3; clear hi200_3 hl200_3; replace p200 := eq_true p200; replace q200 := eq_true q200; have hcv44 := own_string (P := Try.prog) Try.underlying25 Try.underlying5 Try.underlying9 (Kd.own_of_R HO197.out)) | (go_at_call 17; (with_reducible refine (shape_Size.calls k _ _ y163 t201 _ ?side1 ?side2 A20.out).mono ?_); (case side1 => exact nc_ HO165); (case side2 => exact (Kd.N_reads' HO165.out).2.1); rintro e w45 ⟨rfl, hb⟩; replace HO168 := nb_ HO168 hb; replace HO172 := rb_ HO172 hb; replace HO176 := nb_ HO176 hb; replace HO185 := rb_ HO185 hb; replace HO189 := nb_ HO189 hb; replace HO193 := nb_ HO193 hb; replace HO197 := rb_ HO197 hb; replace HL198_0 := vb_ HL198_0 hb; replace HL199_0 := vb_ HL199_0 hb; replace HL200_3 := vb_ HL200_3 hb; replace HR198_0 := ak (Kd.V_reads' HL198_0.out).2.2; replace HR199_0 := ak (Kd.V_reads' HL199_0.out).2.2; replace HR200_3 := ak (Kd.V_reads' HL200_3.out).2.2; replace HB := ak (bst_ hb); (try clear hb)))
 go_ret
 exact ⟨by first | rfl | (simp [errW_none, errW_some] <;> rfl) | (simp [*, errW_none, errW_some] <;> rfl), bsv_⟩

theorem handshakerlaw09_awake.only (k : Nat) (r : Bool) (h : handshakerlaw09_awake.f k = some r) : r = true := by
 have h1 : handshakerlaw09_awake.f 60 = some true := by decide +kernel
 have h2 := at_rounds (g := handshakerlaw09_awake.f) handshakerlaw09_awake.mono (Nat.le_max_left k 60) h
 have h3 := at_rounds (g := handshakerlaw09_awake.f) handshakerlaw09_awake.mono (Nat.le_max_right k 60) h1
 rw [h2] at h3
 exact Option.some.inj h3
theorem handshakerlaw09_awake.calls (k : Nat) (r : Bool) (w : World) (h : handshakerlaw09_awake.f k = some r) :
 Calls Try.prog 10 #[] w fun e w' => e = .returned (.bool r) ∧ Below w.heap.size w w' :=
 handshakerlaw09_awake.callsT k r w ⟨handshakerlaw09_awake.only k r h⟩ h

/-! ### handshakerlaw08_Small: function 22 -/
def handshakerlaw08_Small.l0 : Nat → List (S53) → List (S53) → Int → Int → Option (Int)
 | 0, _, _, _, _ => none
 | k + 1, x0, x5, x6, x7 => if x7 < x6 then (if 0 ≤ x7 then (if x7 < (x5.length : Int) then (if (((rd_T53 x5 x7).f3).length : Int) > 20 then (some (-1)) else (handshakerlaw08_Small.l0 k x0 x5 x6 (wrap64 (x7 + 1)))) else (none)) else (none)) else (if (x0.length : Int) > 40 then (some (-1)) else (some (x0.length : Int)))
def handshakerlaw08_Small.f (k : Nat) (l0 : List (S53)) : Option (Int) := handshakerlaw08_Small.l0 k l0 l0 (l0.length : Int) 0
theorem handshakerlaw08_Small.mono_l : ∀ k, (∀ y0 y1 y2 y3, LeO (handshakerlaw08_Small.l0 k y0 y1 y2 y3) (handshakerlaw08_Small.l0 (k + 1) y0 y1 y2 y3))
 | 0 => fun _ _ _ _ r h => by simp [handshakerlaw08_Small.l0] at h
 | k + 1 => by
  have ih0 := handshakerlaw08_Small.mono_l k
  · intro y0 y1 y2 y3
    unfold handshakerlaw08_Small.l0
    repeat' first
    | (with_reducible exact ih0 _ _ _ _)
    | (with_reducible exact LeO.refl _)
    | (with_reducible exact LeO.none _)
    | (with_reducible refine LeO.ite ?_ ?_)
    | (with_reducible refine LeO.bind ?_ (fun _ => ?_))
    | exact ih0 _ _ _ _
    | exact LeO.none _
    | refine LeO.ite ?_ ?_
    | refine LeO.bind ?_ (fun _ => ?_)
theorem handshakerlaw08_Small.mono : ∀ a0 k, LeO (handshakerlaw08_Small.f k a0) (handshakerlaw08_Small.f (k + 1) a0) := by
 intro a0 k
 have ih0 := handshakerlaw08_Small.mono_l k
 unfold handshakerlaw08_Small.f
 repeat' first
  | (with_reducible exact ih0 _ _ _ _)
  | (with_reducible exact LeO.refl _)
  | (with_reducible exact LeO.none _)
  | (with_reducible refine LeO.ite ?_ ?_)
  | (with_reducible refine LeO.bind ?_ (fun _ => ?_))
  | exact ih0 _ _ _ _
  | exact LeO.none _
  | refine LeO.ite ?_ ?_
  | refine LeO.bind ?_ (fun _ => ?_)
set_option maxHeartbeats 8000000 in
set_option maxRecDepth 100000 in
theorem handshakerlaw08_Small.calls (k : Nat) (A0 : Option Addr) (c0 : Nat) (l0 : List (S53)) (r : Int) (w : World) (hr0 : Kd.C k53 w A0 l0.length l0) (hc0 : l0.length ≤ c0) (h : handshakerlaw08_Small.f k l0 = some r) :
 Calls Try.prog 22 #[.slice A0 l0.length c0] w fun e w' => e = .returned (.int .i64 r) ∧ Below w.heap.size w w' := by
 have hu53 := Try.underlying53
 have HR0 := ak hr0
 have HC0 := ak hc0
 clear hr0 hc0
 have HB := ak (Below.refl w.heap.size w)
 have H : (handshakerlaw08_Small.l0 k l0 l0 (l0.length : Int) 0) = some r := h
 clear h
 have H' := ak H
 clear H
 go_enter Try.func22, Try.ntmps22
 go_wp2
 go_loopg [7] k (fun kq v7 w' => ∃ (x7_1 : Int), v7 = .int .i64 x7_1 ∧ Aside0 (handshakerlaw08_Small.l0 kq l0 l0 (l0.length : Int) x7_1 = some r) ∧ Aside0 (kq ≤ k) ∧ Aside0 (Below w.heap.size w w'))
 case atStart => exact ⟨(0), (by first | rfl | (simp; done) | (simp [*]; done)), H', ⟨Nat.le_refl _⟩, ⟨bsv_⟩⟩
 case round =>
  clear H'
  obtain ⟨x7_1, rfl, HA, HK1, HB⟩ := hrel
  cases gk with
  | zero => exact absurd HA.out (by simp [handshakerlaw08_Small.l0])
  | succ k1 =>
   have H := HA.out
   clear HA
   simp only [handshakerlaw08_Small.l0] at H
   by_cases c2 : x7_1 < (l0.length : Int)
   rotate_left
   · rw [if_neg c2] at H
     have c2b0 : decide (x7_1 < (l0.length : Int)) = false := decide_eq_false c2
     clear c2
     by_cases c10 : (l0.length : Int) > 40
     rotate_left
     · rw [if_neg c10] at H
       have c10b0 : decide (40 < (l0.length : Int)) = false := decide_eq_false c10
       have c10b1 : decide (40 < l0.length) = false := decide_eq_false (by omega)
       clear c10
       obtain rfl := Option.some.inj H
       go_wp2
       go_ret
       exact ⟨by first | rfl | (simp [errW_none, errW_some] <;> rfl) | (simp [*, errW_none, errW_some] <;> rfl), bsv_⟩
     rw [if_pos c10] at H
     have c10b0 : decide (40 < (l0.length : Int)) = true := decide_eq_true c10
     have c10b1 : decide (40 < l0.length) = true := decide_eq_true (by omega)
     clear c10
     obtain rfl := Option.some.inj H
     go_wp2
     go_ret
     exact ⟨by first | rfl | (simp [errW_none, errW_some] <;> rfl) | (simp [*, errW_none, errW_some] <;> rfl), bsv_⟩
   rw [if_pos c2] at H
   have c2b0 : decide (x7_1 < (l0.length : Int)) = true := decide_eq_true c2
   clear c2
   by_cases c3 : 0 ≤ x7_1
   rotate_left
   · rw [if_neg c3] at H
     exact absurd H (by simp)
   rw [if_pos c3] at H
   have c3b0 : decide (0 ≤ x7_1) = true := decide_eq_true c3
   clear c3
   by_cases c4 : x7_1 < (l0.length : Int)
   rotate_left
   · rw [if_neg c4] at H
     exact absurd H (by simp)
   rw [if_pos c4] at H
   have c4b0 : decide (x7_1 < (l0.length : Int)) = true := decide_eq_true c4
   clear c4
   by_cases c5 : (((rd_T53 l0 x7_1).f3).length : Int) > 20
   · rw [if_pos c5] at H
     have c5b0 : decide (20 < (((rd_T53 l0 x7_1).f3).length : Int)) = true := decide_eq_true c5
     have c5b1 : decide (20 < ((rd_T53 l0 x7_1).f3).length) = true := decide_eq_true (by omega)
     clear c5
     obtain rfl := Option.some.inj H
     have p202 : 0 ≤ (x7_1 : Int) := oda_
     have q202 : x7_1 < (l0.length : Int) := oda_
     obtain ⟨ad202, A202_3, c202_3, e202, hx202_0, hx202_1, hx202_2, hx202_3, hl202_3, hi202_3⟩ := at_T53 HR0.out x7_1 p202 q202
     cases e202
     replace hx202_0 := bl_ HB hx202_0
     replace hx202_1 := bl_ HB hx202_1
     replace hx202_2 := bl_ HB hx202_2
     replace hx202_3 := bl_ HB hx202_3
     have HR202_3 := ak hi202_3
     have HC202_3 := ak hl202_3
     clear hi202_3 hl202_3
     replace p202 := eq_true p202
     replace q202 := eq_true q202
     go_wp2_with (first | ((with_reducible refine gate_dst (N := 4) rfl ?_); refine box_event ?hg (N := 4) ?hd (cs := #[.int .i64 0, .int .i64 0, .int .i64 0, .slice none 0 0]) (t := 53) ?hr ?_; (case hd => rfl); (case hg => rfl); (case hr => first | (go_simp; done) | (go_simp; rfl)); intro gb203 hg w6 hbox hb; replace BK203 := ak (hbox); replace GW203 := ak ((by rw [hg]; exact bsz_ : w.heap.size ≤ gb203)); replace HB := ak (bst_ hb); replace GE203 := GW203; clear hb hbox hg; obtain ⟨hcz7_0, hcz7_1, hcz7_2, hcz7_3, hfz7_0, hfz7_1, hfz7_2, hfz7_3⟩ := bz4_ BK203))
     go_ret
     exact ⟨by first | rfl | (simp [errW_none, errW_some] <;> rfl) | (simp [*, errW_none, errW_some] <;> rfl), bsw_⟩
   rw [if_neg c5] at H
   have c5b0 : decide (20 < (((rd_T53 l0 x7_1).f3).length : Int)) = false := decide_eq_false c5
   have c5b1 : decide (20 < ((rd_T53 l0 x7_1).f3).length) = false := decide_eq_false (by omega)
   clear c5
   have H' := ak H
   clear H
   have p202 : 0 ≤ (x7_1 : Int) := oda_
   have q202 : x7_1 < (l0.length : Int) := oda_
   obtain ⟨ad202, A202_3, c202_3, e202, hx202_0, hx202_1, hx202_2, hx202_3, hl202_3, hi202_3⟩ := at_T53 HR0.out x7_1 p202 q202
   cases e202
   replace hx202_0 := bl_ HB hx202_0
   replace hx202_1 := bl_ HB hx202_1
   replace hx202_2 := bl_ HB hx202_2
   replace hx202_3 := bl_ HB hx202_3
   have HR202_3 := ak hi202_3
   have HC202_3 := ak hl202_3
   clear hi202_3 hl202_3
   replace p202 := eq_true p202
   replace q202 := eq_true q202
   go_wp2_with (first | ((with_reducible refine gate_dst (N := 4) rfl ?_); refine box_event ?hg (N := 4) ?hd (cs := #[.int .i64 0, .int .i64 0, .int .i64 0, .slice none 0 0]) (t := 53) ?hr ?_; (case hd => rfl); (case hg => rfl); (case hr => first | (go_simp; done) | (go_simp; rfl)); intro gb203 hg w8 hbox hb; replace BK203 := ak (hbox); replace GW203 := ak ((by rw [hg]; exact bsz_ : w.heap.size ≤ gb203)); replace HB := ak (bst_ hb); replace GE203 := GW203; clear hb hbox hg; obtain ⟨hcz9_0, hcz9_1, hcz9_2, hcz9_3, hfz9_0, hfz9_1, hfz9_2, hfz9_3⟩ := bz4_ BK203))
   go_roundg k1
   case measure => have := HK1.out; omega
   case rel => exact ⟨(wrap64 (x7_1 + 1)), (by first | rfl | (simp; done) | (simp [*]; done)), H', ⟨by have := HK1.out; omega⟩, ⟨bsw_⟩⟩

/-! ### wfS50 -/
def wfS50 (x : S50) : Prop := (Lit.int .i64 x.f0).wf = true ∧ (Lit.int .i64 x.f1).wf = true

/-! ### wfS53 -/
def wfS53 (x : S53) : Prop := (Lit.int .i64 x.f0).wf = true ∧ (Lit.int .i64 x.f1).wf = true ∧ (Lit.int .i64 x.f2).wf = true ∧ (x.f3.length ≤ maxLen ∧ ∀ y ∈ x.f3, wfS50 y)

end Go.Proofs.Ytpeblomhhofhkaa.H
