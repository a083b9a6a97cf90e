-- PRINTED by print.py (a twelfth state) out of the translation. Not trusted: Lean checks it.
import Derived.Test.YtlfmobnmohnjmaaRx0
import Derived.Test.YtlfmobnmohnjmaaRx3
import Derived.Test.YtlfmobnmohnjmaaRx4
import Derived.Test.YtlfmobnmohnjmaaRx5
import Derived.Test.YtlfmobnmohnjmaaRx8
namespace Go.Proofs.Ytlfmobnmohnjmaa.R
open Go.Proofs.Ytlfmobnmohnjmaa.Ho
open Go.RowKit Go.Proofs.YtlfmobnmohnjmaaW.PrintWords Go.Proofs.YtlfmobnmohnjmaaW.PrintLast Go.Proofs.YtlfmobnmohnjmaaW.PrintMore
attribute [local go_sem] max2_int min2_int max_two min_two max_three min_three max_four min_four   -- for this text's walks alone
set_option linter.unusedVariables false
set_option linter.unusedSimpArgs false

/-! ### handshakerlaw05_ReadsFills: function 5 -/
mutual
def handshakerlaw05_ReadsFills.l0 : Nat → Int → Int → Int → List (S24) → Int → Option (Bool)
 | 0, _, _, _, _, _ => none
 | k + 1, x0, x1, x2, x7, x16 => if x16 < 24 then ((reads_Add.f k x7 (wrap64 ((wrap64 (x0)) + (wrap64 (7 * x16)))) (wrap64 ((wrap64 (x1)) + x16)) (wrap64 (x2))).bind fun bt305 => (if bt305.2 = 0 then (if (bt305.1.length : Int) = (wrap64 (x16 + 1)) then (handshakerlaw05_ReadsFills.l0 k x0 x1 x2 bt305.1 (wrap64 (x16 + 1))) else (some false)) else (some false))) else (handshakerlaw05_ReadsFills.l1 k x0 x1 x2 x7 0)
def handshakerlaw05_ReadsFills.l1 : Nat → Int → Int → Int → List (S24) → Int → Option (Bool)
 | 0, _, _, _, _, _ => none
 | k + 1, x0, x1, x2, x7, x47 => if x47 < 24 then ((reads_Find.f k x7 (wrap64 ((wrap64 (x0)) + (wrap64 (7 * x47))))).bind fun bt309 => (if bt309.2.2.2 = true then (if bt309.2.1 = (wrap64 ((wrap64 (x1)) + x47)) then (if bt309.2.2.1 = (wrap64 (x2)) then (handshakerlaw05_ReadsFills.l1 k x0 x1 x2 x7 (wrap64 (x47 + 1))) else (some false)) else (some false)) else (some false))) else ((reads_Add.f k x7 (wrap64 ((wrap64 (x0)) + 1)) 0 0).bind fun bt314 => (if bt314.2 = 5 then ((handshakerref05_Same.f k bt314.1 x7).bind fun t318 => (if t318 = true then ((reads_Cells.f k x7).bind fun t319 => (if (t319.length : Int) = 24 then ((handshakerlaw05_awake.f k).bind fun t322 => (some t322)) else (some false))) else (some false))) else (some false)))
end
def handshakerlaw05_ReadsFills.f (k : Nat) (a0 : Int) (a1 : Int) (a2 : Int) : Option (Bool) := handshakerlaw05_ReadsFills.l0 k a0 a1 a2 ([] : List (S24)) 0
theorem handshakerlaw05_ReadsFills.mono_l : ∀ k, (∀ y0 y1 y2 y3 y4, LeO (handshakerlaw05_ReadsFills.l0 k y0 y1 y2 y3 y4) (handshakerlaw05_ReadsFills.l0 (k + 1) y0 y1 y2 y3 y4)) ∧ (∀ y0 y1 y2 y3 y4, LeO (handshakerlaw05_ReadsFills.l1 k y0 y1 y2 y3 y4) (handshakerlaw05_ReadsFills.l1 (k + 1) y0 y1 y2 y3 y4))
 | 0 => ⟨fun _ _ _ _ _ r h => by simp [handshakerlaw05_ReadsFills.l0] at h, fun _ _ _ _ _ r h => by simp [handshakerlaw05_ReadsFills.l1] at h⟩
 | k + 1 => by
  obtain ⟨ih0, ih1⟩ := handshakerlaw05_ReadsFills.mono_l k
  refine ⟨?_, ?_⟩
  · intro y0 y1 y2 y3 y4
    unfold handshakerlaw05_ReadsFills.l0
    repeat' first
    | (with_reducible exact ih0 _ _ _ _ _)
    | (with_reducible exact ih1 _ _ _ _ _)
    | (with_reducible exact handshakerlaw05_awake.mono _)
    | (with_reducible exact handshakerref05_Same.mono _ _ _)
    | (with_reducible exact reads_Add.mono _ _ _ _ _)
    | (with_reducible exact reads_Cells.mono _ _)
    | (with_reducible exact reads_Find.mono _ _ _)
    | (with_reducible exact LeO.refl _)
    | (with_reducible exact LeO.none _)
    | (with_reducible refine LeO.ite ?_ ?_)
    | (with_reducible refine LeO.bind ?_ (fun _ => ?_))
    | exact ih0 _ _ _ _ _
    | exact ih1 _ _ _ _ _
    | exact handshakerlaw05_awake.mono _
    | exact handshakerref05_Same.mono _ _ _
    | exact reads_Add.mono _ _ _ _ _
    | exact reads_Cells.mono _ _
    | exact reads_Find.mono _ _ _
    | exact LeO.none _
    | refine LeO.ite ?_ ?_
    | refine LeO.bind ?_ (fun _ => ?_)
  · intro y0 y1 y2 y3 y4
    unfold handshakerlaw05_ReadsFills.l1
    repeat' first
    | (with_reducible exact ih0 _ _ _ _ _)
    | (with_reducible exact ih1 _ _ _ _ _)
    | (with_reducible exact handshakerlaw05_awake.mono _)
    | (with_reducible exact handshakerref05_Same.mono _ _ _)
    | (with_reducible exact reads_Add.mono _ _ _ _ _)
    | (with_reducible exact reads_Cells.mono _ _)
    | (with_reducible exact reads_Find.mono _ _ _)
    | (with_reducible exact LeO.refl _)
    | (with_reducible exact LeO.none _)
    | (with_reducible refine LeO.ite ?_ ?_)
    | (with_reducible refine LeO.bind ?_ (fun _ => ?_))
    | exact ih0 _ _ _ _ _
    | exact ih1 _ _ _ _ _
    | exact handshakerlaw05_awake.mono _
    | exact handshakerref05_Same.mono _ _ _
    | exact reads_Add.mono _ _ _ _ _
    | exact reads_Cells.mono _ _
    | exact reads_Find.mono _ _ _
    | exact LeO.none _
    | refine LeO.ite ?_ ?_
    | refine LeO.bind ?_ (fun _ => ?_)
theorem handshakerlaw05_ReadsFills.mono : ∀ a0 a1 a2 k, LeO (handshakerlaw05_ReadsFills.f k a0 a1 a2) (handshakerlaw05_ReadsFills.f (k + 1) a0 a1 a2) := by
 intro a0 a1 a2 k
 obtain ⟨ih0, ih1⟩ := handshakerlaw05_ReadsFills.mono_l k
 unfold handshakerlaw05_ReadsFills.f
 repeat' first
  | (with_reducible exact ih0 _ _ _ _ _)
  | (with_reducible exact ih1 _ _ _ _ _)
  | (with_reducible exact handshakerlaw05_awake.mono _)
  | (with_reducible exact handshakerref05_Same.mono _ _ _)
  | (with_reducible exact reads_Add.mono _ _ _ _ _)
  | (with_reducible exact reads_Cells.mono _ _)
  | (with_reducible exact reads_Find.mono _ _ _)
  | (with_reducible exact LeO.refl _)
  | (with_reducible exact LeO.none _)
  | (with_reducible refine LeO.ite ?_ ?_)
  | (with_reducible refine LeO.bind ?_ (fun _ => ?_))
  | exact ih0 _ _ _ _ _
  | exact ih1 _ _ _ _ _
  | exact handshakerlaw05_awake.mono _
  | exact handshakerref05_Same.mono _ _ _
  | exact reads_Add.mono _ _ _ _ _
  | exact reads_Cells.mono _ _
  | exact reads_Find.mono _ _ _
  | exact LeO.none _
  | refine LeO.ite ?_ ?_
  | refine LeO.bind ?_ (fun _ => ?_)
set_option maxHeartbeats 8000000 in
set_option maxRecDepth 100000 in
theorem handshakerlaw05_ReadsFills.calls (k : Nat) (a0 : Int) (a1 : Int) (a2 : Int) (r : Bool) (w : World) (HT : Aside0 (r = true)) (h : handshakerlaw05_ReadsFills.f k a0 a1 a2 = some r) :
 Calls Try.prog 5 #[.int .u16 a0, .int .u16 a1, .int .i16 a2] w fun e w' => e = .returned (.bool r) ∧ Below w.heap.size w w' := by
 have hu24 := Try.underlying24
 have HB := Aside0.mk (Below.refl w.heap.size w)
 have H : (handshakerlaw05_ReadsFills.l0 k a0 a1 a2 ([] : List (S24)) 0) = some r := h
 clear h
 have H' := Aside0.mk H
 clear H
 go_enter Try.func5, Try.ntmps5
 go_wp2
 go_loopg [7, 16] k (fun kq v7 v16 w' => ∃ (x7_1 : List (S24)) (x16_1 : Int), v16 = .int .i64 x16_1 ∧ Aside0 (handshakerlaw05_ReadsFills.l0 kq a0 a1 a2 x7_1 x16_1 = some r) ∧ Aside0 (kq ≤ k) ∧ Aside0 (Kd.V k24 24 w' w.heap.size (fun _ => True) v7 x7_1) ∧ Aside0 (Below w.heap.size w w'))
 case atStart => exact ⟨(([] : List (S24))), (0), (by first | rfl | (simp; done) | (simp [*]; done)), H', ⟨Nat.le_refl _⟩, ⟨Kd.V_nil _ _ _ _ _⟩, ⟨by repeat (with_reducible first | exact HB.out | apply below_alloc | apply pw_below_drewN | apply below_drew1)⟩⟩
 case round =>
  clear H'
  try clear p2
  obtain ⟨x7_1, x16_1, rfl, HA, HK1, HO_7, HB⟩ := hrel
  cases gk with
  | zero => exact absurd HA.out (by simp [handshakerlaw05_ReadsFills.l0])
  | succ k1 =>
   have H := HA.out
   clear HA
   simp only [handshakerlaw05_ReadsFills.l0] at H
   by_cases c4 : x16_1 < 24
   · rw [if_pos c4] at H
     have c4b0 : decide (x16_1 < 24) = true := decide_eq_true c4
     clear c4
     replace H := Option.bind_eq_some_iff.mp H
     obtain ⟨⟨t305, t308⟩, A50, H⟩ := H
     replace H : (if t308 = 0 then (if (t305.length : Int) = (wrap64 (x16_1 + 1)) then (handshakerlaw05_ReadsFills.l0 k1 a0 a1 a2 t305 (wrap64 (x16_1 + 1))) else (some false)) else (some false)) = some r := H
     have A5 := Aside0.mk A50
     clear A50
     by_cases c6 : t308 = 0
     · rw [if_pos c6] at H
       have c6b0 : (t308 == 0) = true := beq_iff_eq.mpr c6
       have c6b1 : (t308 != 0) = false := bne_eq_false_iff_eq.mpr c6
       clear c6
       by_cases c7 : (t305.length : Int) = (wrap64 (x16_1 + 1))
       · rw [if_pos c7] at H
         have c7b0 : ((t305.length : Int) == (wrap64 (x16_1 + 1))) = true := beq_iff_eq.mpr c7
         have c7b1 : ((t305.length : Int) != (wrap64 (x16_1 + 1))) = false := bne_eq_false_iff_eq.mpr c7
         clear c7
         have H' := Aside0.mk H
         clear H
         obtain ⟨Ao8, co8, eo8⟩ := Kd.V_slice HO_7.out
         subst eo8
         go_wp2_with (first | ((with_reducible refine gate_callee (f := 16) rfl ?_); refine goesL_ (some 33) rfl rfl Try.func16 (by kernel_rfl) rfl #[.slice Ao8 x7_1.length co8, .agg #[.int .i64 (wrap64 ((wrap64 (a0)) + (wrap64 (7 * x16_1)))), .int .i64 (wrap64 ((wrap64 (a1)) + x16_1)), .int .i64 (wrap64 (a2))]] rfl (by (try simp only [List.map_toArray, List.map_cons, List.map_nil]); first | done | rfl) ?_; (with_reducible refine (reads_Add.calls k1 (fun k_ => True) _ _ x7_1 (wrap64 ((wrap64 (a0)) + (wrap64 (7 * x16_1)))) (wrap64 ((wrap64 (a1)) + x16_1)) (wrap64 (a2)) t305 t308 _ ?side1 A5.out).mono ?_); (case side1 => exact HO_7.out); rintro e w9 ⟨v306, rfl, ho0, hb⟩; refine ⟨_, rfl, ?_⟩; have n0_ := Aside0.mk (Kd.V_below (by (with_reducible repeat (first | apply Kd.V_alloc | apply Kd.V_drewN | apply Kd.V_drew)); exact HO_7.out) hb); have n1_ := Aside0.mk (Kd.V_lower (Kd.V_mono (ok' := fun k_ => True) ho0 (fun k_ hk_ => trivial)) bsz_); have n2_ := Aside0.mk (bst_ hb); clear HO_7; clear HB; have HO_7 := n0_; have HO307 := n1_; have HB := n2_; clear n0_ n1_ n2_; (try clear hb); (try clear hb2); (try clear hk); (try clear hi); (try clear ho0); obtain ⟨Ao10, co10, eo10⟩ := Kd.V_slice HO307.out; subst eo10))
         go_roundg k1
         case measure => have := HK1.out; omega
         case rel => exact ⟨(t305), (wrap64 (x16_1 + 1)), (by first | rfl | (simp; done) | (simp [*]; done)), H', ⟨by have := HK1.out; omega⟩, ⟨by (with_reducible repeat (first | apply Kd.V_alloc | apply Kd.V_drewN | apply Kd.V_drew)); exact HO307.out⟩, ⟨by repeat (with_reducible first | exact HB.out | apply below_alloc | apply pw_below_drewN | apply below_drew1)⟩⟩
       · rw [if_neg c7] at H
         have c7b0 : ((t305.length : Int) == (wrap64 (x16_1 + 1))) = false := beq_eq_false_iff_ne.mpr c7
         have c7b1 : ((t305.length : Int) != (wrap64 (x16_1 + 1))) = true := bne_iff_ne.mpr c7
         exact absurd (Option.some.inj H) (by rw [HT.out]; decide)
     · rw [if_neg c6] at H
       have c6b0 : (t308 == 0) = false := beq_eq_false_iff_ne.mpr c6
       have c6b1 : (t308 != 0) = true := bne_iff_ne.mpr c6
       exact absurd (Option.some.inj H) (by rw [HT.out]; decide)
   · rw [if_neg c4] at H
     have c4b0 : decide (x16_1 < 24) = false := decide_eq_false c4
     clear c4
     have H' := Aside0.mk H
     clear H
     go_wp2
     go_loopg [47] k1 (fun kq v47 w' => ∃ (x47_2 : Int), v47 = .int .i64 x47_2 ∧ Aside0 (handshakerlaw05_ReadsFills.l1 kq a0 a1 a2 x7_1 x47_2 = some r) ∧ Aside0 (kq ≤ k1) ∧ Aside0 (Kd.V k24 24 w' w.heap.size (fun _ => True) u7 x7_1) ∧ Aside0 (Below w.heap.size w w'))
     case atStart => exact ⟨(0), (by first | rfl | (simp; done) | (simp [*]; done)), H', ⟨Nat.le_refl _⟩, ⟨by (with_reducible repeat (first | apply Kd.V_alloc | apply Kd.V_drewN | apply Kd.V_drew)); exact HO_7.out⟩, ⟨by repeat (with_reducible first | exact HB.out | apply below_alloc | apply pw_below_drewN | apply below_drew1)⟩⟩
     case round =>
      clear H'
      try clear c1
      try clear p2
      try clear c4
      try clear c4b0
      try clear c5
      try clear c6
      try clear c6b0
      try clear c6b1
      try clear p6
      try clear c7
      try clear c7b0
      try clear c7b1
      try clear p2
      obtain ⟨x47_2, rfl, HA, HK2, HO_7, HB⟩ := hrel
      cases gk with
      | zero => exact absurd HA.out (by simp [handshakerlaw05_ReadsFills.l1])
      | succ k2 =>
       have H := HA.out
       clear HA
       simp only [handshakerlaw05_ReadsFills.l1] at H
       by_cases c11 : x47_2 < 24
       · rw [if_pos c11] at H
         have c11b0 : decide (x47_2 < 24) = true := decide_eq_true c11
         clear c11
         replace H := Option.bind_eq_some_iff.mp H
         obtain ⟨⟨t309, t310, t311, t312⟩, A120, H⟩ := H
         replace H : (if t312 = true then (if t310 = (wrap64 ((wrap64 (a1)) + x47_2)) then (if t311 = (wrap64 (a2)) then (handshakerlaw05_ReadsFills.l1 k2 a0 a1 a2 x7_1 (wrap64 (x47_2 + 1))) else (some false)) else (some false)) else (some false)) = some r := H
         have A12 := Aside0.mk A120
         clear A120
         by_cases c13 : t312 = true
         · subst c13
           have H1 : (if t310 = (wrap64 ((wrap64 (a1)) + x47_2)) then (if t311 = (wrap64 (a2)) then (handshakerlaw05_ReadsFills.l1 k2 a0 a1 a2 x7_1 (wrap64 (x47_2 + 1))) else (some false)) else (some false)) = some r := by rw [if_pos rfl] at H; exact H
           clear H
           have H := H1
           clear H1
           by_cases c14 : t310 = (wrap64 ((wrap64 (a1)) + x47_2))
           · rw [if_pos c14] at H
             have c14b0 : (t310 == (wrap64 ((wrap64 (a1)) + x47_2))) = true := beq_iff_eq.mpr c14
             have c14b1 : (t310 != (wrap64 ((wrap64 (a1)) + x47_2))) = false := bne_eq_false_iff_eq.mpr c14
             clear c14
             by_cases c15 : t311 = (wrap64 (a2))
             · rw [if_pos c15] at H
               have c15b0 : (t311 == (wrap64 (a2))) = true := beq_iff_eq.mpr c15
               have c15b1 : (t311 != (wrap64 (a2))) = false := bne_eq_false_iff_eq.mpr c15
               clear c15
               have H' := Aside0.mk H
               clear H
               obtain ⟨Ao16, co16, eo16⟩ := Kd.V_slice HO_7.out
               subst eo16
               go_wp2_with (first | ((with_reducible refine gate_callee (f := 18) rfl ?_); refine goesL_ (some 57) rfl rfl Try.func18 (by kernel_rfl) rfl #[.slice Ao16 x7_1.length co16, .int .i64 (wrap64 ((wrap64 (a0)) + (wrap64 (7 * x47_2))))] rfl (by (try simp only [List.map_toArray, List.map_cons, List.map_nil]); first | done | rfl) ?_; (with_reducible refine (reads_Find.calls k2 _ _ x7_1 (wrap64 ((wrap64 (a0)) + (wrap64 (7 * x47_2)))) t309 t310 t311 true _ ?side1 ?side2 A12.out).mono ?_); (case side1 => repeat (first | exact (Kd.V_reads' HO_7.out).2.2 | with_reducible first | refine Kd.C_alloc ?_ _ | refine Kd.C_drewN ?_ _ | refine Kd.C_drew ?_)); (case side2 => exact (Kd.V_reads' HO_7.out).2.1); rintro e w17 ⟨rfl, hb⟩; refine ⟨_, rfl, ?_⟩; have n0_ := Aside0.mk (Kd.V_below (by (with_reducible repeat (first | apply Kd.V_alloc | apply Kd.V_drewN | apply Kd.V_drew)); exact HO_7.out) hb); have n1_ := Aside0.mk (bst_ hb); clear HO_7; clear HB; have HO_7 := n0_; have HB := n1_; clear n0_ n1_; (try clear hb); (try clear hb2); (try clear hk); (try clear hi)) | ((with_reducible refine gate_dst (N := 12) rfl ?_); (try (refine gate_guard (by rfl) ?_; dsimp only)); refine box_event ?hg (N := 12) ?hd (cs := #[.int .i64 0, .int .i64 0, .int .i64 0]) (t := 24) ?hr ?_; (case hd => rfl); (case hg => rfl); (case hr => first | (go_simp; done) | (go_simp; rfl)); intro gb313 hg w18 hbox hb; have n0_ := Aside0.mk (Kd.V_below (Kd.V_elderB (by (with_reducible repeat (first | apply Kd.V_alloc | apply Kd.V_drewN | apply Kd.V_drew)); exact HO_7.out) gb313 (Nat.le_of_eq hg.symm)) hb); have n1_ := Aside0.mk (bst_ hb); have n2_ := Aside0.mk (hbox); have n3_ := Aside0.mk ((by rw [hg]; exact bsz_ : w.heap.size ≤ gb313)); have n4_ := n3_; clear HO_7; clear HB; have HO_7 := n0_; have HB := n1_; have BK313 := n2_; have GW313 := n3_; have GE313 := n4_; clear n0_ n1_ n2_ n3_ n4_; clear hb hbox hg; have hcz19_0 : w18.cell? ⟨gb313, 0, none⟩ = some (.int .i64 0) := (blk_cell BK313.out 0).trans rfl; have hcz19_1 : w18.cell? ⟨gb313, 1, none⟩ = some (.int .i64 0) := (blk_cell BK313.out 1).trans rfl; have hcz19_2 : w18.cell? ⟨gb313, 2, none⟩ = some (.int .i64 0) := (blk_cell BK313.out 2).trans rfl; have hfz19_0 := blk_frozen BK313.out 0; have hfz19_1 := blk_frozen BK313.out 1; have hfz19_2 := blk_frozen BK313.out 2))
               go_roundg k2
               case measure => have := HK1.out; have := HK2.out; omega
               case rel => exact ⟨(wrap64 (x47_2 + 1)), (by first | rfl | (simp; done) | (simp [*]; done)), H', ⟨by have := HK1.out; have := HK2.out; omega⟩, ⟨by (with_reducible repeat (first | apply Kd.V_alloc | apply Kd.V_drewN | apply Kd.V_drew)); exact Kd.V_mono (Kd.V_far (p := ⟨gb313, 2, none⟩) (Kd.V_far (p := ⟨gb313, 1, none⟩) (Kd.V_far (p := ⟨gb313, 0, none⟩) (Kd.V_mono HO_7.out (fun k_ hk => (⟨hk, hk.2⟩ : _ ∧ k_ ≠ gb313))) (fun _ hk => hk.2) (.int .i64 t309)) (fun _ hk => hk.2) (.int .i64 t310)) (fun _ hk => hk.2) (.int .i64 t311)) (fun _ hk => trivial)⟩, ⟨by repeat (with_reducible first | exact HB.out | apply below_alloc | apply pw_below_drewN | apply below_drew1 | refine below_set ?_ GE313.out)⟩⟩
             · rw [if_neg c15] at H
               have c15b0 : (t311 == (wrap64 (a2))) = false := beq_eq_false_iff_ne.mpr c15
               have c15b1 : (t311 != (wrap64 (a2))) = true := bne_iff_ne.mpr c15
               exact absurd (Option.some.inj H) (by rw [HT.out]; decide)
           · rw [if_neg c14] at H
             have c14b0 : (t310 == (wrap64 ((wrap64 (a1)) + x47_2))) = false := beq_eq_false_iff_ne.mpr c14
             have c14b1 : (t310 != (wrap64 ((wrap64 (a1)) + x47_2))) = true := bne_iff_ne.mpr c14
             exact absurd (Option.some.inj H) (by rw [HT.out]; decide)
         · replace c13 := Bool.eq_false_iff.mpr c13
           subst c13
           have H1 : (some false) = some r := by rw [if_neg (show ¬ (false = true) by decide)] at H; exact H
           clear H
           have H := H1
           clear H1
           exact absurd (Option.some.inj H) (by rw [HT.out]; decide)
       · rw [if_neg c11] at H
         have c11b0 : decide (x47_2 < 24) = false := decide_eq_false c11
         clear c11
         replace H := Option.bind_eq_some_iff.mp H
         obtain ⟨⟨t314, t317⟩, A200, H⟩ := H
         replace H : (if t317 = 5 then ((handshakerref05_Same.f k2 t314 x7_1).bind fun t318 => (if t318 = true then ((reads_Cells.f k2 x7_1).bind fun t319 => (if (t319.length : Int) = 24 then ((handshakerlaw05_awake.f k2).bind fun t322 => (some t322)) else (some false))) else (some false))) else (some false)) = some r := H
         have A20 := Aside0.mk A200
         clear A200
         by_cases c21 : t317 = 5
         · rw [if_pos c21] at H
           have c21b0 : (t317 == 5) = true := beq_iff_eq.mpr c21
           have c21b1 : (t317 != 5) = false := bne_eq_false_iff_eq.mpr c21
           clear c21
           replace H := Option.bind_eq_some_iff.mp H
           obtain ⟨t318, A220, H⟩ := H
           replace H : (if t318 = true then ((reads_Cells.f k2 x7_1).bind fun t319 => (if (t319.length : Int) = 24 then ((handshakerlaw05_awake.f k2).bind fun t322 => (some t322)) else (some false))) else (some false)) = some r := H
           have A22 := Aside0.mk A220
           clear A220
           by_cases c23 : t318 = true
           · subst c23
             have H1 : ((reads_Cells.f k2 x7_1).bind fun t319 => (if (t319.length : Int) = 24 then ((handshakerlaw05_awake.f k2).bind fun t322 => (some t322)) else (some false))) = some r := by rw [if_pos rfl] at H; exact H
             clear H
             have H := H1
             clear H1
             replace H := Option.bind_eq_some_iff.mp H
             obtain ⟨t319, A240, H⟩ := H
             replace H : (if (t319.length : Int) = 24 then ((handshakerlaw05_awake.f k2).bind fun t322 => (some t322)) else (some false)) = some r := H
             have A24 := Aside0.mk A240
             clear A240
             by_cases c25 : (t319.length : Int) = 24
             · rw [if_pos c25] at H
               have c25b0 : ((t319.length : Int) == 24) = true := beq_iff_eq.mpr c25
               have c25b1 : ((t319.length : Int) != 24) = false := bne_eq_false_iff_eq.mpr c25
               clear c25
               replace H := Option.bind_eq_some_iff.mp H
               obtain ⟨t322, A260, H⟩ := H
               replace H : (some t322) = some r := H
               have A26 := Aside0.mk A260
               clear A260
               obtain rfl := Option.some.inj H
               obtain ⟨Ao27, co27, eo27⟩ := Kd.V_slice HO_7.out
               subst eo27
               go_wp2_with (first | ((with_reducible refine gate_callee (f := 16) rfl ?_); refine goesL_ (some 85) rfl rfl Try.func16 (by kernel_rfl) rfl #[.slice Ao27 x7_1.length co27, .agg #[.int .i64 (wrap64 ((wrap64 (a0)) + 1)), .int .i64 0, .int .i64 0]] rfl (by (try simp only [List.map_toArray, List.map_cons, List.map_nil]); first | done | rfl) ?_; (with_reducible refine (reads_Add.calls k2 (fun k_ => True) _ _ x7_1 (wrap64 ((wrap64 (a0)) + 1)) 0 0 t314 t317 _ ?side1 A20.out).mono ?_); (case side1 => exact HO_7.out); rintro e w28 ⟨v315, rfl, ho0, hb⟩; refine ⟨_, rfl, ?_⟩; have n0_ := Aside0.mk (Kd.V_below (by (with_reducible repeat (first | apply Kd.V_alloc | apply Kd.V_drewN | apply Kd.V_drew)); exact HO_7.out) hb); have n1_ := Aside0.mk (Kd.V_lower (Kd.V_mono (ok' := fun k_ => True) ho0 (fun k_ hk_ => trivial)) bsz_); have n2_ := Aside0.mk (bst_ hb); clear HO_7; clear HB; have HO_7 := n0_; have HO316 := n1_; have HB := n2_; clear n0_ n1_ n2_; (try clear hb); (try clear hb2); (try clear hk); (try clear hi); (try clear ho0); obtain ⟨Ao29, co29, eo29⟩ := Kd.V_slice HO316.out; subst eo29) | (go_at_call 23; (with_reducible refine (handshakerref05_Same.calls k2 _ _ t314 _ _ x7_1 true _ ?side1 ?side2 ?side3 ?side4 A22.out).mono ?_); (case side1 => repeat (first | exact (Kd.V_reads' HO316.out).2.2 | with_reducible first | refine Kd.C_alloc ?_ _ | refine Kd.C_drewN ?_ _ | refine Kd.C_drew ?_)); (case side2 => exact (Kd.V_reads' HO316.out).2.1); (case side3 => repeat (first | exact (Kd.V_reads' HO_7.out).2.2 | with_reducible first | refine Kd.C_alloc ?_ _ | refine Kd.C_drewN ?_ _ | refine Kd.C_drew ?_)); (case side4 => exact (Kd.V_reads' HO_7.out).2.1); rintro e w' ⟨rfl, ⟨nd, rfl⟩⟩) | (go_at_call 25; (with_reducible refine (reads_Cells.calls k2 _ _ x7_1 t319 _ ?side1 ?side2 A24.out).mono ?_); (case side1 => repeat (first | exact (Kd.V_reads' HO_7.out).2.2 | with_reducible first | refine Kd.C_alloc ?_ _ | refine Kd.C_drewN ?_ _ | refine Kd.C_drew ?_)); (case side2 => exact (Kd.V_reads' HO_7.out).2.1); rintro e w30 ⟨v320, rfl, ho0, hb⟩; have n0_ := Aside0.mk (Kd.V_elder' (by (with_reducible repeat (first | apply Kd.V_alloc | apply Kd.V_drewN | apply Kd.V_drew)); exact HO_7.out) (Kd.R_base ho0) hb); have n1_ := Aside0.mk (Kd.V_elder' (by (with_reducible repeat (first | apply Kd.V_alloc | apply Kd.V_drewN | apply Kd.V_drew)); exact HO316.out) (Kd.R_base ho0) hb); have n2_ := Aside0.mk (Kd.R_lower ho0 bsz_); have n3_ := Aside0.mk (bst_ hb); clear HO_7; clear HO316; clear HB; have HO_7 := n0_; have HO316 := n1_; have HO321 := n2_; have HB := n3_; clear n0_ n1_ n2_ n3_; (try clear hb); (try clear hb2); (try clear hk); (try clear hi); (try clear ho0); obtain ⟨Ao31, co31, eo31⟩ := Kd.R_slice HO321.out; subst eo31) | (go_at_call 15; (with_reducible refine (handshakerlaw05_awake.calls k2  t322 _ A26.out).mono ?_); rintro e w32 ⟨rfl, hb⟩; have n0_ := Aside0.mk (Kd.V_below (by (with_reducible repeat (first | apply Kd.V_alloc | apply Kd.V_drewN | apply Kd.V_drew)); exact HO_7.out) hb); have n1_ := Aside0.mk (Kd.V_below (by (with_reducible repeat (first | apply Kd.V_alloc | apply Kd.V_drewN | apply Kd.V_drew)); exact HO316.out) hb); have n2_ := Aside0.mk (Kd.R_below (by (with_reducible repeat (first | apply Kd.R_alloc | apply Kd.R_drewN | apply Kd.R_drew)); exact HO321.out) hb); have n3_ := Aside0.mk (bst_ hb); clear HO_7; clear HO316; clear HO321; clear HB; have HO_7 := n0_; have HO316 := n1_; have HO321 := n2_; have HB := n3_; clear n0_ n1_ n2_ n3_; (try clear hb); (try clear hb2); (try clear hk); (try clear hi)))
               go_ret
               exact ⟨by first | rfl | (simp [errW_none, errW_some] <;> rfl) | (simp [*, errW_none, errW_some] <;> rfl), by repeat (with_reducible first | exact HB.out | apply below_alloc | apply pw_below_drewN | apply below_drew1)⟩
             · rw [if_neg c25] at H
               have c25b0 : ((t319.length : Int) == 24) = false := beq_eq_false_iff_ne.mpr c25
               have c25b1 : ((t319.length : Int) != 24) = true := bne_iff_ne.mpr c25
               exact absurd (Option.some.inj H) (by rw [HT.out]; decide)
           · replace c23 := Bool.eq_false_iff.mpr c23
             subst c23
             have H1 : (some false) = some r := by rw [if_neg (show ¬ (false = true) by decide)] at H; exact H
             clear H
             have H := H1
             clear H1
             exact absurd (Option.some.inj H) (by rw [HT.out]; decide)
         · rw [if_neg c21] at H
           have c21b0 : (t317 == 5) = false := beq_eq_false_iff_ne.mpr c21
           have c21b1 : (t317 != 5) = true := bne_iff_ne.mpr c21
           exact absurd (Option.some.inj H) (by rw [HT.out]; decide)

/-- THE ONE PURE STATEMENT of handshakerlaw05_ReadsFills. -/
def handshakerlaw05_ReadsFills.Pure : Prop := ∀ (a0 : Int) (a1 : Int) (a2 : Int), (Lit.int .u16 a0).wf = true → (Lit.int .u16 a1).wf = true → (Lit.int .i16 a2).wf = true → ∃ k, handshakerlaw05_ReadsFills.f k a0 a1 a2 = some true

end Go.Proofs.Ytlfmobnmohnjmaa.R
