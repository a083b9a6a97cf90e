-- PRINTED by print.py (a twelfth state) out of the translation. Not trusted: Lean checks it.
import Derived.Test.YtjnkpocfmpbpoaaSex0
import Derived.Test.YtjnkpocfmpbpoaaSex4
import Derived.Test.YtjnkpocfmpbpoaaSex5
import Derived.Test.YtjnkpocfmpbpoaaSex6
namespace Go.Proofs.Ytjnkpocfmpbpoaa.Se
open Go.Proofs.Ytjnkpocfmpbpoaa.Ho
open Go.RowKit Go.Proofs.YtjnkpocfmpbpoaaW.PrintWords Go.Proofs.YtjnkpocfmpbpoaaW.PrintLast Go.Proofs.YtjnkpocfmpbpoaaW.PrintMore
attribute [local go_sem] max2_int min2_int max_two min_two max_three min_three max_four min_four   -- for this text's walks alone
set_option linter.unusedVariables false
set_option linter.unusedSimpArgs false

/-! ### sleep_Add: function 17 -/
def sleep_Add.j0 : Nat → List (S26) → Bool → Int → Int → Int → List (S62) → List (S80) → Option ((List (S26)) × Int)
 | 0, _, _, _, _, _, _, _ => none
 | k + 1, x0, x15, x170000, x170001, x170002, x170003, x170004 => if x15 = true then (some (x0, 1)) else ((sleep_place.f k x0 x170000).bind fun bt172 => (if bt172.2 = true then (some (x0, 9)) else ((slices_Clone.f x0).bind fun t174 => ((some (([(⟨x170000, x170001, x170002, x170003, x170004⟩ : S26)] : List (S26)) : List (S26))).bind fun y177 => (if 0 ≤ bt172.1 then (if bt172.1 ≤ (t174.length : Int) then (if t174.length + y177.length < 1954687338268 then (some ((t174.take (bt172.1 : Int).toNat ++ y177 ++ t174.drop (bt172.1 : Int).toNat), 0)) else (none)) else (none)) else (none))))))
def sleep_Add.f (k : Nat) (l0 : List (S26)) (a1_0 : Int) (a1_1 : Int) (a1_2 : Int) (l1_3 : List (S62)) (l1_4 : List (S80)) : Option ((List (S26)) × Int) := (sleep_Right.f k l0).bind fun t170 => (if t170 = true then ((sleep_Sleeper_may.f k a1_0 a1_1 a1_2 l1_3 l1_4).bind fun t171 => (sleep_Add.j0 k l0 (!t171) a1_0 a1_1 a1_2 l1_3 l1_4)) else (sleep_Add.j0 k l0 true a1_0 a1_1 a1_2 l1_3 l1_4))
theorem sleep_Add.mono_l : ∀ k, (∀ y0 y1 y2 y3 y4 y5 y6, LeO (sleep_Add.j0 k y0 y1 y2 y3 y4 y5 y6) (sleep_Add.j0 (k + 1) y0 y1 y2 y3 y4 y5 y6))
 | 0 => fun _ _ _ _ _ _ _ r h => by simp [sleep_Add.j0] at h
 | k + 1 => by
  have ih0 := sleep_Add.mono_l k
  · intro y0 y1 y2 y3 y4 y5 y6
    unfold sleep_Add.j0
    repeat' first
    | (with_reducible exact ih0 _ _ _ _ _ _ _)
    | (with_reducible exact sleep_Right.mono _ _)
    | (with_reducible exact sleep_Sleeper_may.mono _ _ _ _ _ _)
    | (with_reducible exact sleep_place.mono _ _ _)
    | (with_reducible exact LeO.refl _)
    | (with_reducible exact LeO.none _)
    | (with_reducible refine LeO.ite ?_ ?_)
    | (with_reducible refine LeO.bind ?_ (fun _ => ?_))
    | exact ih0 _ _ _ _ _ _ _
    | exact sleep_Right.mono _ _
    | exact sleep_Sleeper_may.mono _ _ _ _ _ _
    | exact sleep_place.mono _ _ _
    | exact LeO.none _
    | refine LeO.ite ?_ ?_
    | refine LeO.bind ?_ (fun _ => ?_)
theorem sleep_Add.mono : ∀ a0 a1 a2 a3 a4 a5 k, LeO (sleep_Add.f k a0 a1 a2 a3 a4 a5) (sleep_Add.f (k + 1) a0 a1 a2 a3 a4 a5) := by
 intro a0 a1 a2 a3 a4 a5 k
 have ih0 := sleep_Add.mono_l k
 unfold sleep_Add.f
 repeat' first
  | (with_reducible exact ih0 _ _ _ _ _ _ _)
  | (with_reducible exact sleep_Right.mono _ _)
  | (with_reducible exact sleep_Sleeper_may.mono _ _ _ _ _ _)
  | (with_reducible exact sleep_place.mono _ _ _)
  | (with_reducible exact LeO.refl _)
  | (with_reducible exact LeO.none _)
  | (with_reducible refine LeO.ite ?_ ?_)
  | (with_reducible refine LeO.bind ?_ (fun _ => ?_))
  | exact ih0 _ _ _ _ _ _ _
  | exact sleep_Right.mono _ _
  | exact sleep_Sleeper_may.mono _ _ _ _ _ _
  | exact sleep_place.mono _ _ _
  | exact LeO.none _
  | refine LeO.ite ?_ ?_
  | refine LeO.bind ?_ (fun _ => ?_)
def sleep_Add.T6 : Bool × List (List Nat × List Nat) := (true, [([], []), ([0], [0]), ([], []), ([], []), ([3], [3]), ([1, 2, 4, 1], [1, 2, 4]), ([5, 5, 0, 1, 2, 3, 4, 5], [5]), ([6, 0, 1, 2, 3, 4, 5, 6], [])])
def sleep_Add.B6 : List Nat := [0, 1, 0, 0, 8, 31, 63, 127]
theorem sleep_Add.tab6 : rtab .any (opsOf Try.f17 6) = sleep_Add.T6 := by kernel_rfl
theorem sleep_Add.bits6 : waitsOk sleep_Add.T6.2 sleep_Add.B6 = true := by kernel_rfl
set_option maxHeartbeats 8000000 in
set_option maxRecDepth 100000 in
theorem sleep_Add.calls (k : Nat) (P0_ : Nat → Prop) (A0 : Option Addr) (c0 : Nat) (l0 : List (S26)) (a1_0 : Int) (a1_1 : Int) (a1_2 : Int) (P1_3_ : Nat → Prop) (A1_3 : Option Addr) (c1_3 : Nat) (l1_3 : List (S62)) (P1_4_ : Nat → Prop) (A1_4 : Option Addr) (c1_4 : Nat) (l1_4 : List (S80)) (r1 : List (S26)) (r2 : Int) (w : World) (hs0 : Kd.V k26 26 w w.heap.size (fun k_ => P0_ k_) (.slice A0 l0.length c0) l0) (hs1_3 : Kd.V k62 62 w w.heap.size (fun k_ => P1_3_ k_) (.slice A1_3 l1_3.length c1_3) l1_3) (hs1_4 : Kd.V k80 80 w w.heap.size (fun k_ => P1_4_ k_) (.slice A1_4 l1_4.length c1_4) l1_4) (h : sleep_Add.f k l0 a1_0 a1_1 a1_2 l1_3 l1_4 = some (r1, r2)) :
 Calls Try.prog 17 #[.slice A0 l0.length c0, .agg #[.int .i64 a1_0, .int .i64 a1_1, .int .i64 a1_2, .slice A1_3 l1_3.length c1_3, .slice A1_4 l1_4.length c1_4]] w fun e w' => ∃ v0_ : Value, e = .returned (.tuple #[v0_, .int .i64 r2]) ∧ Kd.V k26 26 w' w.heap.size (fun k_ => ((P0_ k_ ∨ P1_3_ k_ ∨ P1_4_ k_) ∨ w.heap.size ≤ k_)) v0_ r1 ∧ Below w.heap.size w w' := by
 have hu26 := Try.underlying26
 have HO0 := Aside0.mk (show Kd.V k26 26 w w.heap.size (fun k_ => ((P0_ k_ ∨ P1_3_ k_ ∨ P1_4_ k_) ∨ w.heap.size ≤ k_)) (.slice A0 l0.length c0) l0 from Kd.V_mono hs0 (fun k_ hk => .inl (.inl hk)))
 have HO1_3 := Aside0.mk (show Kd.V k62 62 w w.heap.size (fun k_ => ((P0_ k_ ∨ P1_3_ k_ ∨ P1_4_ k_) ∨ w.heap.size ≤ k_)) (.slice A1_3 l1_3.length c1_3) l1_3 from Kd.V_mono hs1_3 (fun k_ hk => .inl (.inr (.inl hk))))
 have HO1_4 := Aside0.mk (show Kd.V k80 80 w w.heap.size (fun k_ => ((P0_ k_ ∨ P1_3_ k_ ∨ P1_4_ k_) ∨ w.heap.size ≤ k_)) (.slice A1_4 l1_4.length c1_4) l1_4 from Kd.V_mono hs1_4 (fun k_ hk => .inl (.inr (.inr hk))))
 have HB := Aside0.mk (Below.refl w.heap.size w)
 have H : ((sleep_Right.f k l0).bind fun t170 => (if t170 = true then ((sleep_Sleeper_may.f k a1_0 a1_1 a1_2 l1_3 l1_4).bind fun t171 => (sleep_Add.j0 k l0 (!t171) a1_0 a1_1 a1_2 l1_3 l1_4)) else (sleep_Add.j0 k l0 true a1_0 a1_1 a1_2 l1_3 l1_4))) = some (r1, r2) := h
 clear h
 have HC3 := Aside0.mk H
 clear H
 go_enter Try.func17, Try.ntmps17
 go_upto_region 1 with (first | ((with_reducible refine gate_dst (N := 3) rfl ?_); refine box_event ?hg (N := 3) ?hd (cs := #[.int .i64 a1_0, .int .i64 a1_1, .int .i64 a1_2, .slice A1_3 l1_3.length c1_3, .slice A1_4 l1_4.length c1_4]) (t := 26) ?hr ?_; (case hd => rfl); (case hg => rfl); (case hr => first | (go_simp; done) | (go_simp; rfl)); intro gb169 hg w4 hbox hb; replace HO0 := Aside0.mk (Kd.V_below (Kd.V_elderB (vq_ HO0) gb169 (Nat.le_of_eq hg.symm)) hb); replace HO1_3 := Aside0.mk (Kd.V_below (Kd.V_elderB (vq_ HO1_3) gb169 (Nat.le_of_eq hg.symm)) hb); replace HO1_4 := Aside0.mk (Kd.V_below (Kd.V_elderB (vq_ HO1_4) gb169 (Nat.le_of_eq hg.symm)) hb); replace BK169 := Aside0.mk (hbox); replace GW169 := Aside0.mk ((by rw [hg]; exact bsz_ : w.heap.size ≤ gb169)); replace HB := Aside0.mk (bst_ hb); replace GE169 := GW169; clear hb hbox hg))
 (try simp only [Act.put, List.setIfInBounds_toArray, List.set_cons_zero, List.set_cons_succ])
 go_cut [15] (fun v15 wc => ∃ (kq : Nat) (x15_2 : Bool), v15 = .bool x15_2 ∧ Aside0 (sleep_Add.j0 kq l0 x15_2 a1_0 a1_1 a1_2 l1_3 l1_4 = some (r1, r2)) ∧ Aside0 (kq ≤ k) ∧ Aside0 (Kd.V k26 26 wc w.heap.size (fun k_ => ((P0_ k_ ∨ P1_3_ k_ ∨ P1_4_ k_) ∨ w.heap.size ≤ k_) ∧ k_ ≠ gb169) (.slice A0 l0.length c0) l0) ∧ Aside0 (Kd.V k62 62 wc w.heap.size (fun k_ => ((P0_ k_ ∨ P1_3_ k_ ∨ P1_4_ k_) ∨ w.heap.size ≤ k_) ∧ k_ ≠ gb169) (.slice A1_3 l1_3.length c1_3) l1_3) ∧ Aside0 (Kd.V k80 80 wc w.heap.size (fun k_ => ((P0_ k_ ∨ P1_3_ k_ ∨ P1_4_ k_) ∨ w.heap.size ≤ k_) ∧ k_ ≠ gb169) (.slice A1_4 l1_4.length c1_4) l1_4) ∧ Aside0 (wc.heap[gb169]? = some (.cells #[.int .i64 a1_0, .int .i64 a1_1, .int .i64 a1_2, (.slice A1_3 l1_3.length c1_3), (.slice A1_4 l1_4.length c1_4)] 26 (0, 0))) ∧ Aside0 (Below w.heap.size w wc))
 case first =>
  have H := HC3.out
  clear HC3
  replace H := Option.bind_eq_some_iff.mp H
  obtain ⟨t170, A50, H⟩ := H
  have A5 := Aside0.mk A50
  clear A50
  by_cases c6 : t170 = true
  · subst c6
    rw [if_pos rfl] at H
    replace H := Option.bind_eq_some_iff.mp H
    obtain ⟨t171, A70, H⟩ := H
    have A7 := Aside0.mk A70
    clear A70
    have H' := Aside0.mk H
    clear H
    go_wp2_with (first | ((with_reducible refine gate_callee (f := 26) rfl ?_); refine goesL_ (some 9) rfl rfl Try.func26 (by kernel_rfl) rfl #[.slice A0 l0.length c0] rfl mp_ ?_; (with_reducible refine (sleep_Right.calls k _ _ l0 true _ ?side1 ?side2 A5.out).mono ?_); (case side1 => repeat (first | exact (Kd.V_reads' HO0.out).2.2 | with_reducible first | refine Kd.C_alloc ?_ _ | refine Kd.C_drewN ?_ _ | refine Kd.C_drew ?_)); (case side2 => exact (Kd.V_reads' HO0.out).2.1); rintro e w8 ⟨rfl, hb⟩; refine ⟨_, rfl, ?_⟩; replace HO0 := vb_ HO0 hb; replace HO1_3 := vb_ HO1_3 hb; replace HO1_4 := vb_ HO1_4 hb; replace BK169 := bb_ BK169 hb; replace HB := Aside0.mk (below_step bsw_ hb); (try clear hb); (try clear hb2); (try clear hk); (try clear hi); have hcz9_0 : w8.cell? ⟨gb169, 0, none⟩ = some (.int .i64 a1_0) := (blk_cell BK169.out 0).trans rfl; have hcz9_1 : w8.cell? ⟨gb169, 1, none⟩ = some (.int .i64 a1_1) := (blk_cell BK169.out 1).trans rfl; have hcz9_2 : w8.cell? ⟨gb169, 2, none⟩ = some (.int .i64 a1_2) := (blk_cell BK169.out 2).trans rfl; have hcz9_3 : w8.cell? ⟨gb169, 3, none⟩ = some (.slice A1_3 l1_3.length c1_3) := (blk_cell BK169.out 3).trans rfl; have hcz9_4 : w8.cell? ⟨gb169, 4, none⟩ = some (.slice A1_4 l1_4.length c1_4) := (blk_cell BK169.out 4).trans rfl; have hfz9_0 := blk_frozen BK169.out 0; have hfz9_1 := blk_frozen BK169.out 1; have hfz9_2 := blk_frozen BK169.out 2; have hfz9_3 := blk_frozen BK169.out 3; have hfz9_4 := blk_frozen BK169.out 4) | (go_at_call 41; (with_reducible refine (sleep_Sleeper_may.calls k a1_0 a1_1 a1_2 _ _ l1_3 _ _ l1_4 t171 _ ?side1 ?side2 ?side3 ?side4 A7.out).mono ?_); (case side1 => repeat (first | exact (Kd.V_reads' HO1_3.out).2.2 | with_reducible first | refine Kd.C_alloc ?_ _ | refine Kd.C_drewN ?_ _ | refine Kd.C_drew ?_)); (case side2 => exact (Kd.V_reads' HO1_3.out).2.1); (case side3 => repeat (first | exact (Kd.V_reads' HO1_4.out).2.2 | with_reducible first | refine Kd.C_alloc ?_ _ | refine Kd.C_drewN ?_ _ | refine Kd.C_drew ?_)); (case side4 => exact (Kd.V_reads' HO1_4.out).2.1); rintro e w10 ⟨rfl, hb⟩; replace HO0 := vb_ HO0 hb; replace HO1_3 := vb_ HO1_3 hb; replace HO1_4 := vb_ HO1_4 hb; replace BK169 := bb_ BK169 hb; replace HB := Aside0.mk (below_step bsw_ hb); (try clear hb); (try clear hb2); (try clear hk); (try clear hi)))
    go_meet
    case rel => exact ⟨_, (!t171), (by first | rfl | (simp; done) | (simp [*]; done)), H', ⟨by first | omega | exact Nat.le_refl _⟩, ⟨vq_ HO0⟩, ⟨vq_ HO1_3⟩, ⟨vq_ HO1_4⟩, ⟨bq_ BK169⟩, ⟨bsw_⟩⟩
  · replace c6 := Bool.eq_false_iff.mpr c6
    subst c6
    rw [if_neg (show ¬ (false = true) by decide)] at H
    have H' := Aside0.mk H
    clear H
    go_wp2_with (first | ((with_reducible refine gate_callee (f := 26) rfl ?_); refine goesL_ (some 9) rfl rfl Try.func26 (by kernel_rfl) rfl #[.slice A0 l0.length c0] rfl mp_ ?_; (with_reducible refine (sleep_Right.calls k _ _ l0 false _ ?side1 ?side2 A5.out).mono ?_); (case side1 => repeat (first | exact (Kd.V_reads' HO0.out).2.2 | with_reducible first | refine Kd.C_alloc ?_ _ | refine Kd.C_drewN ?_ _ | refine Kd.C_drew ?_)); (case side2 => exact (Kd.V_reads' HO0.out).2.1); rintro e w11 ⟨rfl, hb⟩; refine ⟨_, rfl, ?_⟩; replace HO0 := vb_ HO0 hb; replace HO1_3 := vb_ HO1_3 hb; replace HO1_4 := vb_ HO1_4 hb; replace BK169 := bb_ BK169 hb; replace HB := Aside0.mk (below_step bsw_ hb); (try clear hb); (try clear hb2); (try clear hk); (try clear hi)))
    go_meet
    case rel => exact ⟨_, (true), (by first | rfl | (simp; done) | (simp [*]; done)), H', ⟨by first | omega | exact Nat.le_refl _⟩, ⟨vq_ HO0⟩, ⟨vq_ HO1_3⟩, ⟨vq_ HO1_4⟩, ⟨bq_ BK169⟩, ⟨bsw_⟩⟩
 case rest =>
  clear HC3
  try clear c1
  try clear c2
  try clear p2
  try clear c6
  try clear hcz9_0
  try clear hcz9_1
  try clear hcz9_2
  try clear hcz9_3
  try clear hcz9_4
  try clear hfz9_0
  try clear hfz9_1
  try clear hfz9_2
  try clear hfz9_3
  try clear hfz9_4
  obtain ⟨kq, x15_2, rfl, HA, HJ2, HO_0, HO_170003, HO_170004, BK169, HB⟩ := hcut
  cases kq with
  | zero => exact absurd HA.out (by simp [sleep_Add.j0])
  | succ kj2 =>
   have H := HA.out
   clear HA
   simp only [sleep_Add.j0] at H
   by_cases c12 : x15_2 = true
   · subst c12
     rw [if_pos rfl] at H
     simp only [Option.some.injEq, Prod.mk.injEq] at H
     obtain ⟨rfl, rfl⟩ := H
     go_wp2
     go_ret2
     exact ⟨_, by first | rfl | (simp [errW_none, errW_some] <;> rfl) | (simp [*, errW_none, errW_some] <;> rfl), Kd.V_mono (vq_ HO_0) (fun _ hk => hk.1), bsw_⟩
   · replace c12 := Bool.eq_false_iff.mpr c12
     subst c12
     rw [if_neg (show ¬ (false = true) by decide)] at H
     replace H := Option.bind_eq_some_iff.mp H
     obtain ⟨⟨t172, t173⟩, A130, H⟩ := H
     have A13 := Aside0.mk A130
     clear A130
     by_cases c14 : t173 = true
     · subst c14
       rw [if_pos rfl] at H
       simp only [Option.some.injEq, Prod.mk.injEq] at H
       obtain ⟨rfl, rfl⟩ := H
       have hcz15_0 : wc.cell? ⟨gb169, 0, none⟩ = some (.int .i64 a1_0) := (blk_cell BK169.out 0).trans rfl
       have hcz15_1 : wc.cell? ⟨gb169, 1, none⟩ = some (.int .i64 a1_1) := (blk_cell BK169.out 1).trans rfl
       have hcz15_2 : wc.cell? ⟨gb169, 2, none⟩ = some (.int .i64 a1_2) := (blk_cell BK169.out 2).trans rfl
       have hcz15_3 : wc.cell? ⟨gb169, 3, none⟩ = some (.slice A1_3 l1_3.length c1_3) := (blk_cell BK169.out 3).trans rfl
       have hcz15_4 : wc.cell? ⟨gb169, 4, none⟩ = some (.slice A1_4 l1_4.length c1_4) := (blk_cell BK169.out 4).trans rfl
       have hfz15_0 := blk_frozen BK169.out 0
       have hfz15_1 := blk_frozen BK169.out 1
       have hfz15_2 := blk_frozen BK169.out 2
       have hfz15_3 := blk_frozen BK169.out 3
       have hfz15_4 := blk_frozen BK169.out 4
       go_wp2_with (first | ((with_reducible refine gate_callee (f := 42) rfl ?_); refine goesL_ (some 21) rfl rfl Try.func42 (by kernel_rfl) rfl #[.slice A0 l0.length c0, .int .i64 a1_0] rfl mp_ ?_; (with_reducible refine (sleep_place.calls kj2 _ _ l0 a1_0 t172 true _ ?side1 ?side2 A13.out).mono ?_); (case side1 => repeat (first | exact (Kd.V_reads' HO_0.out).2.2 | with_reducible first | refine Kd.C_alloc ?_ _ | refine Kd.C_drewN ?_ _ | refine Kd.C_drew ?_)); (case side2 => exact (Kd.V_reads' HO_0.out).2.1); rintro e w16 ⟨rfl, hb⟩; refine ⟨_, rfl, ?_⟩; replace HO_0 := vb_ HO_0 hb; replace HO_170003 := vb_ HO_170003 hb; replace HO_170004 := vb_ HO_170004 hb; replace BK169 := bb_ BK169 hb; replace HB := Aside0.mk (below_step bsw_ hb); (try clear hb); (try clear hb2); (try clear hk); (try clear hi)))
       go_ret2
       exact ⟨_, by first | rfl | (simp [errW_none, errW_some] <;> rfl) | (simp [*, errW_none, errW_some] <;> rfl), Kd.V_mono (vq_ HO_0) (fun _ hk => hk.1), bsw_⟩
     · replace c14 := Bool.eq_false_iff.mpr c14
       subst c14
       rw [if_neg (show ¬ (false = true) by decide)] at H
       replace H := Option.bind_eq_some_iff.mp H
       obtain ⟨t174, A170, H⟩ := H
       have A17 := Aside0.mk A170
       clear A170
       obtain ⟨y177, hy177⟩ : ∃ y_ : List (S26), y_ = (([(⟨a1_0, a1_1, a1_2, l1_3, l1_4⟩ : S26)] : List (S26))) := ⟨_, rfl⟩
       replace H : (if 0 ≤ t172 then (if t172 ≤ (t174.length : Int) then (if t174.length + y177.length < 1954687338268 then (some ((t174.take (t172 : Int).toNat ++ y177 ++ t174.drop (t172 : Int).toNat), 0)) else (none)) else (none)) else (none)) = some (r1, r2) := by first | (rw [hy177]; with_reducible exact H) | (have H2_ := (Option.bind_some _ _).symm.trans H; rw [hy177]; with_reducible exact H2_) | (have H2_ := (Option.bind_some _ _).symm.trans H; with_reducible exact H2_) | with_reducible exact H | (rw [hy177]; exact H) | exact H
       have Ny177 := Aside0.mk hy177
       clear hy177
       by_cases c18 : 0 ≤ t172
       · rw [if_pos c18] at H
         have c18b0 : decide (0 ≤ t172) = true := decide_eq_true c18
         clear c18
         by_cases c19 : t172 ≤ (t174.length : Int)
         · rw [if_pos c19] at H
           have c19b0 : decide (t172 ≤ (t174.length : Int)) = true := decide_eq_true c19
           clear c19
           by_cases c20 : t174.length + y177.length < 1954687338268
           · rw [if_pos c20] at H
             have LMc20 := Aside0.mk c20
             clear c20
             obtain ⟨y180, hy180⟩ : ∃ y_ : List (S26), y_ = (t174.take (t172 : Int).toNat ++ y177 ++ t174.drop (t172 : Int).toNat) := ⟨_, rfl⟩
             replace H : (some (y180, 0)) = some (r1, r2) := by first | (rw [hy180]; with_reducible exact H) | (have H2_ := (Option.bind_some _ _).symm.trans H; rw [hy180]; with_reducible exact H2_) | (have H2_ := (Option.bind_some _ _).symm.trans H; with_reducible exact H2_) | with_reducible exact H | (rw [hy180]; exact H) | exact H
             have Ny180 := Aside0.mk hy180
             clear hy180
             simp only [Option.some.injEq, Prod.mk.injEq] at H
             obtain ⟨rfl, rfl⟩ := H
             have hcz21_0 : wc.cell? ⟨gb169, 0, none⟩ = some (.int .i64 a1_0) := (blk_cell BK169.out 0).trans rfl
             have hcz21_1 : wc.cell? ⟨gb169, 1, none⟩ = some (.int .i64 a1_1) := (blk_cell BK169.out 1).trans rfl
             have hcz21_2 : wc.cell? ⟨gb169, 2, none⟩ = some (.int .i64 a1_2) := (blk_cell BK169.out 2).trans rfl
             have hcz21_3 : wc.cell? ⟨gb169, 3, none⟩ = some (.slice A1_3 l1_3.length c1_3) := (blk_cell BK169.out 3).trans rfl
             have hcz21_4 : wc.cell? ⟨gb169, 4, none⟩ = some (.slice A1_4 l1_4.length c1_4) := (blk_cell BK169.out 4).trans rfl
             have hfz21_0 := blk_frozen BK169.out 0
             have hfz21_1 := blk_frozen BK169.out 1
             have hfz21_2 := blk_frozen BK169.out 2
             have hfz21_3 := blk_frozen BK169.out 3
             have hfz21_4 := blk_frozen BK169.out 4
             try go_wp2_with (first | ((with_reducible refine gate_callee (f := 42) rfl ?_); refine goesL_ (some 21) rfl rfl Try.func42 (by kernel_rfl) rfl #[.slice A0 l0.length c0, .int .i64 a1_0] rfl mp_ ?_; (with_reducible refine (sleep_place.calls kj2 _ _ l0 a1_0 t172 false _ ?side1 ?side2 A13.out).mono ?_); (case side1 => repeat (first | exact (Kd.V_reads' HO_0.out).2.2 | with_reducible first | refine Kd.C_alloc ?_ _ | refine Kd.C_drewN ?_ _ | refine Kd.C_drew ?_)); (case side2 => exact (Kd.V_reads' HO_0.out).2.1); rintro e w22 ⟨rfl, hb⟩; refine ⟨_, rfl, ?_⟩; replace HO_0 := vb_ HO_0 hb; replace HO_170003 := vb_ HO_170003 hb; replace HO_170004 := vb_ HO_170004 hb; replace BK169 := bb_ BK169 hb; replace HB := Aside0.mk (below_step bsw_ hb); (try clear hb); (try clear hb2); (try clear hk); (try clear hi)))
             have n0_ := Aside0.mk (Kd.V_drew HO_0.out)
             have n1_ := Aside0.mk (Kd.V_drew HO_170003.out)
             have n2_ := Aside0.mk (Kd.V_drew HO_170004.out)
             have n3_ := Aside0.mk (blk_drew BK169.out)
             have n4_ := Aside0.mk (below_drew1 HB.out)
             clear HO_0
             clear HO_170003
             clear HO_170004
             clear BK169
             clear HB
             have HO_0 := n0_
             have HO_170003 := n1_
             have HO_170004 := n2_
             have BK169 := n3_
             have HB := n4_
             clear n0_ n1_ n2_ n3_ n4_
             refine start_ (n := 8) (S := fun w' => w'.cell? ⟨gb169, 0, none⟩ = some (.int .i64 a1_0) ∧ w'.cell? ⟨gb169, 1, none⟩ = some (.int .i64 a1_1) ∧ w'.cell? ⟨gb169, 2, none⟩ = some (.int .i64 a1_2) ∧ w'.cell? ⟨gb169, 3, none⟩ = some (.slice A1_3 l1_3.length c1_3) ∧ w'.cell? ⟨gb169, 4, none⟩ = some (.slice A1_4 l1_4.length c1_4)) (ds := []) #[false, false, false, false, false, false, false, false] (by kernel_rfl) rfl rfl ⟨(blk_cell BK169.out 0).trans rfl, (blk_cell BK169.out 1).trans rfl, (blk_cell BK169.out 2).trans rfl, (blk_cell BK169.out 3).trans rfl, (blk_cell BK169.out 4).trans rfl⟩ (fun hHeld => ?_); refine with_tabW sleep_Add.tab6 sleep_Add.bits6 (fun HT_ HW_ => ?_)
             generalize w22.drew = w23 at HO_0 HO_170003 HO_170004 BK169 HB hHeld ⊢
             refine pure_ (i := 0) (N := some 26) (v := ?_) (a' := ?_) #[true, false, false, false, false, false, false, false] rfl rfl (any_of HT_.out (by kernel_rfl)) (fun _ _ _ h => h) (Or.inl ⟨by rfl, ?_⟩) ?_ ?_
             rotate_left
             · intro w'
               go_simp
               with_reducible rfl
             rotate_left
             · simp only [Act.put, List.setIfInBounds_toArray, List.set_cons_zero, List.set_cons_succ, i64_w, i32_w]
               rfl
             refine pure_ (i := 2) (N := some 28) (v := ?_) (a' := ?_) #[true, false, true, false, false, false, false, false] rfl rfl (any_of HT_.out (by kernel_rfl)) (fun _ _ _ h => h) (Or.inl ⟨by rfl, ?_⟩) ?_ ?_
             rotate_left
             · intro w'
               go_simp
               with_reducible rfl
             rotate_left
             · simp only [Act.put, List.setIfInBounds_toArray, List.set_cons_zero, List.set_cons_succ, i64_w, i32_w]
               rfl
             refine take_ (i := 3) (N := some 29) (v := ?_) (a' := ?_) #[true, false, true, true, false, false, false, false] rfl rfl (take_ofW HT_.out HW_.out (by kernel_rfl)) (fun _ _ _ h => h) (Or.inl ⟨by rfl, ?_⟩) hHeld ?_ ?_
             rotate_left
             · rintro w' ⟨s0, s1, s2, s3, s4⟩
               go_simp
               with_reducible rfl
             rotate_left
             · simp only [Act.put, List.setIfInBounds_toArray, List.set_cons_zero, List.set_cons_succ, i64_w, i32_w]
               rfl
             refine join_ (σ := Value × Value) 3 #[true, true, true, true, true, false, false, false] (fun s_ => [(27, s_.1), (30, s_.2)]) (fun s_ w' => (w'.cell? ⟨gb169, 0, none⟩ = some (.int .i64 a1_0) ∧ w'.cell? ⟨gb169, 1, none⟩ = some (.int .i64 a1_1) ∧ w'.cell? ⟨gb169, 2, none⟩ = some (.int .i64 a1_2) ∧ w'.cell? ⟨gb169, 3, none⟩ = some (.slice A1_3 l1_3.length c1_3) ∧ w'.cell? ⟨gb169, 4, none⟩ = some (.slice A1_4 l1_4.length c1_4)) ∧ (Kd.N k26 26 w' w.heap.size (fun k_ => ((P0_ k_ ∨ P1_3_ k_ ∨ P1_4_ k_) ∨ w.heap.size ≤ k_) ∧ some k_ ≠ (s_.2 : Value).ownBlock ∧ k_ ≠ gb169) s_.1 t174) ∧ (Kd.N k26 26 w' w.heap.size (fun k_ => ((P0_ k_ ∨ P1_3_ k_ ∨ P1_4_ k_) ∨ w.heap.size ≤ k_) ∧ some k_ ≠ (s_.1 : Value).ownBlock ∧ k_ ≠ gb169) s_.2 y177) ∧ (Kd.V k26 26 w' w.heap.size (fun k_ => ((P0_ k_ ∨ P1_3_ k_ ∨ P1_4_ k_) ∨ w.heap.size ≤ k_) ∧ some k_ ≠ (s_.1 : Value).ownBlock ∧ some k_ ≠ (s_.2 : Value).ownBlock ∧ k_ ≠ gb169) (.slice A0 l0.length c0) l0) ∧ (Kd.V k62 62 w' w.heap.size (fun k_ => ((P0_ k_ ∨ P1_3_ k_ ∨ P1_4_ k_) ∨ w.heap.size ≤ k_) ∧ some k_ ≠ (s_.1 : Value).ownBlock ∧ some k_ ≠ (s_.2 : Value).ownBlock ∧ k_ ≠ gb169) (.slice A1_3 l1_3.length c1_3) l1_3) ∧ (Kd.V k80 80 w' w.heap.size (fun k_ => ((P0_ k_ ∨ P1_3_ k_ ∨ P1_4_ k_) ∨ w.heap.size ≤ k_) ∧ some k_ ≠ (s_.1 : Value).ownBlock ∧ some k_ ≠ (s_.2 : Value).ownBlock ∧ k_ ≠ gb169) (.slice A1_4 l1_4.length c1_4) l1_4) ∧ (w'.heap[gb169]? = some (.cells #[.int .i64 a1_0, .int .i64 a1_1, .int .i64 a1_2, .slice A1_3 l1_3.length c1_3, .slice A1_4 l1_4.length c1_4] 26 (0, 0))) ∧ (Below w.heap.size w w')) ?_ ?_
             rotate_left
             · intro hCont
               refine two_ (i := 1) (j := 4) (Ni := some 27) (Nj := some 30) #[true, true, true, true, false, false, false, false] #[true, false, true, true, true, false, false, false] rfl rfl rfl rfl (two_of HT_.out (by kernel_rfl)) (by decide) (by decide) (fun K hK => ?_) (fun K hK => ?_)
               · skip
                 refine goes_ Try.func44 (by kernel_rfl) rfl #[.slice A0 l0.length c0] (by rfl) rfl rfl (by (try simp only [List.map_toArray, List.map_cons, List.map_nil]); first | done | rfl | (simp only [List.length_drop, List.length_take]; rfl)) ?_
                 with_reducible refine (slices_Clone.calls (fun k_ => (((P0_ k_ ∨ P1_3_ k_ ∨ P1_4_ k_) ∨ w.heap.size ≤ k_) ∧ k_ ≠ gb169)) _ _ l0 t174 _ ?side1 A17.out).mono ?_
                 (case side1 => exact HO_0.out)
                 rintro e w24 ⟨v175, rfl, ho0, hb⟩
                 refine ⟨_, rfl, ?_⟩
                 have n0_ := Aside0.mk (Kd.V_elder' (vq_ HO_0) (Kd.N_base ho0) hb)
                 have n1_ := Aside0.mk (Kd.V_elder' (vq_ HO_170003) (Kd.N_base ho0) hb)
                 have n2_ := Aside0.mk (Kd.V_elder' (vq_ HO_170004) (Kd.N_base ho0) hb)
                 have n3_ := Aside0.mk (Kd.N_lower (Kd.N_mono (ok' := fun k_ => ((P0_ k_ ∨ P1_3_ k_ ∨ P1_4_ k_) ∨ w.heap.size ≤ k_) ∧ k_ ≠ gb169) ho0 (fun k_ hk_ => ⟨Or.elim hk_ (fun hs_ => hs_.1) (fun hn_ => (.inr (Nat.le_trans (below_size bsw_) hn_))), Or.elim hk_ (fun hs_ => hs_.2) (fun hn_ => (Kd.freshB (g := gb169) (o := .cells #[.int .i64 a1_0, .int .i64 a1_1, .int .i64 a1_2, .slice A1_3 l1_3.length c1_3, .slice A1_4 l1_4.length c1_4] 26 (0, 0)) (bq_ BK169) k_ hn_))⟩)) (below_size bsw_))
                 have n4_ := bb_ BK169 hb
                 have n5_ := Aside0.mk (below_step bsw_ hb)
                 clear HO_0
                 clear HO_170003
                 clear HO_170004
                 clear BK169
                 clear HB
                 have HO_0 := n0_
                 have HO_170003 := n1_
                 have HO_170004 := n2_
                 have HO176 := n3_
                 have BK169 := n4_
                 have HB := n5_
                 clear n0_ n1_ n2_ n3_ n4_ n5_
                 (try clear hb)
                 (try clear hb2)
                 (try clear hk)
                 (try clear hi)
                 (try clear ho0)
                 refine hK.out _ _ ⟨(blk_cell BK169.out 0).trans rfl, (blk_cell BK169.out 1).trans rfl, (blk_cell BK169.out 2).trans rfl, (blk_cell BK169.out 3).trans rfl, (blk_cell BK169.out 4).trans rfl⟩ (fun hHeld => ?_)
                 clear hK K
                 refine norm_ (a' := ?_) ?_ ?_
                 rotate_left
                 · show Act.put _ (some 27) _ = _
                   simp only [Act.put, List.setIfInBounds_toArray, List.set_cons_zero, List.set_cons_succ, i64_w, i32_w]
                   rfl
                 refine one_ (i := 4) (N := some 30) #[true, true, true, true, true, false, false, false] rfl rfl (one_of HT_.out (by kernel_rfl)) (by decide) (fun K hK => ?_)
                 refine Kd.N_lit_step k26 _ 26 ?hg (N' := 30) ?hd (xs := ([(⟨a1_0, a1_1, a1_2, l1_3, l1_4⟩ : S26)] : List (S26))) (inner := [.int .i64 a1_0, .int .i64 a1_1, .int .i64 a1_2, .slice A1_3 l1_3.length c1_3, .slice A1_4 l1_4.length c1_4]) (ok := (fun k_ => ((P0_ k_ ∨ P1_3_ k_ ∨ P1_4_ k_) ∨ w.heap.size ≤ k_) ∧ some k_ ≠ (v175 : Value).ownBlock ∧ k_ ≠ gb169)) (okp := (fun k_ => ((P0_ k_ ∨ P1_3_ k_ ∨ P1_4_ k_) ∨ w.heap.size ≤ k_) ∧ some k_ ≠ (v175 : Value).ownBlock ∧ k_ ≠ gb169)) ?hr ?hp (fun _ hk => hk) ((show ∀ k_, w24.heap.size ≤ k_ → (fun k_ => ((P0_ k_ ∨ P1_3_ k_ ∨ P1_4_ k_) ∨ w.heap.size ≤ k_) ∧ some k_ ≠ (v175 : Value).ownBlock ∧ k_ ≠ gb169) k_ from fun k_ hk => ⟨(.inr (Nat.le_trans (below_size bsw_) hk)), Kd.fresh' (Kd.N_lt (nq_ HO176)) k_ hk, Kd.freshB (g := gb169) (o := .cells #[.int .i64 a1_0, .int .i64 a1_1, .int .i64 a1_2, .slice A1_3 l1_3.length c1_3, .slice A1_4 l1_4.length c1_4] 26 (0, 0)) (bq_ BK169) k_ hk⟩) _ (Nat.le_refl _)) (Below.refl _ _) (Nat.le_refl _) (by simp) ?_; (case hd => rfl); (case hg => rfl); (case hr => first | (go_simp; done) | (go_simp; rfl)); (case hp => exact (Reps.c5 (show Kd.FK k26 _ _ (⟨a1_0, a1_1, a1_2, l1_3, l1_4⟩ : S26) [.int .i64 a1_0, .int .i64 a1_1, .int .i64 a1_2, .slice A1_3 l1_3.length c1_3, .slice A1_4 l1_4.length c1_4] from (k26_mkF _ _ (⟨a1_0, a1_1, a1_2, l1_3, l1_4⟩ : S26) (Kd.V_reads' (Kd.V_mono (ok' := (fun k_ => ((P0_ k_ ∨ P1_3_ k_ ∨ P1_4_ k_) ∨ w.heap.size ≤ k_) ∧ some k_ ≠ (v175 : Value).ownBlock ∧ k_ ≠ gb169)) (HO_170003.out) (fun k_ hk => ⟨hk.1.1, ⟨hk.2, hk.1.2⟩⟩))).2.1 (Kd.V_F (Kd.V_mono (ok' := (fun k_ => ((P0_ k_ ∨ P1_3_ k_ ∨ P1_4_ k_) ∨ w.heap.size ≤ k_) ∧ some k_ ≠ (v175 : Value).ownBlock ∧ k_ ≠ gb169)) (HO_170003.out) (fun k_ hk => ⟨hk.1.1, ⟨hk.2, hk.1.2⟩⟩))) (Kd.V_reads' (Kd.V_mono (ok' := (fun k_ => ((P0_ k_ ∨ P1_3_ k_ ∨ P1_4_ k_) ∨ w.heap.size ≤ k_) ∧ some k_ ≠ (v175 : Value).ownBlock ∧ k_ ≠ gb169)) (HO_170004.out) (fun k_ hk => ⟨hk.1.1, ⟨hk.2, hk.1.2⟩⟩))).2.1 (Kd.V_F (Kd.V_mono (ok' := (fun k_ => ((P0_ k_ ∨ P1_3_ k_ ∨ P1_4_ k_) ∨ w.heap.size ≤ k_) ∧ some k_ ≠ (v175 : Value).ownBlock ∧ k_ ≠ gb169)) (HO_170004.out) (fun k_ hk => ⟨hk.1.1, ⟨hk.2, hk.1.2⟩⟩))))) (Reps.none _ _)))
                 intro v178 w25 ho26 hb hg_ hnew_
                 clear hg_ hnew_
                 (first | rw [← Ny177.out] at ho26 | (simp only [Int.reduceToNat] at ho26; rw [← Ny177.out] at ho26))
                 have n0_ := Aside0.mk (Kd.V_elder' (vq_ HO_0) (Kd.N_base ho26) hb)
                 have n1_ := Aside0.mk (Kd.V_elder' (vq_ HO_170003) (Kd.N_base ho26) hb)
                 have n2_ := Aside0.mk (Kd.V_elder' (vq_ HO_170004) (Kd.N_base ho26) hb)
                 have n3_ := Aside0.mk (Kd.N_elder' (nq_ HO176) (Kd.N_base ho26) hb)
                 have n4_ := Aside0.mk (Kd.N_lower ho26 (below_size bsw_))
                 have n5_ := bb_ BK169 hb
                 have n6_ := Aside0.mk (below_step bsw_ hb)
                 clear HO_0
                 clear HO_170003
                 clear HO_170004
                 clear HO176
                 clear BK169
                 clear HB
                 have HO_0 := n0_
                 have HO_170003 := n1_
                 have HO_170004 := n2_
                 have HO176 := n3_
                 have HO179 := n4_
                 have BK169 := n5_
                 have HB := n6_
                 clear n0_ n1_ n2_ n3_ n4_ n5_ n6_
                 clear hb ho26
                 refine hK.out _ _ ⟨(blk_cell BK169.out 0).trans rfl, (blk_cell BK169.out 1).trans rfl, (blk_cell BK169.out 2).trans rfl, (blk_cell BK169.out 3).trans rfl, (blk_cell BK169.out 4).trans rfl⟩ (fun hHeld => ?_)
                 clear hK K
                 refine norm_ (a' := ?_) ?_ ?_
                 rotate_left
                 · show Act.put _ (some 30) _ = _
                   simp only [Act.put, List.setIfInBounds_toArray, List.set_cons_zero, List.set_cons_succ, i64_w, i32_w]
                   rfl
                 exact norm_ (by simp only [putAll, Act.put, List.setIfInBounds_toArray, List.set_cons_zero, List.set_cons_succ]) (hCont (v175, v178) _ ⟨hHeld, (Kd.N_mono (nq_ HO176) (fun _ hk => ⟨hk.1.1, ⟨hk.2, hk.1.2⟩⟩)), (nq_ HO179), (Kd.V_mono (vq_ HO_0) (fun _ hk => ⟨hk.1.1.1, ⟨hk.1.2, ⟨hk.2, hk.1.1.2⟩⟩⟩)), (Kd.V_mono (vq_ HO_170003) (fun _ hk => ⟨hk.1.1.1, ⟨hk.1.2, ⟨hk.2, hk.1.1.2⟩⟩⟩)), (Kd.V_mono (vq_ HO_170004) (fun _ hk => ⟨hk.1.1.1, ⟨hk.1.2, ⟨hk.2, hk.1.1.2⟩⟩⟩)), (bq_ BK169), bsw_⟩)
               · skip
                 refine Kd.N_lit_step k26 _ 26 ?hg (N' := 30) ?hd (xs := ([(⟨a1_0, a1_1, a1_2, l1_3, l1_4⟩ : S26)] : List (S26))) (inner := [.int .i64 a1_0, .int .i64 a1_1, .int .i64 a1_2, .slice A1_3 l1_3.length c1_3, .slice A1_4 l1_4.length c1_4]) (ok := (fun k_ => ((P0_ k_ ∨ P1_3_ k_ ∨ P1_4_ k_) ∨ w.heap.size ≤ k_) ∧ k_ ≠ gb169)) (okp := (fun k_ => ((P0_ k_ ∨ P1_3_ k_ ∨ P1_4_ k_) ∨ w.heap.size ≤ k_) ∧ k_ ≠ gb169)) ?hr ?hp (fun _ hk => hk) ((show ∀ k_, w23.heap.size ≤ k_ → (fun k_ => ((P0_ k_ ∨ P1_3_ k_ ∨ P1_4_ k_) ∨ w.heap.size ≤ k_) ∧ k_ ≠ gb169) k_ from fun k_ hk => ⟨(.inr (Nat.le_trans (below_size bsw_) hk)), Kd.freshB (g := gb169) (o := .cells #[.int .i64 a1_0, .int .i64 a1_1, .int .i64 a1_2, .slice A1_3 l1_3.length c1_3, .slice A1_4 l1_4.length c1_4] 26 (0, 0)) (bq_ BK169) k_ hk⟩) _ (Nat.le_refl _)) (Below.refl _ _) (Nat.le_refl _) (by simp) ?_; (case hd => rfl); (case hg => rfl); (case hr => first | (go_simp; done) | (go_simp; rfl)); (case hp => exact (Reps.c5 (show Kd.FK k26 _ _ (⟨a1_0, a1_1, a1_2, l1_3, l1_4⟩ : S26) [.int .i64 a1_0, .int .i64 a1_1, .int .i64 a1_2, .slice A1_3 l1_3.length c1_3, .slice A1_4 l1_4.length c1_4] from (k26_mkF _ _ (⟨a1_0, a1_1, a1_2, l1_3, l1_4⟩ : S26) (Kd.V_reads' (Kd.V_mono (ok' := (fun k_ => ((P0_ k_ ∨ P1_3_ k_ ∨ P1_4_ k_) ∨ w.heap.size ≤ k_) ∧ k_ ≠ gb169)) (HO_170003.out) (fun k_ hk => ⟨hk.1, hk.2⟩))).2.1 (Kd.V_F (Kd.V_mono (ok' := (fun k_ => ((P0_ k_ ∨ P1_3_ k_ ∨ P1_4_ k_) ∨ w.heap.size ≤ k_) ∧ k_ ≠ gb169)) (HO_170003.out) (fun k_ hk => ⟨hk.1, hk.2⟩))) (Kd.V_reads' (Kd.V_mono (ok' := (fun k_ => ((P0_ k_ ∨ P1_3_ k_ ∨ P1_4_ k_) ∨ w.heap.size ≤ k_) ∧ k_ ≠ gb169)) (HO_170004.out) (fun k_ hk => ⟨hk.1, hk.2⟩))).2.1 (Kd.V_F (Kd.V_mono (ok' := (fun k_ => ((P0_ k_ ∨ P1_3_ k_ ∨ P1_4_ k_) ∨ w.heap.size ≤ k_) ∧ k_ ≠ gb169)) (HO_170004.out) (fun k_ hk => ⟨hk.1, hk.2⟩))))) (Reps.none _ _)))
                 intro v178 w24 ho25 hb hg_ hnew_
                 clear hg_ hnew_
                 (first | rw [← Ny177.out] at ho25 | (simp only [Int.reduceToNat] at ho25; rw [← Ny177.out] at ho25))
                 have n0_ := Aside0.mk (Kd.V_elder' (vq_ HO_0) (Kd.N_base ho25) hb)
                 have n1_ := Aside0.mk (Kd.V_elder' (vq_ HO_170003) (Kd.N_base ho25) hb)
                 have n2_ := Aside0.mk (Kd.V_elder' (vq_ HO_170004) (Kd.N_base ho25) hb)
                 have n3_ := Aside0.mk (Kd.N_lower ho25 (below_size bsw_))
                 have n4_ := bb_ BK169 hb
                 have n5_ := Aside0.mk (below_step bsw_ hb)
                 clear HO_0
                 clear HO_170003
                 clear HO_170004
                 clear BK169
                 clear HB
                 have HO_0 := n0_
                 have HO_170003 := n1_
                 have HO_170004 := n2_
                 have HO179 := n3_
                 have BK169 := n4_
                 have HB := n5_
                 clear n0_ n1_ n2_ n3_ n4_ n5_
                 clear hb ho25
                 refine hK.out _ _ ⟨(blk_cell BK169.out 0).trans rfl, (blk_cell BK169.out 1).trans rfl, (blk_cell BK169.out 2).trans rfl, (blk_cell BK169.out 3).trans rfl, (blk_cell BK169.out 4).trans rfl⟩ (fun hHeld => ?_)
                 clear hK K
                 refine norm_ (a' := ?_) ?_ ?_
                 rotate_left
                 · show Act.put _ (some 30) _ = _
                   simp only [Act.put, List.setIfInBounds_toArray, List.set_cons_zero, List.set_cons_succ, i64_w, i32_w]
                   rfl
                 refine one_ (i := 1) (N := some 27) #[true, true, true, true, true, false, false, false] rfl rfl (one_of HT_.out (by kernel_rfl)) (by decide) (fun K hK => ?_)
                 refine goes_ Try.func44 (by kernel_rfl) rfl #[.slice A0 l0.length c0] (by rfl) rfl rfl (by (try simp only [List.map_toArray, List.map_cons, List.map_nil]); first | done | rfl | (simp only [List.length_drop, List.length_take]; rfl)) ?_
                 with_reducible refine (slices_Clone.calls (fun k_ => ((((P0_ k_ ∨ P1_3_ k_ ∨ P1_4_ k_) ∨ w.heap.size ≤ k_) ∧ k_ ≠ gb169) ∧ some k_ ≠ (v178 : Value).ownBlock)) _ _ l0 t174 _ ?side1 A17.out).mono ?_
                 (case side1 => exact HO_0.out)
                 rintro e w26 ⟨v175, rfl, ho0, hb⟩
                 refine ⟨_, rfl, ?_⟩
                 have n0_ := Aside0.mk (Kd.V_elder' (vq_ HO_0) (Kd.N_base ho0) hb)
                 have n1_ := Aside0.mk (Kd.V_elder' (vq_ HO_170003) (Kd.N_base ho0) hb)
                 have n2_ := Aside0.mk (Kd.V_elder' (vq_ HO_170004) (Kd.N_base ho0) hb)
                 have n3_ := Aside0.mk (Kd.N_elder' (nq_ HO179) (Kd.N_base ho0) hb)
                 have n4_ := Aside0.mk (Kd.N_lower (Kd.N_mono (ok' := fun k_ => ((P0_ k_ ∨ P1_3_ k_ ∨ P1_4_ k_) ∨ w.heap.size ≤ k_) ∧ some k_ ≠ (v178 : Value).ownBlock ∧ k_ ≠ gb169) ho0 (fun k_ hk_ => ⟨Or.elim hk_ (fun hs_ => hs_.1.1) (fun hn_ => (.inr (Nat.le_trans (below_size bsw_) hn_))), Or.elim hk_ (fun hs_ => hs_.2) (fun hn_ => (Kd.fresh' (Kd.N_lt (nq_ HO179)) k_ hn_)), Or.elim hk_ (fun hs_ => hs_.1.2) (fun hn_ => (Kd.freshB (g := gb169) (o := .cells #[.int .i64 a1_0, .int .i64 a1_1, .int .i64 a1_2, .slice A1_3 l1_3.length c1_3, .slice A1_4 l1_4.length c1_4] 26 (0, 0)) (bq_ BK169) k_ hn_))⟩)) (below_size bsw_))
                 have n5_ := bb_ BK169 hb
                 have n6_ := Aside0.mk (below_step bsw_ hb)
                 clear HO_0
                 clear HO_170003
                 clear HO_170004
                 clear HO179
                 clear BK169
                 clear HB
                 have HO_0 := n0_
                 have HO_170003 := n1_
                 have HO_170004 := n2_
                 have HO179 := n3_
                 have HO176 := n4_
                 have BK169 := n5_
                 have HB := n6_
                 clear n0_ n1_ n2_ n3_ n4_ n5_ n6_
                 (try clear hb)
                 (try clear hb2)
                 (try clear hk)
                 (try clear hi)
                 (try clear ho0)
                 refine hK.out _ _ ⟨(blk_cell BK169.out 0).trans rfl, (blk_cell BK169.out 1).trans rfl, (blk_cell BK169.out 2).trans rfl, (blk_cell BK169.out 3).trans rfl, (blk_cell BK169.out 4).trans rfl⟩ (fun hHeld => ?_)
                 clear hK K
                 refine norm_ (a' := ?_) ?_ ?_
                 rotate_left
                 · show Act.put _ (some 27) _ = _
                   simp only [Act.put, List.setIfInBounds_toArray, List.set_cons_zero, List.set_cons_succ, i64_w, i32_w]
                   rfl
                 exact norm_ (by simp only [putAll, Act.put, List.setIfInBounds_toArray, List.set_cons_zero, List.set_cons_succ]) (hCont (v175, v178) _ ⟨hHeld, (nq_ HO176), (Kd.N_mono (nq_ HO179) (fun _ hk => ⟨hk.1.1, ⟨hk.2, hk.1.2⟩⟩)), (Kd.V_mono (vq_ HO_0) (fun _ hk => ⟨hk.1.1.1, ⟨hk.2, ⟨hk.1.2, hk.1.1.2⟩⟩⟩)), (Kd.V_mono (vq_ HO_170003) (fun _ hk => ⟨hk.1.1.1, ⟨hk.2, ⟨hk.1.2, hk.1.1.2⟩⟩⟩)), (Kd.V_mono (vq_ HO_170004) (fun _ hk => ⟨hk.1.1.1, ⟨hk.2, ⟨hk.1.2, hk.1.1.2⟩⟩⟩)), (bq_ BK169), bsw_⟩)
             rintro ⟨v175, v178⟩ w27 ⟨hS_, h0_, h1_, h2_, h3_, h4_, h5_, h6_⟩
             have n0_ : Aside0 (Kd.N k26 26 w27 w.heap.size (fun k_ => ((P0_ k_ ∨ P1_3_ k_ ∨ P1_4_ k_) ∨ w.heap.size ≤ k_) ∧ some k_ ≠ (v178 : Value).ownBlock ∧ k_ ≠ gb169) v175 t174) := ⟨h0_⟩
             have n1_ : Aside0 (Kd.N k26 26 w27 w.heap.size (fun k_ => ((P0_ k_ ∨ P1_3_ k_ ∨ P1_4_ k_) ∨ w.heap.size ≤ k_) ∧ some k_ ≠ (v175 : Value).ownBlock ∧ k_ ≠ gb169) v178 y177) := ⟨h1_⟩
             have n2_ : Aside0 (Kd.V k26 26 w27 w.heap.size (fun k_ => ((P0_ k_ ∨ P1_3_ k_ ∨ P1_4_ k_) ∨ w.heap.size ≤ k_) ∧ some k_ ≠ (v175 : Value).ownBlock ∧ some k_ ≠ (v178 : Value).ownBlock ∧ k_ ≠ gb169) (.slice A0 l0.length c0) l0) := ⟨h2_⟩
             have n3_ : Aside0 (Kd.V k62 62 w27 w.heap.size (fun k_ => ((P0_ k_ ∨ P1_3_ k_ ∨ P1_4_ k_) ∨ w.heap.size ≤ k_) ∧ some k_ ≠ (v175 : Value).ownBlock ∧ some k_ ≠ (v178 : Value).ownBlock ∧ k_ ≠ gb169) (.slice A1_3 l1_3.length c1_3) l1_3) := ⟨h3_⟩
             have n4_ : Aside0 (Kd.V k80 80 w27 w.heap.size (fun k_ => ((P0_ k_ ∨ P1_3_ k_ ∨ P1_4_ k_) ∨ w.heap.size ≤ k_) ∧ some k_ ≠ (v175 : Value).ownBlock ∧ some k_ ≠ (v178 : Value).ownBlock ∧ k_ ≠ gb169) (.slice A1_4 l1_4.length c1_4) l1_4) := ⟨h4_⟩
             have n5_ : Aside0 (w27.heap[gb169]? = some (.cells #[.int .i64 a1_0, .int .i64 a1_1, .int .i64 a1_2, .slice A1_3 l1_3.length c1_3, .slice A1_4 l1_4.length c1_4] 26 (0, 0))) := ⟨h5_⟩
             have n6_ : Aside0 (Below w.heap.size w w27) := ⟨h6_⟩
             clear HO_0
             clear HO_170003
             clear HO_170004
             clear BK169
             clear HB
             clear h0_ h1_ h2_ h3_ h4_ h5_ h6_
             have HO176 := n0_
             have HO179 := n1_
             have HO_0 := n2_
             have HO_170003 := n3_
             have HO_170004 := n4_
             have BK169 := n5_
             have HB := n6_
             clear n0_ n1_ n2_ n3_ n4_ n5_ n6_
             have hHeld : w27.cell? ⟨gb169, 0, none⟩ = some (.int .i64 a1_0) ∧ w27.cell? ⟨gb169, 1, none⟩ = some (.int .i64 a1_1) ∧ w27.cell? ⟨gb169, 2, none⟩ = some (.int .i64 a1_2) ∧ w27.cell? ⟨gb169, 3, none⟩ = some (.slice A1_3 l1_3.length c1_3) ∧ w27.cell? ⟨gb169, 4, none⟩ = some (.slice A1_4 l1_4.length c1_4) := hS_
             obtain ⟨Ao29, co29, eo29⟩ := Kd.N_slice HO179.out
             (first | subst eo29 | (injection eo29 with f1_ f2_ f3_; have f4_ := f1_.symm; have f5_ := f3_.symm; clear f1_ f2_ f3_; subst f4_; subst f5_))
             refine norm_ (a' := ?_) ?_ ?_
             rotate_left
             · simp only [putAll, Act.put, List.setIfInBounds_toArray, List.set_cons_zero, List.set_cons_succ]
               rfl
             refine one_ (i := 5) (N := some 31) #[true, true, true, true, true, true, false, false] rfl rfl (one_of HT_.out (by kernel_rfl)) (by decide) (fun K hK => ?_)
             refine goes_ Try.func43 (by kernel_rfl) rfl #[v175, .int .i64 t172, .slice Ao29 y177.length co29] (by rfl) rfl rfl mp_ ?_
             refine (slices_Insert.calls w.heap.size (fun k_ => ((P0_ k_ ∨ P1_3_ k_ ∨ P1_4_ k_) ∨ w.heap.size ≤ k_) ∧ k_ ≠ gb169) (fun k_ => ((fun k_ => ((P0_ k_ ∨ P1_3_ k_ ∨ P1_4_ k_) ∨ w.heap.size ≤ k_) ∧ k_ ≠ gb169)) k_ ∧ some k_ ≠ (v175 : Value).ownBlock) v175 t174 y177 (.slice Ao29 y177.length co29) t172 w _ ?aO ?aR ?aY (fun _ hk => hk) ?aF ?aB ?aS ?aL ?a0 ?a1).mono ?_
             (case aR => exact (Kd.N_mono (ok' := (fun k_ => ((fun k_ => ((P0_ k_ ∨ P1_3_ k_ ∨ P1_4_ k_) ∨ w.heap.size ≤ k_) ∧ k_ ≠ gb169)) k_ ∧ some k_ ≠ (v175 : Value).ownBlock)) (HO179.out) (fun k_ hk => ⟨⟨hk.1, hk.2.2⟩, hk.2.1⟩)))
             (case aY => first | rfl | (rw [← Ny177.out]; rfl) | (rw [Ny177.out]; rfl))
             (case a0 => first | exact oda_ | omega)
             (case a1 => first | exact oda_ | omega)
             (case aB => exact bsw_)
             (case aF => exact (fun k_ hk => ⟨(.inr (Nat.le_trans (below_size bsw_) hk)), Kd.freshB (g := gb169) (o := .cells #[.int .i64 a1_0, .int .i64 a1_1, .int .i64 a1_2, .slice A1_3 l1_3.length c1_3, .slice A1_4 l1_4.length c1_4] 26 (0, 0)) (bq_ BK169) k_ hk⟩))
             (case aO => exact (Kd.N_mono (nq_ HO176) (fun _ hk => ⟨hk.1, hk.2.2⟩)))
             (case aS => exact (below_size bsw_))
             (case aL => have := LMc20.out; omega)
             rintro e_ w28 ⟨v181, rfl, ho, hb, hg, hat⟩
             refine ⟨_, rfl, ?_⟩
             rw [← Ny180.out] at ho
             have n0_ := Aside0.mk (Kd.V_afterv (ok := (fun k_ => ((P0_ k_ ∨ P1_3_ k_ ∨ P1_4_ k_) ∨ w.heap.size ≤ k_) ∧ some k_ ≠ (.slice Ao29 y177.length co29 : Value).ownBlock ∧ k_ ≠ gb169)) (Kd.V_mono (vq_ HO_0) (fun _ hk => ⟨⟨hk.1, ⟨hk.2.2.1, hk.2.2.2⟩⟩, hk.2.1⟩)) hg hat)
             have n1_ := Aside0.mk (Kd.V_afterv (ok := (fun k_ => ((P0_ k_ ∨ P1_3_ k_ ∨ P1_4_ k_) ∨ w.heap.size ≤ k_) ∧ some k_ ≠ (.slice Ao29 y177.length co29 : Value).ownBlock ∧ k_ ≠ gb169)) (Kd.V_mono (vq_ HO_170003) (fun _ hk => ⟨⟨hk.1, ⟨hk.2.2.1, hk.2.2.2⟩⟩, hk.2.1⟩)) hg hat)
             have n2_ := Aside0.mk (Kd.V_afterv (ok := (fun k_ => ((P0_ k_ ∨ P1_3_ k_ ∨ P1_4_ k_) ∨ w.heap.size ≤ k_) ∧ some k_ ≠ (.slice Ao29 y177.length co29 : Value).ownBlock ∧ k_ ≠ gb169)) (Kd.V_mono (vq_ HO_170004) (fun _ hk => ⟨⟨hk.1, ⟨hk.2.2.1, hk.2.2.2⟩⟩, hk.2.1⟩)) hg hat)
             have n3_ := Aside0.mk (blk_grown (g := gb169) (o := .cells #[.int .i64 a1_0, .int .i64 a1_1, .int .i64 a1_2, .slice A1_3 l1_3.length c1_3, .slice A1_4 l1_4.length c1_4] 26 (0, 0)) (bq_ BK169) hg (Kd.N_away HO176.out (fun _ hk => hk.2.2)))
             have n4_ := Aside0.mk (Kd.N_afterv (ok := (fun k_ => ((P0_ k_ ∨ P1_3_ k_ ∨ P1_4_ k_) ∨ w.heap.size ≤ k_) ∧ k_ ≠ gb169)) (Kd.N_mono (nq_ HO179) (fun _ hk => ⟨⟨hk.1, hk.2.2⟩, hk.2.1⟩)) hg hat)
             have n5_ := Aside0.mk (hb)
             have n6_ := Aside0.mk (ho)
             clear HO_0
             clear HO_170003
             clear HO_170004
             clear BK169
             clear HO179
             clear HB
             clear HO176
             have HO_0 := n0_
             have HO_170003 := n1_
             have HO_170004 := n2_
             have BK169 := n3_
             have HO179 := n4_
             have HB := n5_
             have HO182 := n6_
             clear n0_ n1_ n2_ n3_ n4_ n5_ n6_
             clear ho hb hg hat
             refine hK.out _ _ ⟨(blk_cell BK169.out 0).trans rfl, (blk_cell BK169.out 1).trans rfl, (blk_cell BK169.out 2).trans rfl, (blk_cell BK169.out 3).trans rfl, (blk_cell BK169.out 4).trans rfl⟩ (fun hHeld => ?_)
             clear hK K
             refine norm_ (a' := ?_) ?_ ?_
             rotate_left
             · show Act.put _ (some 31) _ = _
               simp only [Act.put, List.setIfInBounds_toArray, List.set_cons_zero, List.set_cons_succ, i64_w, i32_w]
               rfl
             refine pure_ (i := 6) (N := some 4) (v := ?_) (a' := ?_) #[true, true, true, true, true, true, true, false] rfl rfl (any_of HT_.out (by kernel_rfl)) (fun _ _ _ h => h) (Or.inl ⟨by rfl, ?_⟩) ?_ ?_
             rotate_left
             · intro w'
               go_simp
               with_reducible rfl
             rotate_left
             · simp only [Act.put, List.setIfInBounds_toArray, List.set_cons_zero, List.set_cons_succ, i64_w, i32_w]
               rfl
             refine pure_ (i := 7) (N := some 5) (v := ?_) (a' := ?_) #[true, true, true, true, true, true, true, true] rfl rfl (any_of HT_.out (by kernel_rfl)) (fun _ _ _ h => h) (Or.inl ⟨by rfl, ?_⟩) ?_ ?_
             rotate_left
             · intro w'
               go_simp
               with_reducible rfl
             rotate_left
             · simp only [Act.put, List.setIfInBounds_toArray, List.set_cons_zero, List.set_cons_succ, i64_w, i32_w]
               rfl
             refine done_ (done_of HT_.out (by kernel_rfl)) ?_
             try go_wp2
             go_ret2
             exact ⟨_, by first | rfl | (simp [errW_none, errW_some] <;> rfl) | (simp [*, errW_none, errW_some] <;> rfl), Kd.N_V (Kd.N_mono (nq_ HO182) (fun _ hk => hk.1)), bsw_⟩
           · rw [if_neg c20] at H
             exact absurd H (by simp)
         · rw [if_neg c19] at H
           exact absurd H (by simp)
       · rw [if_neg c18] at H
         exact absurd H (by simp)

/-! ### slices_Delete: function 47: the library's -/
set_option maxHeartbeats 4000000 in
set_option maxRecDepth 100000 in
theorem slices_Delete.calls (base : Nat) (ok : Nat → Prop) (g n cap : Nat) (l0 : List (S26)) (i j : Int) (w0 w : World) (HB : Below base w0 w) (hbase : base ≤ w.heap.size) (ho0 : Kd.N k26 26 w base ok (.slice (some ⟨g, 0, none⟩) n cap) l0) (h0 : 0 ≤ i) (h1 : i < (n : Int)) (hj : j = i + 1) :
 Calls Try.prog 47 #[.slice (some ⟨g, 0, none⟩) n cap, .int .i64 i, .int .i64 j] w fun e w' => e = .returned (.slice (some ⟨g, 0, none⟩) (n - 1) cap) ∧ Kd.N k26 26 w' base ok (.slice (some ⟨g, 0, none⟩) (n - 1) cap) (l0.eraseIdx i.toNat) ∧ Below base w0 w' ∧ w.grownBy w' (some g) := by
 obtain ⟨hn, hnc, hC0⟩ := Kd.N_reads' ho0
 obtain ⟨k, rfl⟩ := Int.eq_ofNat_of_zero_le h0
 subst hj
 have hcm : cap ≤ 9223372036854775807 := Dl.N_cap ho0
 have hkn : k < n := by omega
 have H0 := Aside0.mk (Kd.N_drew ho0)
 have HB0 := Aside0.mk (below_drew HB)
 have hic : decide ((k : Int) = (k : Int) + 1) = false := decide_eq_false (by omega)
 have hle : n ≤ cap := hnc
 have hbg : base ≤ g := Dl.N_base ho0
 clear hn hnc ho0 h0 h1 hC0
 have hkc : k ≤ cap := by omega
 have hk1 : k + 1 ≤ cap := by omega
 have hz1 : 0 ≤ (k : Int) + 1 := by omega
 have hz2 : (k : Int) + 1 ≤ (n : Int) := by omega
 have mixed : Try.prog.follows .mixedOrders = true := by kernel_rfl
 go_enter Try.func47, Try.ntmps47
 go_wp2_with fail
 go_region_law_o (refine Kd.N_delete_step k26 base (by rfl) (.tmp 22) (.tmp 25) 22 26 rfl Try.underlying22 (by kernel_rfl) (g := g) (n := n) (c := cap) (k := k) rfl rfl ?hA ?hm H0.out hkn HB0.out (by exact hbase) ?_; (case hA => simp only [Option.map_some, Addr.add]; first | done | rfl | (split <;> simp <;> rfl)); (case hm => rfl); intro w1 hr1 hb1 hg1)
 have hn1 : 0 < n := by omega
 have hk2 : (n - 1) * 5 + 5 ≤ cap * 5 := by omega
 have hcl : ∀ ty c, (Builtin.clear_ #[22] ty #[.slice (some ⟨g, (n - 1) * 5, none⟩) 1 c]).run Try.prog w1 = .ok (.tuple #[]) (w1.setCells g ((n - 1) * 5) [(.int .i64 0), (.int .i64 0), (.int .i64 0), (.slice none 0 0), (.slice none 0 0)]) := fun ty c =>
  Dl.clear_one w1 22 26 ty _ Try.underlying22 Try.zeroValue26 (by decide) g ((n - 1) * 5) c (fun j hj => (Dl.N_cells hr1 _ (by show (n - 1) * 5 + j < cap * 5; have : j < 5 := hj; omega)).1) (fun j hj => (Dl.N_cells hr1 _ (by show (n - 1) * 5 + j < cap * 5; have : j < 5 := hj; omega)).2)
 have hr2 := Aside0.mk (Dl.N_tail hr1 [(.int .i64 0), (.int .i64 0), (.int .i64 0), (.slice none 0 0), (.slice none 0 0)] ((n - 1) * 5) (by show (n - 1) * 5 ≤ _; omega) (by show (n - 1) * 5 + 5 ≤ cap * 5; omega))
 have hz3 : ((n - 1 : Nat) : Int) ≤ n := by omega
 have hz4 : n - 1 ≤ n := by omega
 have hz5 : ¬ cap = n - 1 := by omega
 have hz6 : n - (n - 1) = 1 := by omega
 have hb2 := Aside0.mk (hb1.grown (Dl.set_grown w1 g ((n - 1) * 5) [(.int .i64 0), (.int .i64 0), (.int .i64 0), (.slice none 0 0), (.slice none 0 0)]) (Nat.le_trans hbase (Dl.grown_trans (Dl.drew_grown w _) hg1).size) (fun q hq => by injection hq with hq; subst hq; exact hbg))
 have hg2 := Aside0.mk (Dl.grown_trans (Dl.grown_trans (Dl.drew_grown w _) hg1) (Dl.set_grown w1 g ((n - 1) * 5) [(.int .i64 0), (.int .i64 0), (.int .i64 0), (.slice none 0 0), (.slice none 0 0)]))
 clear hr1 H0 HB0 HB hbase hb1 hg1
 go_wp2
 all_goals (go_ret; first | exact ⟨rfl, hr2.out, hb2.out, hg2.out⟩ | (have hq_ : cap = k + 1 := (by assumption); have hr3 := hr2.out; rw [hq_] at hr3; exact ⟨rfl, hr3, hb2.out, hg2.out⟩))

/-! ### sleep_Drop: function 20 -/
def sleep_Drop.l0 : Nat → List (S26) → List (S26) → List Int → Int → Int → Option ((List (S26)) × Int)
 | 0, _, _, _, _, _ => none
 | k + 1, x0, x6, x17, x18, x19 => if x19 < x18 then (if 0 ≤ x19 then (if x19 < (x17.length : Int) then ((sleep_place.f k x6 (rd x17 x19)).bind fun bt188 => (if bt188.2 = true then (if 0 ≤ bt188.1 then (if bt188.1 < (x6.length : Int) then (sleep_Drop.l0 k x0 (x6.eraseIdx (bt188.1 : Int).toNat) x17 x18 (wrap64 (x19 + 1))) else (none)) else (none)) else (some (x0, 3)))) else (none)) else (none)) else (some (x6, 0))
def sleep_Drop.f (k : Nat) (l0 : List (S26)) (l1 : List Int) : Option ((List (S26)) × Int) := (slices_Clone.f l0).bind fun t183 => ((sleep_Right.f k l0).bind fun t186 => (if t186 = true then (sleep_Drop.l0 k l0 t183 l1 (l1.length : Int) 0) else (some (l0, 1))))
theorem sleep_Drop.mono_l : ∀ k, (∀ y0 y1 y2 y3 y4, LeO (sleep_Drop.l0 k y0 y1 y2 y3 y4) (sleep_Drop.l0 (k + 1) y0 y1 y2 y3 y4))
 | 0 => fun _ _ _ _ _ r h => by simp [sleep_Drop.l0] at h
 | k + 1 => by
  have ih0 := sleep_Drop.mono_l k
  · intro y0 y1 y2 y3 y4
    unfold sleep_Drop.l0
    repeat' first
    | (with_reducible exact ih0 _ _ _ _ _)
    | (with_reducible exact sleep_Right.mono _ _)
    | (with_reducible exact sleep_place.mono _ _ _)
    | (with_reducible exact LeO.refl _)
    | (with_reducible exact LeO.none _)
    | (with_reducible refine LeO.ite ?_ ?_)
    | (with_reducible refine LeO.bind ?_ (fun _ => ?_))
    | exact ih0 _ _ _ _ _
    | exact sleep_Right.mono _ _
    | exact sleep_place.mono _ _ _
    | exact LeO.none _
    | refine LeO.ite ?_ ?_
    | refine LeO.bind ?_ (fun _ => ?_)
theorem sleep_Drop.mono : ∀ a0 a1 k, LeO (sleep_Drop.f k a0 a1) (sleep_Drop.f (k + 1) a0 a1) := by
 intro a0 a1 k
 have ih0 := sleep_Drop.mono_l k
 unfold sleep_Drop.f
 repeat' first
  | (with_reducible exact ih0 _ _ _ _ _)
  | (with_reducible exact sleep_Right.mono _ _)
  | (with_reducible exact sleep_place.mono _ _ _)
  | (with_reducible exact LeO.refl _)
  | (with_reducible exact LeO.none _)
  | (with_reducible refine LeO.ite ?_ ?_)
  | (with_reducible refine LeO.bind ?_ (fun _ => ?_))
  | exact ih0 _ _ _ _ _
  | exact sleep_Right.mono _ _
  | exact sleep_place.mono _ _ _
  | exact LeO.none _
  | refine LeO.ite ?_ ?_
  | refine LeO.bind ?_ (fun _ => ?_)
set_option maxHeartbeats 8000000 in
set_option maxRecDepth 100000 in
theorem sleep_Drop.calls (k : Nat) (P0_ : Nat → Prop) (A0 : Option Addr) (c0 : Nat) (l0 : List (S26)) (A1 : Option Addr) (c1 : Nat) (l1 : List Int) (r1 : List (S26)) (r2 : Int) (w : World) (hs0 : Kd.V k26 26 w w.heap.size (fun k_ => P0_ k_) (.slice A0 l0.length c0) l0) (hr1 : Kd.C (Kd.int .i64) w A1 l1.length l1) (hc1 : l1.length ≤ c1) (h : sleep_Drop.f k l0 l1 = some (r1, r2)) :
 Calls Try.prog 20 #[.slice A0 l0.length c0, .slice A1 l1.length c1] w fun e w' => ∃ v0_ : Value, e = .returned (.tuple #[v0_, .int .i64 r2]) ∧ Kd.V k26 26 w' w.heap.size (fun k_ => (P0_ k_ ∨ w.heap.size ≤ k_)) v0_ r1 ∧ Below w.heap.size w w' := by
 have HO0 := Aside0.mk (show Kd.V k26 26 w w.heap.size (fun k_ => (P0_ k_ ∨ w.heap.size ≤ k_)) (.slice A0 l0.length c0) l0 from Kd.V_mono hs0 (fun k_ hk => .inl hk))
 have HR1 := Aside0.mk hr1
 have HC1 := Aside0.mk hc1
 clear hr1 hc1
 have HB := Aside0.mk (Below.refl w.heap.size w)
 have H : ((slices_Clone.f l0).bind fun t183 => ((sleep_Right.f k l0).bind fun t186 => (if t186 = true then (sleep_Drop.l0 k l0 t183 l1 (l1.length : Int) 0) else (some (l0, 1))))) = some (r1, r2) := h
 clear h
 replace H := Option.bind_eq_some_iff.mp H
 obtain ⟨t183, A30, H⟩ := H
 have A3 := Aside0.mk A30
 clear A30
 replace H := Option.bind_eq_some_iff.mp H
 obtain ⟨t186, A40, H⟩ := H
 have A4 := Aside0.mk A40
 clear A40
 by_cases c5 : t186 = true
 · subst c5
   rw [if_pos rfl] at H
   have H' := Aside0.mk H
   clear H
   go_enter Try.func20, Try.ntmps20
   go_wp2_with (first | ((with_reducible refine gate_callee (f := 44) rfl ?_); refine goesL_ (some 12) rfl rfl Try.func44 (by kernel_rfl) rfl #[.slice A0 l0.length c0] rfl mp_ ?_; (with_reducible refine (slices_Clone.calls (fun k_ => (P0_ k_ ∨ w.heap.size ≤ k_)) _ _ l0 t183 _ ?side1 A3.out).mono ?_); (case side1 => exact HO0.out); rintro e w6 ⟨v184, rfl, ho0, hb⟩; refine ⟨_, rfl, ?_⟩; replace HO0 := Aside0.mk (Kd.V_elder' (vq_ HO0) (Kd.N_base ho0) hb); replace HO185 := Aside0.mk (Kd.N_lower (Kd.N_mono (ok' := fun k_ => (P0_ k_ ∨ w.heap.size ≤ k_)) ho0 (fun k_ hk_ => Or.elim hk_ (fun hs_ => hs_) (fun hn_ => (.inr (Nat.le_trans bsz_ hn_))))) bsz_); replace HB := Aside0.mk (bst_ hb); (try clear hb); (try clear hb2); (try clear hk); (try clear hi); (try clear ho0)) | ((with_reducible refine gate_callee (f := 26) rfl ?_); refine goesL_ (some 14) rfl rfl Try.func26 (by kernel_rfl) rfl #[.slice A0 l0.length c0] rfl mp_ ?_; (with_reducible refine (sleep_Right.calls k _ _ l0 true _ ?side1 ?side2 A4.out).mono ?_); (case side1 => repeat (first | exact (Kd.V_reads' HO0.out).2.2 | with_reducible first | refine Kd.C_alloc ?_ _ | refine Kd.C_drewN ?_ _ | refine Kd.C_drew ?_)); (case side2 => exact (Kd.V_reads' HO0.out).2.1); rintro e w7 ⟨rfl, hb⟩; refine ⟨_, rfl, ?_⟩; replace HO0 := vb_ HO0 hb; replace HO185 := nb_ HO185 hb; replace HB := Aside0.mk (bst_ hb); (try clear hb); (try clear hb2); (try clear hk); (try clear hi)))
   go_loopg [6, 19] k (fun kq v6 v19 w' => ∃ (x6_1 : List (S26)) (x19_1 : Int), v19 = .int .i64 x19_1 ∧ Aside0 (sleep_Drop.l0 kq l0 x6_1 l1 (l1.length : Int) x19_1 = some (r1, r2)) ∧ Aside0 (kq ≤ k) ∧ Aside0 (Kd.V k26 26 w' w.heap.size (fun k_ => (P0_ k_ ∨ w.heap.size ≤ k_) ∧ some k_ ≠ (v6 : Value).ownBlock) (.slice A0 l0.length c0) l0) ∧ Aside0 (Kd.N k26 26 w' w.heap.size (fun k_ => (P0_ k_ ∨ w.heap.size ≤ k_)) v6 x6_1) ∧ Aside0 (Below w.heap.size w w'))
   case atStart => exact ⟨(t183), (0), (by first | rfl | (simp; done) | (simp [*]; done)), H', ⟨Nat.le_refl _⟩, ⟨vq_ HO0⟩, ⟨nq_ HO185⟩, ⟨bsv_⟩⟩
   case round =>
    clear H'
    try clear c1
    try clear c2
    try clear p2
    try clear c4
    try clear c5
    obtain ⟨x6_1, x19_1, rfl, HA, HK1, HO_0, HO_6, HB⟩ := hrel
    cases gk with
    | zero => exact absurd HA.out (by simp [sleep_Drop.l0])
    | succ k1 =>
     have H := HA.out
     clear HA
     simp only [sleep_Drop.l0] at H
     by_cases c8 : x19_1 < (l1.length : Int)
     · rw [if_pos c8] at H
       have c8b0 : decide (x19_1 < (l1.length : Int)) = true := decide_eq_true c8
       clear c8
       by_cases c9 : 0 ≤ x19_1
       · rw [if_pos c9] at H
         have c9b0 : decide (0 ≤ x19_1) = true := decide_eq_true c9
         clear c9
         by_cases c10 : x19_1 < (l1.length : Int)
         · rw [if_pos c10] at H
           have c10b0 : decide (x19_1 < (l1.length : Int)) = true := decide_eq_true c10
           clear c10
           replace H := Option.bind_eq_some_iff.mp H
           obtain ⟨⟨t188, t189⟩, A110, H⟩ := H
           have A11 := Aside0.mk A110
           clear A110
           by_cases c12 : t189 = true
           · subst c12
             rw [if_pos rfl] at H
             by_cases c13 : 0 ≤ t188
             · rw [if_pos c13] at H
               have c13b0 : decide (0 ≤ t188) = true := decide_eq_true c13
               clear c13
               by_cases c14 : t188 < (x6_1.length : Int)
               · rw [if_pos c14] at H
                 have c14b0 : decide (t188 < (x6_1.length : Int)) = true := decide_eq_true c14
                 clear c14
                 obtain ⟨y190, hy190⟩ : ∃ y_ : List (S26), y_ = (x6_1.eraseIdx (t188 : Int).toNat) := ⟨_, rfl⟩
                 replace H : (sleep_Drop.l0 k1 l0 y190 l1 (l1.length : Int) (wrap64 (x19_1 + 1))) = some (r1, r2) := by first | (rw [hy190]; with_reducible exact H) | (have H2_ := (Option.bind_some _ _).symm.trans H; rw [hy190]; with_reducible exact H2_) | (have H2_ := (Option.bind_some _ _).symm.trans H; with_reducible exact H2_) | with_reducible exact H | (rw [hy190]; exact H) | exact H
                 have Ny190 := Aside0.mk hy190
                 clear hy190
                 have H' := Aside0.mk H
                 clear H
                 have p187 : 0 ≤ (x19_1 : Int) := oda_
                 have q187 : x19_1 < (l1.length : Int) := oda_
                 obtain ⟨ad187, e187, hx187_0⟩ := Kd.at_int HR1.out x19_1 p187 q187
                 cases e187
                 replace hx187_0 := (HB.out.cell (World.block_lt_of_cell? w _ hx187_0)).trans hx187_0
                 replace p187 := eq_true p187
                 replace q187 := eq_true q187
                 obtain ⟨Ao15, co15, eo15⟩ := Kd.N_slice HO_6.out
                 subst eo15
                 go_wp2_with (first | ((with_reducible refine gate_callee (f := 42) rfl ?_); refine goesL_ (some 26) rfl rfl Try.func42 (by kernel_rfl) rfl #[.slice Ao15 x6_1.length co15, .int .i64 (rd l1 x19_1)] rfl mp_ ?_; (with_reducible refine (sleep_place.calls k1 _ _ x6_1 (rd l1 x19_1) t188 true _ ?side1 ?side2 A11.out).mono ?_); (case side1 => repeat (first | exact (Kd.N_reads' HO_6.out).2.2 | with_reducible first | refine Kd.C_alloc ?_ _ | refine Kd.C_drewN ?_ _ | refine Kd.C_drew ?_)); (case side2 => exact (Kd.N_reads' HO_6.out).2.1); rintro e w16 ⟨rfl, hb⟩; refine ⟨_, rfl, ?_⟩; replace HO_0 := vb_ HO_0 hb; replace HO_6 := nb_ HO_6 hb; replace HB := Aside0.mk (bst_ hb); (try clear hb); (try clear hb2); (try clear hk); (try clear hi)) | ((with_reducible refine gate_callee (f := 47) rfl ?_); have hj_ : 0 ≤ (t188 : Int) := oda_; have hl_ : (t188 : Int) < (x6_1.length : Int) := oda_; have hh_ := (Kd.N_reads' HO_6.out).2.1; have hb_ := (Kd.N_reads' HO_6.out).2.2.2.1; have hy1_ := hb_; have hk_ := hb_; have h0_ := hb_; obtain ⟨gd18, cap_, ev_, _⟩ := Kd.N_form HO_6.out (by omega); injection ev_ with ea_ eb_ ec_; subst ea_; clear eb_ ec_; refine goesL_ (some 36) rfl rfl Try.func47 (by kernel_rfl) rfl #[.slice (some ⟨gd18, 0, none⟩) x6_1.length co15, .int .i64 (t188), .int .i64 (wrap64 (t188 + 1))] rfl mp_ ?_; refine (slices_Delete.calls w.heap.size _ gd18 x6_1.length co15 x6_1 (t188) _ w _ bsv_ bsz_ (nq_ HO_6) hj_ hl_ ?hjj).mono ?_; (case hjj => unfold wrap64; omega); rintro e w17 ⟨rfl, ho, hb, hg⟩; refine ⟨_, rfl, ?_⟩; clear hj_ hl_ hh_ hb_ hk_ h0_; rw [← Ny190.out] at ho; clear hy1_; have hn_ : x6_1.length - 1 = y190.length := (by have := (Kd.N_reads' ho).1; omega); rw [hn_] at ho ⊢; clear hn_; replace HO_0 := Aside0.mk (Kd.V_afterv (v := (.slice (some ⟨gd18, 0, none⟩) x6_1.length co15)) (v1 := .slice (some ⟨gd18, 0, none⟩) y190.length co15) (ok := (fun k_ => (P0_ k_ ∨ w.heap.size ≤ k_))) (vq_ HO_0) hg (.inl rfl)); replace HO_6 := Aside0.mk (ho); replace HB := Aside0.mk (hb); clear ho hb hg))
                 go_roundg k1
                 case measure => have := HK1.out; omega
                 case rel => exact ⟨(y190), (wrap64 (x19_1 + 1)), (by first | rfl | (simp; done) | (simp [*]; done)), H', ⟨by have := HK1.out; omega⟩, ⟨vq_ HO_0⟩, ⟨nq_ HO_6⟩, ⟨bsv_⟩⟩
               · rw [if_neg c14] at H
                 exact absurd H (by simp)
             · rw [if_neg c13] at H
               exact absurd H (by simp)
           · replace c12 := Bool.eq_false_iff.mpr c12
             subst c12
             rw [if_neg (show ¬ (false = true) by decide)] at H
             simp only [Option.some.injEq, Prod.mk.injEq] at H
             obtain ⟨rfl, rfl⟩ := H
             have p187 : 0 ≤ (x19_1 : Int) := oda_
             have q187 : x19_1 < (l1.length : Int) := oda_
             obtain ⟨ad187, e187, hx187_0⟩ := Kd.at_int HR1.out x19_1 p187 q187
             cases e187
             replace hx187_0 := (HB.out.cell (World.block_lt_of_cell? w _ hx187_0)).trans hx187_0
             replace p187 := eq_true p187
             replace q187 := eq_true q187
             obtain ⟨Ao19, co19, eo19⟩ := Kd.N_slice HO_6.out
             subst eo19
             go_wp2_with (first | ((with_reducible refine gate_callee (f := 42) rfl ?_); refine goesL_ (some 26) rfl rfl Try.func42 (by kernel_rfl) rfl #[.slice Ao19 x6_1.length co19, .int .i64 (rd l1 x19_1)] rfl mp_ ?_; (with_reducible refine (sleep_place.calls k1 _ _ x6_1 (rd l1 x19_1) t188 false _ ?side1 ?side2 A11.out).mono ?_); (case side1 => repeat (first | exact (Kd.N_reads' HO_6.out).2.2 | with_reducible first | refine Kd.C_alloc ?_ _ | refine Kd.C_drewN ?_ _ | refine Kd.C_drew ?_)); (case side2 => exact (Kd.N_reads' HO_6.out).2.1); rintro e w20 ⟨rfl, hb⟩; refine ⟨_, rfl, ?_⟩; replace HO_0 := vb_ HO_0 hb; replace HO_6 := nb_ HO_6 hb; replace HB := Aside0.mk (bst_ hb); (try clear hb); (try clear hb2); (try clear hk); (try clear hi)))
             go_ret2
             exact ⟨_, by first | rfl | (simp [errW_none, errW_some] <;> rfl) | (simp [*, errW_none, errW_some] <;> rfl), Kd.V_mono (vq_ HO_0) (fun _ hk => hk.1), bsv_⟩
         · rw [if_neg c10] at H
           exact absurd H (by simp)
       · rw [if_neg c9] at H
         exact absurd H (by simp)
     · rw [if_neg c8] at H
       have c8b0 : decide (x19_1 < (l1.length : Int)) = false := decide_eq_false c8
       clear c8
       simp only [Option.some.injEq, Prod.mk.injEq] at H
       obtain ⟨rfl, rfl⟩ := H
       go_wp2
       go_ret2
       exact ⟨_, by first | rfl | (simp [errW_none, errW_some] <;> rfl) | (simp [*, errW_none, errW_some] <;> rfl), Kd.N_V (nq_ HO_6), bsv_⟩
 · replace c5 := Bool.eq_false_iff.mpr c5
   subst c5
   rw [if_neg (show ¬ (false = true) by decide)] at H
   simp only [Option.some.injEq, Prod.mk.injEq] at H
   obtain ⟨rfl, rfl⟩ := H
   go_enter Try.func20, Try.ntmps20
   go_wp2_with (first | ((with_reducible refine gate_callee (f := 44) rfl ?_); refine goesL_ (some 12) rfl rfl Try.func44 (by kernel_rfl) rfl #[.slice A0 l0.length c0] rfl mp_ ?_; (with_reducible refine (slices_Clone.calls (fun k_ => (P0_ k_ ∨ w.heap.size ≤ k_)) _ _ l0 t183 _ ?side1 A3.out).mono ?_); (case side1 => exact HO0.out); rintro e w21 ⟨v184, rfl, ho0, hb⟩; refine ⟨_, rfl, ?_⟩; replace HO0 := Aside0.mk (Kd.V_elder' (vq_ HO0) (Kd.N_base ho0) hb); replace HO185 := Aside0.mk (Kd.N_lower (Kd.N_mono (ok' := fun k_ => (P0_ k_ ∨ w.heap.size ≤ k_)) ho0 (fun k_ hk_ => Or.elim hk_ (fun hs_ => hs_) (fun hn_ => (.inr (Nat.le_trans bsz_ hn_))))) bsz_); replace HB := Aside0.mk (bst_ hb); (try clear hb); (try clear hb2); (try clear hk); (try clear hi); (try clear ho0)) | ((with_reducible refine gate_callee (f := 26) rfl ?_); refine goesL_ (some 14) rfl rfl Try.func26 (by kernel_rfl) rfl #[.slice A0 l0.length c0] rfl mp_ ?_; (with_reducible refine (sleep_Right.calls k _ _ l0 false _ ?side1 ?side2 A4.out).mono ?_); (case side1 => repeat (first | exact (Kd.V_reads' HO0.out).2.2 | with_reducible first | refine Kd.C_alloc ?_ _ | refine Kd.C_drewN ?_ _ | refine Kd.C_drew ?_)); (case side2 => exact (Kd.V_reads' HO0.out).2.1); rintro e w22 ⟨rfl, hb⟩; refine ⟨_, rfl, ?_⟩; replace HO0 := vb_ HO0 hb; replace HO185 := nb_ HO185 hb; replace HB := Aside0.mk (bst_ hb); (try clear hb); (try clear hb2); (try clear hk); (try clear hi)))
   go_ret2
   exact ⟨_, by first | rfl | (simp [errW_none, errW_some] <;> rfl) | (simp [*, errW_none, errW_some] <;> rfl), Kd.V_mono (vq_ HO0) (fun _ hk => hk.1), bsv_⟩

/-! ### sleep_Find: function 23 -/
def sleep_Find.f (k : Nat) (l0 : List (S26)) (a1 : Int) : Option (Int × Int × Int × (List (S62)) × (List (S80)) × Int) := (sleep_Right.f k l0).bind fun t194 => (if t194 = true then ((sleep_place.f k l0 a1).bind fun bt195 => (if bt195.2 = true then (if 0 ≤ bt195.1 then (if bt195.1 < (l0.length : Int) then (some ((rd_T26 l0 bt195.1).f0, (rd_T26 l0 bt195.1).f1, (rd_T26 l0 bt195.1).f2, (rd_T26 l0 bt195.1).f3, (rd_T26 l0 bt195.1).f4, 0)) else (none)) else (none)) else (some (0, 0, 0, ([] : List (S62)), ([] : List (S80)), 3)))) else (some (0, 0, 0, ([] : List (S62)), ([] : List (S80)), 1)))
theorem sleep_Find.mono : ∀ a0 a1 k, LeO (sleep_Find.f k a0 a1) (sleep_Find.f (k + 1) a0 a1) := by
 intro a0 a1 k
 unfold sleep_Find.f
 repeat' first
  | (with_reducible exact sleep_Right.mono _ _)
  | (with_reducible exact sleep_place.mono _ _ _)
  | (with_reducible exact LeO.refl _)
  | (with_reducible exact LeO.none _)
  | (with_reducible refine LeO.ite ?_ ?_)
  | (with_reducible refine LeO.bind ?_ (fun _ => ?_))
  | exact sleep_Right.mono _ _
  | exact sleep_place.mono _ _ _
  | exact LeO.none _
  | refine LeO.ite ?_ ?_
  | refine LeO.bind ?_ (fun _ => ?_)
set_option maxHeartbeats 8000000 in
set_option maxRecDepth 100000 in
theorem sleep_Find.calls (k : Nat) (P0_ : Nat → Prop) (A0 : Option Addr) (c0 : Nat) (l0 : List (S26)) (a1 : Int) (r1 : Int) (r2 : Int) (r3 : Int) (r4 : List (S62)) (r5 : List (S80)) (r6 : Int) (w : World) (hs0 : Kd.V k26 26 w w.heap.size (fun k_ => P0_ k_) (.slice A0 l0.length c0) l0) (h : sleep_Find.f k l0 a1 = some (r1, r2, r3, r4, r5, r6)) :
 Calls Try.prog 23 #[.slice A0 l0.length c0, .int .i64 a1] w fun e w' => ∃ v3_ v4_ : Value, e = .returned (.tuple #[.agg #[.int .i64 r1, .int .i64 r2, .int .i64 r3, v3_, v4_], .int .i64 r6]) ∧ Kd.V k62 62 w' w.heap.size (fun k_ => (P0_ k_ ∨ w.heap.size ≤ k_)) v3_ r4 ∧ Kd.V k80 80 w' w.heap.size (fun k_ => (P0_ k_ ∨ w.heap.size ≤ k_)) v4_ r5 ∧ Below w.heap.size w w' := by
 have hu26 := Try.underlying26
 have HO0 := Aside0.mk (show Kd.V k26 26 w w.heap.size (fun k_ => (P0_ k_ ∨ w.heap.size ≤ k_)) (.slice A0 l0.length c0) l0 from Kd.V_mono hs0 (fun k_ hk => .inl hk))
 have HB := Aside0.mk (Below.refl w.heap.size w)
 have H : ((sleep_Right.f k l0).bind fun t194 => (if t194 = true then ((sleep_place.f k l0 a1).bind fun bt195 => (if bt195.2 = true then (if 0 ≤ bt195.1 then (if bt195.1 < (l0.length : Int) then (some ((rd_T26 l0 bt195.1).f0, (rd_T26 l0 bt195.1).f1, (rd_T26 l0 bt195.1).f2, (rd_T26 l0 bt195.1).f3, (rd_T26 l0 bt195.1).f4, 0)) else (none)) else (none)) else (some (0, 0, 0, ([] : List (S62)), ([] : List (S80)), 3)))) else (some (0, 0, 0, ([] : List (S62)), ([] : List (S80)), 1)))) = some (r1, r2, r3, r4, r5, r6) := h
 clear h
 replace H := Option.bind_eq_some_iff.mp H
 obtain ⟨t194, A30, H⟩ := H
 have A3 := Aside0.mk A30
 clear A30
 by_cases c4 : t194 = true
 · subst c4
   rw [if_pos rfl] at H
   replace H := Option.bind_eq_some_iff.mp H
   obtain ⟨⟨t195, t196⟩, A50, H⟩ := H
   have A5 := Aside0.mk A50
   clear A50
   by_cases c6 : t196 = true
   · subst c6
     rw [if_pos rfl] at H
     by_cases c7 : 0 ≤ t195
     · rw [if_pos c7] at H
       have c7b0 : decide (0 ≤ t195) = true := decide_eq_true c7
       clear c7
       by_cases c8 : t195 < (l0.length : Int)
       · rw [if_pos c8] at H
         have c8b0 : decide (t195 < (l0.length : Int)) = true := decide_eq_true c8
         clear c8
         simp only [Option.some.injEq, Prod.mk.injEq] at H
         obtain ⟨rfl, rfl, rfl, rfl, rfl, rfl⟩ := H
         go_enter Try.func23, Try.ntmps23
         go_wp2_with (first | ((with_reducible refine gate_dst (N := 4) rfl ?_); refine box_event ?hg (N := 4) ?hd (cs := #[.int .i64 0, .int .i64 0, .int .i64 0, .slice none 0 0, .slice none 0 0]) (t := 26) ?hr ?_; (case hd => rfl); (case hg => rfl); (case hr => first | (go_simp; done) | (go_simp; rfl)); intro gb193 hg w9 hbox hb; replace HO0 := Aside0.mk (Kd.V_below (Kd.V_elderB (vq_ HO0) gb193 (Nat.le_of_eq hg.symm)) hb); replace BK193 := Aside0.mk (hbox); replace GW193 := Aside0.mk ((by rw [hg]; exact bsz_ : w.heap.size ≤ gb193)); replace HB := Aside0.mk (bst_ hb); replace GE193 := GW193; clear hb hbox hg) | ((with_reducible refine gate_callee (f := 26) rfl ?_); refine goesL_ (some 9) rfl rfl Try.func26 (by kernel_rfl) rfl #[.slice A0 l0.length c0] rfl mp_ ?_; (with_reducible refine (sleep_Right.calls k _ _ l0 true _ ?side1 ?side2 A3.out).mono ?_); (case side1 => repeat (first | exact (Kd.V_reads' HO0.out).2.2 | with_reducible first | refine Kd.C_alloc ?_ _ | refine Kd.C_drewN ?_ _ | refine Kd.C_drew ?_)); (case side2 => exact (Kd.V_reads' HO0.out).2.1); rintro e w10 ⟨rfl, hb⟩; refine ⟨_, rfl, ?_⟩; replace HO0 := vb_ HO0 hb; replace BK193 := bb_ BK193 hb; replace HB := Aside0.mk (below_step bsw_ hb); (try clear hb); (try clear hb2); (try clear hk); (try clear hi)) | ((with_reducible refine gate_callee (f := 42) rfl ?_); refine goesL_ (some 15) rfl rfl Try.func42 (by kernel_rfl) rfl #[.slice A0 l0.length c0, .int .i64 a1] rfl mp_ ?_; (with_reducible refine (sleep_place.calls k _ _ l0 a1 t195 true _ ?side1 ?side2 A5.out).mono ?_); (case side1 => repeat (first | exact (Kd.V_reads' HO0.out).2.2 | with_reducible first | refine Kd.C_alloc ?_ _ | refine Kd.C_drewN ?_ _ | refine Kd.C_drew ?_)); (case side2 => exact (Kd.V_reads' HO0.out).2.1); rintro e w11 ⟨rfl, hb⟩; refine ⟨_, rfl, ?_⟩; replace HO0 := vb_ HO0 hb; replace BK193 := bb_ BK193 hb; replace HB := Aside0.mk (below_step bsw_ hb); (try clear hb); (try clear hb2); (try clear hk); (try clear hi); have p197 : 0 ≤ (t195 : Int) := oda_; have q197 : t195 < (l0.length : Int) := oda_; obtain ⟨ad197, A197_3, c197_3, A197_4, c197_4, e197, hx197_0, hx197_1, hx197_2, hx197_3, hx197_4, hl197_3, hi197_3, hl197_4, hi197_4⟩ := at_T26 (Kd.V_reads' HO0.out).2.2 t195 p197 q197; cases e197; obtain ⟨ce197, hce197, hMe197, hcc197⟩ := Kd.V_get HO0.out z26 t195 p197 (by first | exact q197 | exact oda_ | (have e_ := (Kd.V_reads' HO0.out).1; omega)); obtain ⟨ua197_3, uc197_3, ua197_4, uc197_4, rfl, ul197_3, ge197_3, ul197_4, ge197_4⟩ := k26_openF hMe197; have hv197_3 := hcc197 3 _ rfl; rw [add_field _ _ 3 (by omega)] at hv197_3; replace hv197_3 := Option.some.inj (hv197_3.symm.trans hx197_3); injection hv197_3 with hva_ hvn_ hvc_; rw [hva_] at ge197_3; rw [hvc_] at ul197_3; have HL197_3 := Aside0.mk (show Kd.V k62 62 _ w.heap.size _ _ ((rd_T26 l0 t195).f3) from Kd.V_mk ul197_3 ge197_3); clear hva_ hvn_ hvc_ ge197_3 ul197_3; have hv197_4 := hcc197 4 _ rfl; rw [add_field _ _ 4 (by omega)] at hv197_4; replace hv197_4 := Option.some.inj (hv197_4.symm.trans hx197_4); injection hv197_4 with hva_ hvn_ hvc_; rw [hva_] at ge197_4; rw [hvc_] at ul197_4; have HL197_4 := Aside0.mk (show Kd.V k80 80 _ w.heap.size _ _ ((rd_T26 l0 t195).f4) from Kd.V_mk ul197_4 ge197_4); clear hva_ hvn_ hvc_ ge197_4 ul197_4; clear hcc197 hce197; have HR197_3 := Aside0.mk hi197_3; have HC197_3 := Aside0.mk hl197_3; clear hi197_3 hl197_3; have HR197_4 := Aside0.mk hi197_4; have HC197_4 := Aside0.mk hl197_4; clear hi197_4 hl197_4; replace p197 := eq_true p197; replace q197 := eq_true q197; have hcz12_0 : w11.cell? ⟨gb193, 0, none⟩ = some (.int .i64 0) := (blk_cell BK193.out 0).trans rfl; have hcz12_1 : w11.cell? ⟨gb193, 1, none⟩ = some (.int .i64 0) := (blk_cell BK193.out 1).trans rfl; have hcz12_2 : w11.cell? ⟨gb193, 2, none⟩ = some (.int .i64 0) := (blk_cell BK193.out 2).trans rfl; have hcz12_3 : w11.cell? ⟨gb193, 3, none⟩ = some (.slice none 0 0) := (blk_cell BK193.out 3).trans rfl; have hcz12_4 : w11.cell? ⟨gb193, 4, none⟩ = some (.slice none 0 0) := (blk_cell BK193.out 4).trans rfl; have hfz12_0 := blk_frozen BK193.out 0; have hfz12_1 := blk_frozen BK193.out 1; have hfz12_2 := blk_frozen BK193.out 2; have hfz12_3 := blk_frozen BK193.out 3; have hfz12_4 := blk_frozen BK193.out 4))
         refine bodyPost_ret (results_ct rfl _ _ gb193 26 #[.int .i64 ((rd_T26 l0 t195).f0), .int .i64 ((rd_T26 l0 t195).f1), .int .i64 ((rd_T26 l0 t195).f2), .slice A197_3 ((rd_T26 l0 t195).f3).length c197_3, .slice A197_4 ((rd_T26 l0 t195).f4).length c197_4] (0, 0) _ rfl (by (with_reducible repeat (first | refine blk_drewN ?_ _ | refine blk_drew ?_ | refine blk_alloc ?_ _)); refine blk_put (cs := #[.int .i64 ((rd_T26 l0 t195).f0), .int .i64 ((rd_T26 l0 t195).f1), .int .i64 ((rd_T26 l0 t195).f2), .slice A197_3 ((rd_T26 l0 t195).f3).length c197_3, .slice none 0 0]) ?_ 4 _ rfl; (with_reducible repeat (first | refine blk_drewN ?_ _ | refine blk_drew ?_ | refine blk_alloc ?_ _)); refine blk_put (cs := #[.int .i64 ((rd_T26 l0 t195).f0), .int .i64 ((rd_T26 l0 t195).f1), .int .i64 ((rd_T26 l0 t195).f2), .slice none 0 0, .slice none 0 0]) ?_ 3 _ rfl; (with_reducible repeat (first | refine blk_drewN ?_ _ | refine blk_drew ?_ | refine blk_alloc ?_ _)); refine blk_put (cs := #[.int .i64 ((rd_T26 l0 t195).f0), .int .i64 ((rd_T26 l0 t195).f1), .int .i64 0, .slice none 0 0, .slice none 0 0]) ?_ 2 _ rfl; (with_reducible repeat (first | refine blk_drewN ?_ _ | refine blk_drew ?_ | refine blk_alloc ?_ _)); refine blk_put (cs := #[.int .i64 ((rd_T26 l0 t195).f0), .int .i64 0, .int .i64 0, .slice none 0 0, .slice none 0 0]) ?_ 1 _ rfl; (with_reducible repeat (first | refine blk_drewN ?_ _ | refine blk_drew ?_ | refine blk_alloc ?_ _)); refine blk_put (cs := #[.int .i64 0, .int .i64 0, .int .i64 0, .slice none 0 0, .slice none 0 0]) ?_ 0 _ rfl; (with_reducible repeat (first | refine blk_drewN ?_ _ | refine blk_drew ?_ | refine blk_alloc ?_ _)); exact BK193.out) Try.underlying26 rfl (by kernel_rfl)) rfl ?_
         exact ⟨_, _, by first | rfl | (simp [errW_none, errW_some] <;> rfl) | (simp [*, errW_none, errW_some] <;> rfl), by (with_reducible repeat (first | apply Kd.V_alloc | apply Kd.V_drewN | apply Kd.V_drew)); exact Kd.V_mono (Kd.V_far (p := ⟨gb193, 4, none⟩) (Kd.V_far (p := ⟨gb193, 3, none⟩) (Kd.V_far (p := ⟨gb193, 2, none⟩) (Kd.V_far (p := ⟨gb193, 1, none⟩) (Kd.V_far (p := ⟨gb193, 0, none⟩) (Kd.V_mono HL197_3.out (fun k_ hk => (⟨hk, hk.2⟩ : _ ∧ k_ ≠ gb193))) (fun _ hk => hk.2) (.int .i64 ((rd_T26 l0 t195).f0))) (fun _ hk => hk.2) (.int .i64 ((rd_T26 l0 t195).f1))) (fun _ hk => hk.2) (.int .i64 ((rd_T26 l0 t195).f2))) (fun _ hk => hk.2) (.slice A197_3 ((rd_T26 l0 t195).f3).length c197_3)) (fun _ hk => hk.2) (.slice A197_4 ((rd_T26 l0 t195).f4).length c197_4)) (fun _ hk => hk.1.1), by (with_reducible repeat (first | apply Kd.V_alloc | apply Kd.V_drewN | apply Kd.V_drew)); exact Kd.V_mono (Kd.V_far (p := ⟨gb193, 4, none⟩) (Kd.V_far (p := ⟨gb193, 3, none⟩) (Kd.V_far (p := ⟨gb193, 2, none⟩) (Kd.V_far (p := ⟨gb193, 1, none⟩) (Kd.V_far (p := ⟨gb193, 0, none⟩) (Kd.V_mono HL197_4.out (fun k_ hk => (⟨hk, hk.2⟩ : _ ∧ k_ ≠ gb193))) (fun _ hk => hk.2) (.int .i64 ((rd_T26 l0 t195).f0))) (fun _ hk => hk.2) (.int .i64 ((rd_T26 l0 t195).f1))) (fun _ hk => hk.2) (.int .i64 ((rd_T26 l0 t195).f2))) (fun _ hk => hk.2) (.slice A197_3 ((rd_T26 l0 t195).f3).length c197_3)) (fun _ hk => hk.2) (.slice A197_4 ((rd_T26 l0 t195).f4).length c197_4)) (fun _ hk => hk.1.1), bsw_⟩
       · rw [if_neg c8] at H
         exact absurd H (by simp)
     · rw [if_neg c7] at H
       exact absurd H (by simp)
   · replace c6 := Bool.eq_false_iff.mpr c6
     subst c6
     rw [if_neg (show ¬ (false = true) by decide)] at H
     simp only [Option.some.injEq, Prod.mk.injEq] at H
     obtain ⟨rfl, rfl, rfl, rfl, rfl, rfl⟩ := H
     go_enter Try.func23, Try.ntmps23
     go_wp2_with (first | ((with_reducible refine gate_dst (N := 4) rfl ?_); refine box_event ?hg (N := 4) ?hd (cs := #[.int .i64 0, .int .i64 0, .int .i64 0, .slice none 0 0, .slice none 0 0]) (t := 26) ?hr ?_; (case hd => rfl); (case hg => rfl); (case hr => first | (go_simp; done) | (go_simp; rfl)); intro gb193 hg w13 hbox hb; replace HO0 := Aside0.mk (Kd.V_below (Kd.V_elderB (vq_ HO0) gb193 (Nat.le_of_eq hg.symm)) hb); replace BK193 := Aside0.mk (hbox); replace GW193 := Aside0.mk ((by rw [hg]; exact bsz_ : w.heap.size ≤ gb193)); replace HB := Aside0.mk (bst_ hb); replace GE193 := GW193; clear hb hbox hg) | ((with_reducible refine gate_callee (f := 26) rfl ?_); refine goesL_ (some 9) rfl rfl Try.func26 (by kernel_rfl) rfl #[.slice A0 l0.length c0] rfl mp_ ?_; (with_reducible refine (sleep_Right.calls k _ _ l0 true _ ?side1 ?side2 A3.out).mono ?_); (case side1 => repeat (first | exact (Kd.V_reads' HO0.out).2.2 | with_reducible first | refine Kd.C_alloc ?_ _ | refine Kd.C_drewN ?_ _ | refine Kd.C_drew ?_)); (case side2 => exact (Kd.V_reads' HO0.out).2.1); rintro e w14 ⟨rfl, hb⟩; refine ⟨_, rfl, ?_⟩; replace HO0 := vb_ HO0 hb; replace BK193 := bb_ BK193 hb; replace HB := Aside0.mk (below_step bsw_ hb); (try clear hb); (try clear hb2); (try clear hk); (try clear hi)) | ((with_reducible refine gate_callee (f := 42) rfl ?_); refine goesL_ (some 15) rfl rfl Try.func42 (by kernel_rfl) rfl #[.slice A0 l0.length c0, .int .i64 a1] rfl mp_ ?_; (with_reducible refine (sleep_place.calls k _ _ l0 a1 t195 false _ ?side1 ?side2 A5.out).mono ?_); (case side1 => repeat (first | exact (Kd.V_reads' HO0.out).2.2 | with_reducible first | refine Kd.C_alloc ?_ _ | refine Kd.C_drewN ?_ _ | refine Kd.C_drew ?_)); (case side2 => exact (Kd.V_reads' HO0.out).2.1); rintro e w15 ⟨rfl, hb⟩; refine ⟨_, rfl, ?_⟩; replace HO0 := vb_ HO0 hb; replace BK193 := bb_ BK193 hb; replace HB := Aside0.mk (below_step bsw_ hb); (try clear hb); (try clear hb2); (try clear hk); (try clear hi); have hcz16_0 : w15.cell? ⟨gb193, 0, none⟩ = some (.int .i64 0) := (blk_cell BK193.out 0).trans rfl; have hcz16_1 : w15.cell? ⟨gb193, 1, none⟩ = some (.int .i64 0) := (blk_cell BK193.out 1).trans rfl; have hcz16_2 : w15.cell? ⟨gb193, 2, none⟩ = some (.int .i64 0) := (blk_cell BK193.out 2).trans rfl; have hcz16_3 : w15.cell? ⟨gb193, 3, none⟩ = some (.slice none 0 0) := (blk_cell BK193.out 3).trans rfl; have hcz16_4 : w15.cell? ⟨gb193, 4, none⟩ = some (.slice none 0 0) := (blk_cell BK193.out 4).trans rfl; have hfz16_0 := blk_frozen BK193.out 0; have hfz16_1 := blk_frozen BK193.out 1; have hfz16_2 := blk_frozen BK193.out 2; have hfz16_3 := blk_frozen BK193.out 3; have hfz16_4 := blk_frozen BK193.out 4))
     refine bodyPost_ret (results_ct rfl _ _ gb193 26 #[.int .i64 0, .int .i64 0, .int .i64 0, .slice none 0 0, .slice none 0 0] (0, 0) _ rfl (by (with_reducible repeat (first | refine blk_drewN ?_ _ | refine blk_drew ?_ | refine blk_alloc ?_ _)); refine blk_put (cs := #[.int .i64 0, .int .i64 0, .int .i64 0, .slice none 0 0, .slice none 0 0]) ?_ 4 _ rfl; (with_reducible repeat (first | refine blk_drewN ?_ _ | refine blk_drew ?_ | refine blk_alloc ?_ _)); refine blk_put (cs := #[.int .i64 0, .int .i64 0, .int .i64 0, .slice none 0 0, .slice none 0 0]) ?_ 3 _ rfl; (with_reducible repeat (first | refine blk_drewN ?_ _ | refine blk_drew ?_ | refine blk_alloc ?_ _)); refine blk_put (cs := #[.int .i64 0, .int .i64 0, .int .i64 0, .slice none 0 0, .slice none 0 0]) ?_ 2 _ rfl; (with_reducible repeat (first | refine blk_drewN ?_ _ | refine blk_drew ?_ | refine blk_alloc ?_ _)); refine blk_put (cs := #[.int .i64 0, .int .i64 0, .int .i64 0, .slice none 0 0, .slice none 0 0]) ?_ 1 _ rfl; (with_reducible repeat (first | refine blk_drewN ?_ _ | refine blk_drew ?_ | refine blk_alloc ?_ _)); refine blk_put (cs := #[.int .i64 0, .int .i64 0, .int .i64 0, .slice none 0 0, .slice none 0 0]) ?_ 0 _ rfl; (with_reducible repeat (first | refine blk_drewN ?_ _ | refine blk_drew ?_ | refine blk_alloc ?_ _)); exact BK193.out) Try.underlying26 rfl (by kernel_rfl)) rfl ?_
     exact ⟨_, _, by first | rfl | (simp [errW_none, errW_some] <;> rfl) | (simp [*, errW_none, errW_some] <;> rfl), Kd.V_mono (Kd.V_nil _ _ _ _ _) (fun k_ hk => by first | exact ⟨(.inr (hk.1)), hk.2⟩ | exact (.inr (hk))), Kd.V_mono (Kd.V_nil _ _ _ _ _) (fun k_ hk => by first | exact ⟨(.inr (hk.1)), hk.2⟩ | exact (.inr (hk))), bsw_⟩
 · replace c4 := Bool.eq_false_iff.mpr c4
   subst c4
   rw [if_neg (show ¬ (false = true) by decide)] at H
   simp only [Option.some.injEq, Prod.mk.injEq] at H
   obtain ⟨rfl, rfl, rfl, rfl, rfl, rfl⟩ := H
   go_enter Try.func23, Try.ntmps23
   go_wp2_with (first | ((with_reducible refine gate_dst (N := 4) rfl ?_); refine box_event ?hg (N := 4) ?hd (cs := #[.int .i64 0, .int .i64 0, .int .i64 0, .slice none 0 0, .slice none 0 0]) (t := 26) ?hr ?_; (case hd => rfl); (case hg => rfl); (case hr => first | (go_simp; done) | (go_simp; rfl)); intro gb193 hg w17 hbox hb; replace HO0 := Aside0.mk (Kd.V_below (Kd.V_elderB (vq_ HO0) gb193 (Nat.le_of_eq hg.symm)) hb); replace BK193 := Aside0.mk (hbox); replace GW193 := Aside0.mk ((by rw [hg]; exact bsz_ : w.heap.size ≤ gb193)); replace HB := Aside0.mk (bst_ hb); replace GE193 := GW193; clear hb hbox hg) | ((with_reducible refine gate_callee (f := 26) rfl ?_); refine goesL_ (some 9) rfl rfl Try.func26 (by kernel_rfl) rfl #[.slice A0 l0.length c0] rfl mp_ ?_; (with_reducible refine (sleep_Right.calls k _ _ l0 false _ ?side1 ?side2 A3.out).mono ?_); (case side1 => repeat (first | exact (Kd.V_reads' HO0.out).2.2 | with_reducible first | refine Kd.C_alloc ?_ _ | refine Kd.C_drewN ?_ _ | refine Kd.C_drew ?_)); (case side2 => exact (Kd.V_reads' HO0.out).2.1); rintro e w18 ⟨rfl, hb⟩; refine ⟨_, rfl, ?_⟩; replace HO0 := vb_ HO0 hb; replace BK193 := bb_ BK193 hb; replace HB := Aside0.mk (below_step bsw_ hb); (try clear hb); (try clear hb2); (try clear hk); (try clear hi); have hcz19_0 : w18.cell? ⟨gb193, 0, none⟩ = some (.int .i64 0) := (blk_cell BK193.out 0).trans rfl; have hcz19_1 : w18.cell? ⟨gb193, 1, none⟩ = some (.int .i64 0) := (blk_cell BK193.out 1).trans rfl; have hcz19_2 : w18.cell? ⟨gb193, 2, none⟩ = some (.int .i64 0) := (blk_cell BK193.out 2).trans rfl; have hcz19_3 : w18.cell? ⟨gb193, 3, none⟩ = some (.slice none 0 0) := (blk_cell BK193.out 3).trans rfl; have hcz19_4 : w18.cell? ⟨gb193, 4, none⟩ = some (.slice none 0 0) := (blk_cell BK193.out 4).trans rfl; have hfz19_0 := blk_frozen BK193.out 0; have hfz19_1 := blk_frozen BK193.out 1; have hfz19_2 := blk_frozen BK193.out 2; have hfz19_3 := blk_frozen BK193.out 3; have hfz19_4 := blk_frozen BK193.out 4))
   refine bodyPost_ret (results_ct rfl _ _ gb193 26 #[.int .i64 0, .int .i64 0, .int .i64 0, .slice none 0 0, .slice none 0 0] (0, 0) _ rfl (by (with_reducible repeat (first | refine blk_drewN ?_ _ | refine blk_drew ?_ | refine blk_alloc ?_ _)); refine blk_put (cs := #[.int .i64 0, .int .i64 0, .int .i64 0, .slice none 0 0, .slice none 0 0]) ?_ 4 _ rfl; (with_reducible repeat (first | refine blk_drewN ?_ _ | refine blk_drew ?_ | refine blk_alloc ?_ _)); refine blk_put (cs := #[.int .i64 0, .int .i64 0, .int .i64 0, .slice none 0 0, .slice none 0 0]) ?_ 3 _ rfl; (with_reducible repeat (first | refine blk_drewN ?_ _ | refine blk_drew ?_ | refine blk_alloc ?_ _)); refine blk_put (cs := #[.int .i64 0, .int .i64 0, .int .i64 0, .slice none 0 0, .slice none 0 0]) ?_ 2 _ rfl; (with_reducible repeat (first | refine blk_drewN ?_ _ | refine blk_drew ?_ | refine blk_alloc ?_ _)); refine blk_put (cs := #[.int .i64 0, .int .i64 0, .int .i64 0, .slice none 0 0, .slice none 0 0]) ?_ 1 _ rfl; (with_reducible repeat (first | refine blk_drewN ?_ _ | refine blk_drew ?_ | refine blk_alloc ?_ _)); refine blk_put (cs := #[.int .i64 0, .int .i64 0, .int .i64 0, .slice none 0 0, .slice none 0 0]) ?_ 0 _ rfl; (with_reducible repeat (first | refine blk_drewN ?_ _ | refine blk_drew ?_ | refine blk_alloc ?_ _)); exact BK193.out) Try.underlying26 rfl (by kernel_rfl)) rfl ?_
   exact ⟨_, _, by first | rfl | (simp [errW_none, errW_some] <;> rfl) | (simp [*, errW_none, errW_some] <;> rfl), Kd.V_mono (Kd.V_nil _ _ _ _ _) (fun k_ hk => by first | exact ⟨(.inr (hk.1)), hk.2⟩ | exact (.inr (hk))), Kd.V_mono (Kd.V_nil _ _ _ _ _) (fun k_ hk => by first | exact ⟨(.inr (hk.1)), hk.2⟩ | exact (.inr (hk))), bsw_⟩

end Go.Proofs.Ytjnkpocfmpbpoaa.Se
