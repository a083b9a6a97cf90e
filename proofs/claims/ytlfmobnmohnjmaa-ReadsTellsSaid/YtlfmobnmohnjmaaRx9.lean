-- PRINTED by print.py (a twelfth state) out of the translation. Not trusted: Lean checks it.
import Derived.Test.YtlfmobnmohnjmaaRx0
import Derived.Test.YtlfmobnmohnjmaaRx1
import Derived.Test.YtlfmobnmohnjmaaRx2
import Derived.Test.YtlfmobnmohnjmaaRx3
import Derived.Test.YtlfmobnmohnjmaaRx4
import Derived.Test.YtlfmobnmohnjmaaRx5
import Derived.Test.YtlfmobnmohnjmaaRx6
import Derived.Test.YtlfmobnmohnjmaaRx7
import Derived.Test.YtlfmobnmohnjmaaRx8
namespace Go.Proofs.Ytlfmobnmohnjmaa.R
open Go.Proofs.Ytlfmobnmohnjmaa.Ho
open Go.RowKit Go.Proofs.YtlfmobnmohnjmaaW.PrintWords Go.Proofs.YtlfmobnmohnjmaaW.PrintLast Go.Proofs.YtlfmobnmohnjmaaW.PrintMore
attribute [local go_sem] max2_int min2_int max_two min_two max_three min_three max_four min_four   -- for this text's walks alone
set_option linter.unusedVariables false
set_option linter.unusedSimpArgs false

attribute [local go_sem high] eqA24
/-! ### handshakerlaw05_ReadsTells: function 3 -/
mutual
def handshakerlaw05_ReadsTells.j0 : Nat → List (S24) → List (S24) → Int → List (S24) → Int → Bool → Bool → Int → List Int → Bool → Int → Int → Int → Int → Int → Int → Option (Bool)
 | 0, _, _, _, _, _, _, _, _, _, _, _, _, _, _, _, _ => none
 | k + 1, x0, x7, x8, x9, x10, x12, x13, x14, x16, x49, x250000, x250001, x250002, x253000, x253001, x253002 => if x49 = true then (if 0 ≤ x14 then (if x14 < (x0.length : Int) then (handshakerlaw05_ReadsTells.j1 k x0 x7 x8 x9 x10 x12 x13 x14 x16 x250000 x250001 x250002 ((rd_T24 x0 x14).f0) ((rd_T24 x0 x14).f1) ((rd_T24 x0 x14).f2)) else (none)) else (none)) else (handshakerlaw05_ReadsTells.j1 k x0 x7 x8 x9 x10 x12 x13 x14 x16 x250000 x250001 x250002 x253000 x253001 x253002)
def handshakerlaw05_ReadsTells.j1 : Nat → List (S24) → List (S24) → Int → List (S24) → Int → Bool → Bool → Int → List Int → Int → Int → Int → Int → Int → Int → Option (Bool)
 | 0, _, _, _, _, _, _, _, _, _, _, _, _, _, _, _ => none
 | k + 1, x0, x7, x8, x9, x10, x12, x13, x14, x16, x250000, x250001, x250002, x253000, x253001, x253002 => if x13 = true then ((handshakerref05_Cells.f k x0).bind fun t254 => (handshakerlaw05_ReadsTells.j2 k x0 x7 x8 x9 x10 x12 x13 x14 t254 x250000 x250001 x250002 x253000 x253001 x253002)) else (handshakerlaw05_ReadsTells.j2 k x0 x7 x8 x9 x10 x12 x13 x14 x16 x250000 x250001 x250002 x253000 x253001 x253002)
def handshakerlaw05_ReadsTells.j2 : Nat → List (S24) → List (S24) → Int → List (S24) → Int → Bool → Bool → Int → List Int → Int → Int → Int → Int → Int → Int → Option (Bool)
 | 0, _, _, _, _, _, _, _, _, _, _, _, _, _, _, _ => none
 | k + 1, x0, x7, x8, x9, x10, x12, x13, x14, x16, x250000, x250001, x250002, x253000, x253001, x253002 => (reads_Right.f k x0).bind fun t257 => (if t257 = true then (if x13 = true then ((handshakerref05_Same.f k x7 x9).bind fun t258 => (if t258 = true then (if x8 = x10 then (if (x250000 == x253000 && (x250001 == x253001 && (x250002 == x253002))) = true then (if x12 = true then (if x14 ≥ 0 then ((reads_Cells.f k x0).bind fun t259 => ((handshakerref03_Numbers.f k t259 x16).bind fun t262 => (if t262 = true then ((handshakerlaw05_awake.f k).bind fun t263 => (some t263)) else (some false)))) else (some false)) else (if x14 ≥ 0 then (some false) else ((reads_Cells.f k x0).bind fun t264 => ((handshakerref03_Numbers.f k t264 x16).bind fun t267 => (if t267 = true then ((handshakerlaw05_awake.f k).bind fun t268 => (some t268)) else (some false)))))) else (some false)) else (some false)) else (some false))) else (some false)) else (if x13 = true then (some false) else ((handshakerref05_Same.f k x7 x9).bind fun t269 => (if t269 = true then (if x8 = x10 then (if (x250000 == x253000 && (x250001 == x253001 && (x250002 == x253002))) = true then (if x12 = true then (some false) else ((reads_Cells.f k x0).bind fun t270 => ((handshakerref03_Numbers.f k t270 x16).bind fun t273 => (if t273 = true then ((handshakerlaw05_awake.f k).bind fun t274 => (some t274)) else (some false))))) else (some false)) else (some false)) else (some false)))))
end
def handshakerlaw05_ReadsTells.f (k : Nat) (l0 : List (S24)) (a1_0 : Int) (a1_1 : Int) (a1_2 : Int) (a2 : Int) : Option (Bool) := if (l0.length : Int) > 40 then ((handshakerlaw05_awake.f k).bind fun t236 => (some t236)) else ((reads_Add.f k l0 a1_0 a1_1 a1_2).bind fun bt237 => ((handshakerref05_Add.f k l0 a1_0 a1_1 a1_2).bind fun bt241 => ((reads_Find.f k l0 a2).bind fun bt245 => ((handshakerref05_Right.f k l0).bind fun t250 => ((handshakerref05_Find.f k l0 a2).bind fun t251 => (if t250 = true then (handshakerlaw05_ReadsTells.j0 k l0 bt237.1 bt237.2 bt241.1 bt241.2 bt245.2.2.2 t250 t251 ([] : List Int) (decide (t251 ≥ 0)) bt245.1 bt245.2.1 bt245.2.2.1 0 0 0) else (handshakerlaw05_ReadsTells.j0 k l0 bt237.1 bt237.2 bt241.1 bt241.2 bt245.2.2.2 t250 t251 ([] : List Int) false bt245.1 bt245.2.1 bt245.2.2.1 0 0 0)))))))
theorem handshakerlaw05_ReadsTells.mono_l : ∀ k, (∀ y0 y1 y2 y3 y4 y5 y6 y7 y8 y9 y10 y11 y12 y13 y14 y15, LeO (handshakerlaw05_ReadsTells.j0 k y0 y1 y2 y3 y4 y5 y6 y7 y8 y9 y10 y11 y12 y13 y14 y15) (handshakerlaw05_ReadsTells.j0 (k + 1) y0 y1 y2 y3 y4 y5 y6 y7 y8 y9 y10 y11 y12 y13 y14 y15)) ∧ (∀ y0 y1 y2 y3 y4 y5 y6 y7 y8 y9 y10 y11 y12 y13 y14, LeO (handshakerlaw05_ReadsTells.j1 k y0 y1 y2 y3 y4 y5 y6 y7 y8 y9 y10 y11 y12 y13 y14) (handshakerlaw05_ReadsTells.j1 (k + 1) y0 y1 y2 y3 y4 y5 y6 y7 y8 y9 y10 y11 y12 y13 y14)) ∧ (∀ y0 y1 y2 y3 y4 y5 y6 y7 y8 y9 y10 y11 y12 y13 y14, LeO (handshakerlaw05_ReadsTells.j2 k y0 y1 y2 y3 y4 y5 y6 y7 y8 y9 y10 y11 y12 y13 y14) (handshakerlaw05_ReadsTells.j2 (k + 1) y0 y1 y2 y3 y4 y5 y6 y7 y8 y9 y10 y11 y12 y13 y14))
 | 0 => ⟨fun _ _ _ _ _ _ _ _ _ _ _ _ _ _ _ _ r h => by simp [handshakerlaw05_ReadsTells.j0] at h, fun _ _ _ _ _ _ _ _ _ _ _ _ _ _ _ r h => by simp [handshakerlaw05_ReadsTells.j1] at h, fun _ _ _ _ _ _ _ _ _ _ _ _ _ _ _ r h => by simp [handshakerlaw05_ReadsTells.j2] at h⟩
 | k + 1 => by
  obtain ⟨ih0, ih1, ih2⟩ := handshakerlaw05_ReadsTells.mono_l k
  refine ⟨?_, ?_, ?_⟩
  · intro y0 y1 y2 y3 y4 y5 y6 y7 y8 y9 y10 y11 y12 y13 y14 y15
    unfold handshakerlaw05_ReadsTells.j0
    repeat' first
    | (with_reducible exact ih0 _ _ _ _ _ _ _ _ _ _ _ _ _ _ _ _)
    | (with_reducible exact ih1 _ _ _ _ _ _ _ _ _ _ _ _ _ _ _)
    | (with_reducible exact ih2 _ _ _ _ _ _ _ _ _ _ _ _ _ _ _)
    | (with_reducible exact handshakerlaw05_awake.mono _)
    | (with_reducible exact handshakerref03_Numbers.mono _ _ _)
    | (with_reducible exact handshakerref05_Add.mono _ _ _ _ _)
    | (with_reducible exact handshakerref05_Cells.mono _ _)
    | (with_reducible exact handshakerref05_Find.mono _ _ _)
    | (with_reducible exact handshakerref05_Right.mono _ _)
    | (with_reducible exact handshakerref05_Same.mono _ _ _)
    | (with_reducible exact reads_Add.mono _ _ _ _ _)
    | (with_reducible exact reads_Cells.mono _ _)
    | (with_reducible exact reads_Find.mono _ _ _)
    | (with_reducible exact reads_Right.mono _ _)
    | (with_reducible exact LeO.refl _)
    | (with_reducible exact LeO.none _)
    | (with_reducible refine LeO.ite ?_ ?_)
    | (with_reducible refine LeO.bind ?_ (fun _ => ?_))
    | exact ih0 _ _ _ _ _ _ _ _ _ _ _ _ _ _ _ _
    | exact ih1 _ _ _ _ _ _ _ _ _ _ _ _ _ _ _
    | exact ih2 _ _ _ _ _ _ _ _ _ _ _ _ _ _ _
    | exact handshakerlaw05_awake.mono _
    | exact handshakerref03_Numbers.mono _ _ _
    | exact handshakerref05_Add.mono _ _ _ _ _
    | exact handshakerref05_Cells.mono _ _
    | exact handshakerref05_Find.mono _ _ _
    | exact handshakerref05_Right.mono _ _
    | exact handshakerref05_Same.mono _ _ _
    | exact reads_Add.mono _ _ _ _ _
    | exact reads_Cells.mono _ _
    | exact reads_Find.mono _ _ _
    | exact reads_Right.mono _ _
    | exact LeO.none _
    | refine LeO.ite ?_ ?_
    | refine LeO.bind ?_ (fun _ => ?_)
  · intro y0 y1 y2 y3 y4 y5 y6 y7 y8 y9 y10 y11 y12 y13 y14
    unfold handshakerlaw05_ReadsTells.j1
    repeat' first
    | (with_reducible exact ih0 _ _ _ _ _ _ _ _ _ _ _ _ _ _ _ _)
    | (with_reducible exact ih1 _ _ _ _ _ _ _ _ _ _ _ _ _ _ _)
    | (with_reducible exact ih2 _ _ _ _ _ _ _ _ _ _ _ _ _ _ _)
    | (with_reducible exact handshakerlaw05_awake.mono _)
    | (with_reducible exact handshakerref03_Numbers.mono _ _ _)
    | (with_reducible exact handshakerref05_Add.mono _ _ _ _ _)
    | (with_reducible exact handshakerref05_Cells.mono _ _)
    | (with_reducible exact handshakerref05_Find.mono _ _ _)
    | (with_reducible exact handshakerref05_Right.mono _ _)
    | (with_reducible exact handshakerref05_Same.mono _ _ _)
    | (with_reducible exact reads_Add.mono _ _ _ _ _)
    | (with_reducible exact reads_Cells.mono _ _)
    | (with_reducible exact reads_Find.mono _ _ _)
    | (with_reducible exact reads_Right.mono _ _)
    | (with_reducible exact LeO.refl _)
    | (with_reducible exact LeO.none _)
    | (with_reducible refine LeO.ite ?_ ?_)
    | (with_reducible refine LeO.bind ?_ (fun _ => ?_))
    | exact ih0 _ _ _ _ _ _ _ _ _ _ _ _ _ _ _ _
    | exact ih1 _ _ _ _ _ _ _ _ _ _ _ _ _ _ _
    | exact ih2 _ _ _ _ _ _ _ _ _ _ _ _ _ _ _
    | exact handshakerlaw05_awake.mono _
    | exact handshakerref03_Numbers.mono _ _ _
    | exact handshakerref05_Add.mono _ _ _ _ _
    | exact handshakerref05_Cells.mono _ _
    | exact handshakerref05_Find.mono _ _ _
    | exact handshakerref05_Right.mono _ _
    | exact handshakerref05_Same.mono _ _ _
    | exact reads_Add.mono _ _ _ _ _
    | exact reads_Cells.mono _ _
    | exact reads_Find.mono _ _ _
    | exact reads_Right.mono _ _
    | exact LeO.none _
    | refine LeO.ite ?_ ?_
    | refine LeO.bind ?_ (fun _ => ?_)
  · intro y0 y1 y2 y3 y4 y5 y6 y7 y8 y9 y10 y11 y12 y13 y14
    unfold handshakerlaw05_ReadsTells.j2
    repeat' first
    | (with_reducible exact ih0 _ _ _ _ _ _ _ _ _ _ _ _ _ _ _ _)
    | (with_reducible exact ih1 _ _ _ _ _ _ _ _ _ _ _ _ _ _ _)
    | (with_reducible exact ih2 _ _ _ _ _ _ _ _ _ _ _ _ _ _ _)
    | (with_reducible exact handshakerlaw05_awake.mono _)
    | (with_reducible exact handshakerref03_Numbers.mono _ _ _)
    | (with_reducible exact handshakerref05_Add.mono _ _ _ _ _)
    | (with_reducible exact handshakerref05_Cells.mono _ _)
    | (with_reducible exact handshakerref05_Find.mono _ _ _)
    | (with_reducible exact handshakerref05_Right.mono _ _)
    | (with_reducible exact handshakerref05_Same.mono _ _ _)
    | (with_reducible exact reads_Add.mono _ _ _ _ _)
    | (with_reducible exact reads_Cells.mono _ _)
    | (with_reducible exact reads_Find.mono _ _ _)
    | (with_reducible exact reads_Right.mono _ _)
    | (with_reducible exact LeO.refl _)
    | (with_reducible exact LeO.none _)
    | (with_reducible refine LeO.ite ?_ ?_)
    | (with_reducible refine LeO.bind ?_ (fun _ => ?_))
    | exact ih0 _ _ _ _ _ _ _ _ _ _ _ _ _ _ _ _
    | exact ih1 _ _ _ _ _ _ _ _ _ _ _ _ _ _ _
    | exact ih2 _ _ _ _ _ _ _ _ _ _ _ _ _ _ _
    | exact handshakerlaw05_awake.mono _
    | exact handshakerref03_Numbers.mono _ _ _
    | exact handshakerref05_Add.mono _ _ _ _ _
    | exact handshakerref05_Cells.mono _ _
    | exact handshakerref05_Find.mono _ _ _
    | exact handshakerref05_Right.mono _ _
    | exact handshakerref05_Same.mono _ _ _
    | exact reads_Add.mono _ _ _ _ _
    | exact reads_Cells.mono _ _
    | exact reads_Find.mono _ _ _
    | exact reads_Right.mono _ _
    | exact LeO.none _
    | refine LeO.ite ?_ ?_
    | refine LeO.bind ?_ (fun _ => ?_)
theorem handshakerlaw05_ReadsTells.mono : ∀ a0 a1 a2 a3 a4 k, LeO (handshakerlaw05_ReadsTells.f k a0 a1 a2 a3 a4) (handshakerlaw05_ReadsTells.f (k + 1) a0 a1 a2 a3 a4) := by
 intro a0 a1 a2 a3 a4 k
 obtain ⟨ih0, ih1, ih2⟩ := handshakerlaw05_ReadsTells.mono_l k
 unfold handshakerlaw05_ReadsTells.f
 repeat' first
  | (with_reducible exact ih0 _ _ _ _ _ _ _ _ _ _ _ _ _ _ _ _)
  | (with_reducible exact ih1 _ _ _ _ _ _ _ _ _ _ _ _ _ _ _)
  | (with_reducible exact ih2 _ _ _ _ _ _ _ _ _ _ _ _ _ _ _)
  | (with_reducible exact handshakerlaw05_awake.mono _)
  | (with_reducible exact handshakerref03_Numbers.mono _ _ _)
  | (with_reducible exact handshakerref05_Add.mono _ _ _ _ _)
  | (with_reducible exact handshakerref05_Cells.mono _ _)
  | (with_reducible exact handshakerref05_Find.mono _ _ _)
  | (with_reducible exact handshakerref05_Right.mono _ _)
  | (with_reducible exact handshakerref05_Same.mono _ _ _)
  | (with_reducible exact reads_Add.mono _ _ _ _ _)
  | (with_reducible exact reads_Cells.mono _ _)
  | (with_reducible exact reads_Find.mono _ _ _)
  | (with_reducible exact reads_Right.mono _ _)
  | (with_reducible exact LeO.refl _)
  | (with_reducible exact LeO.none _)
  | (with_reducible refine LeO.ite ?_ ?_)
  | (with_reducible refine LeO.bind ?_ (fun _ => ?_))
  | exact ih0 _ _ _ _ _ _ _ _ _ _ _ _ _ _ _ _
  | exact ih1 _ _ _ _ _ _ _ _ _ _ _ _ _ _ _
  | exact ih2 _ _ _ _ _ _ _ _ _ _ _ _ _ _ _
  | exact handshakerlaw05_awake.mono _
  | exact handshakerref03_Numbers.mono _ _ _
  | exact handshakerref05_Add.mono _ _ _ _ _
  | exact handshakerref05_Cells.mono _ _
  | exact handshakerref05_Find.mono _ _ _
  | exact handshakerref05_Right.mono _ _
  | exact handshakerref05_Same.mono _ _ _
  | exact reads_Add.mono _ _ _ _ _
  | exact reads_Cells.mono _ _
  | exact reads_Find.mono _ _ _
  | exact reads_Right.mono _ _
  | exact LeO.none _
  | refine LeO.ite ?_ ?_
  | refine LeO.bind ?_ (fun _ => ?_)
set_option maxHeartbeats 8000000 in
set_option maxRecDepth 100000 in
theorem handshakerlaw05_ReadsTells.calls (k : Nat) (A0 : Option Addr) (c0 : Nat) (l0 : List (S24)) (a1_0 : Int) (a1_1 : Int) (a1_2 : Int) (a2 : Int) (r : Bool) (w : World) (HT : Aside0 (r = true)) (hr0 : Kd.C k24 w A0 l0.length l0) (hc0 : l0.length ≤ c0) (h : handshakerlaw05_ReadsTells.f k l0 a1_0 a1_1 a1_2 a2 = some r) :
 Calls Try.prog 3 #[.slice A0 l0.length c0, .agg #[.int .i64 a1_0, .int .i64 a1_1, .int .i64 a1_2], .int .i64 a2] w fun e w' => e = .returned (.bool r) ∧ Below w.heap.size w w' := by
 have hu24 := Try.underlying24
 have HR0 := Aside0.mk hr0
 have HC0 := Aside0.mk hc0
 clear hr0 hc0
 have HB := Aside0.mk (Below.refl w.heap.size w)
 have H : (if (l0.length : Int) > 40 then ((handshakerlaw05_awake.f k).bind fun t236 => (some t236)) else ((reads_Add.f k l0 a1_0 a1_1 a1_2).bind fun bt237 => ((handshakerref05_Add.f k l0 a1_0 a1_1 a1_2).bind fun bt241 => ((reads_Find.f k l0 a2).bind fun bt245 => ((handshakerref05_Right.f k l0).bind fun t250 => ((handshakerref05_Find.f k l0 a2).bind fun t251 => (if t250 = true then (handshakerlaw05_ReadsTells.j0 k l0 bt237.1 bt237.2 bt241.1 bt241.2 bt245.2.2.2 t250 t251 ([] : List Int) (decide (t251 ≥ 0)) bt245.1 bt245.2.1 bt245.2.2.1 0 0 0) else (handshakerlaw05_ReadsTells.j0 k l0 bt237.1 bt237.2 bt241.1 bt241.2 bt245.2.2.2 t250 t251 ([] : List Int) false bt245.1 bt245.2.1 bt245.2.2.1 0 0 0)))))))) = some r := h
 clear h
 by_cases c4 : (l0.length : Int) > 40
 · rw [if_pos c4] at H
   have c4b0 : decide (40 < (l0.length : Int)) = true := decide_eq_true c4
   have c4b1 : decide (40 < l0.length) = true := decide_eq_true (by omega)
   clear c4
   replace H := Option.bind_eq_some_iff.mp H
   obtain ⟨t236, A50, H⟩ := H
   replace H : (some t236) = some r := H
   have A5 := Aside0.mk A50
   clear A50
   obtain rfl := Option.some.inj H
   go_enter Try.func3, Try.ntmps3
   go_wp2_with (first | ((with_reducible refine gate_dst (N := 4) rfl ?_); refine box_event ?hg (N := 4) ?hd (cs := #[.int .i64 a1_0, .int .i64 a1_1, .int .i64 a1_2]) (t := 24) ?hr ?_; (case hd => rfl); (case hg => rfl); (case hr => first | (go_simp; done) | (go_simp; rfl)); intro gb235 hg w6 hbox hb; have n0_ := Aside0.mk (bst_ hb); have n1_ := Aside0.mk (hbox); have n2_ := Aside0.mk ((by rw [hg]; exact bsz_ : w.heap.size ≤ gb235)); have n3_ := n2_; clear HB; have HB := n0_; have BK235 := n1_; have GW235 := n2_; have GE235 := n3_; clear n0_ n1_ n2_ n3_; clear hb hbox hg) | ((with_reducible refine gate_callee (f := 15) rfl ?_); refine goesL_ (some 20) rfl rfl Try.func15 (by kernel_rfl) rfl #[] rfl (by (try simp only [List.map_toArray, List.map_cons, List.map_nil]); first | done | rfl) ?_; (with_reducible refine (handshakerlaw05_awake.calls k  t236 _ A5.out).mono ?_); rintro e w7 ⟨rfl, hb⟩; refine ⟨_, rfl, ?_⟩; have n0_ := Aside0.mk (blk_below (g := gb235) (o := .cells #[.int .i64 a1_0, .int .i64 a1_1, .int .i64 a1_2] 24 (0, 0)) (by (with_reducible repeat (first | refine blk_drewN ?_ _ | refine blk_drew ?_ | refine blk_alloc ?_ _)); exact BK235.out) hb); have n1_ := Aside0.mk (below_step (by repeat (with_reducible first | exact HB.out | apply below_alloc | apply pw_below_drewN | apply below_drew1 | refine below_set ?_ GE235.out)) hb); clear BK235; clear HB; have BK235 := n0_; have HB := n1_; clear n0_ n1_; (try clear hb); (try clear hb2); (try clear hk); (try clear hi)))
   go_ret
   exact ⟨by first | rfl | (simp [errW_none, errW_some] <;> rfl) | (simp [*, errW_none, errW_some] <;> rfl), by repeat (with_reducible first | exact HB.out | apply below_alloc | apply pw_below_drewN | apply below_drew1 | refine below_set ?_ GE235.out)⟩
 · rw [if_neg c4] at H
   have c4b0 : decide (40 < (l0.length : Int)) = false := decide_eq_false c4
   have c4b1 : decide (40 < l0.length) = false := decide_eq_false (by omega)
   clear c4
   replace H := Option.bind_eq_some_iff.mp H
   obtain ⟨⟨t237, t240⟩, A80, H⟩ := H
   replace H : ((handshakerref05_Add.f k l0 a1_0 a1_1 a1_2).bind fun bt241 => ((reads_Find.f k l0 a2).bind fun bt245 => ((handshakerref05_Right.f k l0).bind fun t250 => ((handshakerref05_Find.f k l0 a2).bind fun t251 => (if t250 = true then (handshakerlaw05_ReadsTells.j0 k l0 t237 t240 bt241.1 bt241.2 bt245.2.2.2 t250 t251 ([] : List Int) (decide (t251 ≥ 0)) bt245.1 bt245.2.1 bt245.2.2.1 0 0 0) else (handshakerlaw05_ReadsTells.j0 k l0 t237 t240 bt241.1 bt241.2 bt245.2.2.2 t250 t251 ([] : List Int) false bt245.1 bt245.2.1 bt245.2.2.1 0 0 0)))))) = some r := H
   have A8 := Aside0.mk A80
   clear A80
   replace H := Option.bind_eq_some_iff.mp H
   obtain ⟨⟨t241, t244⟩, A90, H⟩ := H
   replace H : ((reads_Find.f k l0 a2).bind fun bt245 => ((handshakerref05_Right.f k l0).bind fun t250 => ((handshakerref05_Find.f k l0 a2).bind fun t251 => (if t250 = true then (handshakerlaw05_ReadsTells.j0 k l0 t237 t240 t241 t244 bt245.2.2.2 t250 t251 ([] : List Int) (decide (t251 ≥ 0)) bt245.1 bt245.2.1 bt245.2.2.1 0 0 0) else (handshakerlaw05_ReadsTells.j0 k l0 t237 t240 t241 t244 bt245.2.2.2 t250 t251 ([] : List Int) false bt245.1 bt245.2.1 bt245.2.2.1 0 0 0))))) = some r := H
   have A9 := Aside0.mk A90
   clear A90
   replace H := Option.bind_eq_some_iff.mp H
   obtain ⟨⟨t245, t246, t247, t248⟩, A100, H⟩ := H
   replace H : ((handshakerref05_Right.f k l0).bind fun t250 => ((handshakerref05_Find.f k l0 a2).bind fun t251 => (if t250 = true then (handshakerlaw05_ReadsTells.j0 k l0 t237 t240 t241 t244 t248 t250 t251 ([] : List Int) (decide (t251 ≥ 0)) t245 t246 t247 0 0 0) else (handshakerlaw05_ReadsTells.j0 k l0 t237 t240 t241 t244 t248 t250 t251 ([] : List Int) false t245 t246 t247 0 0 0)))) = some r := H
   have A10 := Aside0.mk A100
   clear A100
   replace H := Option.bind_eq_some_iff.mp H
   obtain ⟨t250, A110, H⟩ := H
   replace H : ((handshakerref05_Find.f k l0 a2).bind fun t251 => (if t250 = true then (handshakerlaw05_ReadsTells.j0 k l0 t237 t240 t241 t244 t248 t250 t251 ([] : List Int) (decide (t251 ≥ 0)) t245 t246 t247 0 0 0) else (handshakerlaw05_ReadsTells.j0 k l0 t237 t240 t241 t244 t248 t250 t251 ([] : List Int) false t245 t246 t247 0 0 0))) = some r := H
   have A11 := Aside0.mk A110
   clear A110
   replace H := Option.bind_eq_some_iff.mp H
   obtain ⟨t251, A120, H⟩ := H
   replace H : (if t250 = true then (handshakerlaw05_ReadsTells.j0 k l0 t237 t240 t241 t244 t248 t250 t251 ([] : List Int) (decide (t251 ≥ 0)) t245 t246 t247 0 0 0) else (handshakerlaw05_ReadsTells.j0 k l0 t237 t240 t241 t244 t248 t250 t251 ([] : List Int) false t245 t246 t247 0 0 0)) = some r := H
   have A12 := Aside0.mk A120
   clear A120
   have HC13 := Aside0.mk H
   clear H
   go_enter Try.func3, Try.ntmps3
   go_upto_region 8 with (first | ((with_reducible refine gate_dst (N := 4) rfl ?_); refine box_event ?hg (N := 4) ?hd (cs := #[.int .i64 a1_0, .int .i64 a1_1, .int .i64 a1_2]) (t := 24) ?hr ?_; (case hd => rfl); (case hg => rfl); (case hr => first | (go_simp; done) | (go_simp; rfl)); intro gb235 hg w14 hbox hb; have n0_ := Aside0.mk (bst_ hb); have n1_ := Aside0.mk (hbox); have n2_ := Aside0.mk ((by rw [hg]; exact bsz_ : w.heap.size ≤ gb235)); have n3_ := n2_; clear HB; have HB := n0_; have BK235 := n1_; have GW235 := n2_; have GE235 := n3_; clear n0_ n1_ n2_ n3_; clear hb hbox hg; have hcz15_0 : w14.cell? ⟨gb235, 0, none⟩ = some (.int .i64 a1_0) := (blk_cell BK235.out 0).trans rfl; have hcz15_1 : w14.cell? ⟨gb235, 1, none⟩ = some (.int .i64 a1_1) := (blk_cell BK235.out 1).trans rfl; have hcz15_2 : w14.cell? ⟨gb235, 2, none⟩ = some (.int .i64 a1_2) := (blk_cell BK235.out 2).trans rfl; have hfz15_0 := blk_frozen BK235.out 0; have hfz15_1 := blk_frozen BK235.out 1; have hfz15_2 := blk_frozen BK235.out 2) | ((with_reducible refine gate_callee (f := 16) rfl ?_); refine goesL_ (some 24) rfl rfl Try.func16 (by kernel_rfl) rfl #[.slice A0 l0.length c0, .agg #[.int .i64 a1_0, .int .i64 a1_1, .int .i64 a1_2]] rfl (by (try simp only [List.map_toArray, List.map_cons, List.map_nil]); first | done | rfl) ?_; (with_reducible refine (reads_Add.calls k (fun k_ => k_ < w.heap.size) _ _ l0 a1_0 a1_1 a1_2 t237 t240 _ ?side1 A8.out).mono ?_); (case side1 => exact Kd.V_mk HC0.out (Kd.F_below (Kd.C_F k24_heap HR0.out) (by repeat (with_reducible first | exact HB.out | apply below_alloc | apply pw_below_drewN | apply below_drew1 | refine below_set ?_ GE235.out)))); rintro e w16 ⟨v238, rfl, ho0, hb⟩; refine ⟨_, rfl, ?_⟩; have n0_ := Aside0.mk (Kd.V_lower (Kd.V_mono (ok' := fun k_ => k_ ≠ gb235) ho0 (fun k_ hk_ => Or.elim hk_ (fun hs_ => fun e_ => Nat.not_le.2 hs_ (by rw [e_]; exact GW235.out)) (fun hn_ => (Kd.freshB (g := gb235) (o := .cells #[.int .i64 a1_0, .int .i64 a1_1, .int .i64 a1_2] 24 (0, 0)) (by (with_reducible repeat (first | refine blk_drewN ?_ _ | refine blk_drew ?_ | refine blk_alloc ?_ _)); exact BK235.out) k_ hn_)))) (below_size (by repeat (with_reducible first | exact HB.out | apply below_alloc | apply pw_below_drewN | apply below_drew1 | refine below_set ?_ GE235.out)))); have n1_ := Aside0.mk (blk_below (g := gb235) (o := .cells #[.int .i64 a1_0, .int .i64 a1_1, .int .i64 a1_2] 24 (0, 0)) (by (with_reducible repeat (first | refine blk_drewN ?_ _ | refine blk_drew ?_ | refine blk_alloc ?_ _)); exact BK235.out) hb); have n2_ := Aside0.mk (below_step (by repeat (with_reducible first | exact HB.out | apply below_alloc | apply pw_below_drewN | apply below_drew1 | refine below_set ?_ GE235.out)) hb); clear BK235; clear HB; have HO239 := n0_; have BK235 := n1_; have HB := n2_; clear n0_ n1_ n2_; (try clear hb); (try clear hb2); (try clear hk); (try clear hi); (try clear ho0); have hcz17_0 : w16.cell? ⟨gb235, 0, none⟩ = some (.int .i64 a1_0) := (blk_cell BK235.out 0).trans rfl; have hcz17_1 : w16.cell? ⟨gb235, 1, none⟩ = some (.int .i64 a1_1) := (blk_cell BK235.out 1).trans rfl; have hcz17_2 : w16.cell? ⟨gb235, 2, none⟩ = some (.int .i64 a1_2) := (blk_cell BK235.out 2).trans rfl; have hfz17_0 := blk_frozen BK235.out 0; have hfz17_1 := blk_frozen BK235.out 1; have hfz17_2 := blk_frozen BK235.out 2) | ((with_reducible refine gate_callee (f := 17) rfl ?_); refine goesL_ (some 30) rfl rfl Try.func17 (by kernel_rfl) rfl #[.slice A0 l0.length c0, .agg #[.int .i64 a1_0, .int .i64 a1_1, .int .i64 a1_2]] rfl (by (try simp only [List.map_toArray, List.map_cons, List.map_nil]); first | done | rfl) ?_; (with_reducible refine (handshakerref05_Add.calls k (fun k_ => k_ < w.heap.size) _ _ l0 a1_0 a1_1 a1_2 t241 t244 _ ?side1 A9.out).mono ?_); (case side1 => exact Kd.V_mk HC0.out (Kd.F_below (Kd.C_F k24_heap HR0.out) (by repeat (with_reducible first | exact HB.out | apply below_alloc | apply pw_below_drewN | apply below_drew1 | refine below_set ?_ GE235.out)))); rintro e w18 ⟨v242, rfl, ho0, hb⟩; refine ⟨_, rfl, ?_⟩; have n0_ := Aside0.mk (Kd.V_below (by (with_reducible repeat (first | apply Kd.V_alloc | apply Kd.V_drewN | apply Kd.V_drew)); exact HO239.out) hb); have n1_ := Aside0.mk (Kd.V_lower (Kd.V_mono (ok' := fun k_ => k_ ≠ gb235) ho0 (fun k_ hk_ => Or.elim hk_ (fun hs_ => fun e_ => Nat.not_le.2 hs_ (by rw [e_]; exact GW235.out)) (fun hn_ => (Kd.freshB (g := gb235) (o := .cells #[.int .i64 a1_0, .int .i64 a1_1, .int .i64 a1_2] 24 (0, 0)) (by (with_reducible repeat (first | refine blk_drewN ?_ _ | refine blk_drew ?_ | refine blk_alloc ?_ _)); exact BK235.out) k_ hn_)))) (below_size (by repeat (with_reducible first | exact HB.out | apply below_alloc | apply pw_below_drewN | apply below_drew1 | refine below_set ?_ GE235.out)))); have n2_ := Aside0.mk (blk_below (g := gb235) (o := .cells #[.int .i64 a1_0, .int .i64 a1_1, .int .i64 a1_2] 24 (0, 0)) (by (with_reducible repeat (first | refine blk_drewN ?_ _ | refine blk_drew ?_ | refine blk_alloc ?_ _)); exact BK235.out) hb); have n3_ := Aside0.mk (below_step (by repeat (with_reducible first | exact HB.out | apply below_alloc | apply pw_below_drewN | apply below_drew1 | refine below_set ?_ GE235.out)) hb); clear HO239; clear BK235; clear HB; have HO239 := n0_; have HO243 := n1_; have BK235 := n2_; have HB := n3_; clear n0_ n1_ n2_ n3_; (try clear hb); (try clear hb2); (try clear hk); (try clear hi); (try clear ho0)) | ((with_reducible refine gate_callee (f := 18) rfl ?_); refine goesL_ (some 36) rfl rfl Try.func18 (by kernel_rfl) rfl #[.slice A0 l0.length c0, .int .i64 a2] rfl (by (try simp only [List.map_toArray, List.map_cons, List.map_nil]); first | done | rfl) ?_; (with_reducible refine (reads_Find.calls k _ _ l0 a2 t245 t246 t247 t248 _ ?side1 ?side2 A10.out).mono ?_); (case side1 => repeat (first | exact (Kd.C_below HR0.out HB.out) | with_reducible first | refine Kd.C_alloc ?_ _ | refine Kd.C_drewN ?_ _ | refine Kd.C_drew ?_)); (case side2 => exact HC0.out); rintro e w19 ⟨rfl, hb⟩; refine ⟨_, rfl, ?_⟩; have n0_ := Aside0.mk (Kd.V_below (by (with_reducible repeat (first | apply Kd.V_alloc | apply Kd.V_drewN | apply Kd.V_drew)); exact HO239.out) hb); have n1_ := Aside0.mk (Kd.V_below (by (with_reducible repeat (first | apply Kd.V_alloc | apply Kd.V_drewN | apply Kd.V_drew)); exact HO243.out) hb); have n2_ := Aside0.mk (blk_below (g := gb235) (o := .cells #[.int .i64 a1_0, .int .i64 a1_1, .int .i64 a1_2] 24 (0, 0)) (by (with_reducible repeat (first | refine blk_drewN ?_ _ | refine blk_drew ?_ | refine blk_alloc ?_ _)); exact BK235.out) hb); have n3_ := Aside0.mk (below_step (by repeat (with_reducible first | exact HB.out | apply below_alloc | apply pw_below_drewN | apply below_drew1 | refine below_set ?_ GE235.out)) hb); clear HO239; clear HO243; clear BK235; clear HB; have HO239 := n0_; have HO243 := n1_; have BK235 := n2_; have HB := n3_; clear n0_ n1_ n2_ n3_; (try clear hb); (try clear hb2); (try clear hk); (try clear hi)) | ((with_reducible refine gate_dst (N := 11) rfl ?_); refine box_event ?hg (N := 11) ?hd (cs := #[.int .i64 0, .int .i64 0, .int .i64 0]) (t := 24) ?hr ?_; (case hd => rfl); (case hg => rfl); (case hr => first | (go_simp; done) | (go_simp; rfl)); intro gb249 hg w20 hbox hb; have n0_ := Aside0.mk (Kd.V_below (Kd.V_elderB (by (with_reducible repeat (first | apply Kd.V_alloc | apply Kd.V_drewN | apply Kd.V_drew)); exact HO239.out) gb249 (Nat.le_of_eq hg.symm)) hb); have n1_ := Aside0.mk (Kd.V_below (Kd.V_elderB (by (with_reducible repeat (first | apply Kd.V_alloc | apply Kd.V_drewN | apply Kd.V_drew)); exact HO243.out) gb249 (Nat.le_of_eq hg.symm)) hb); have n2_ := Aside0.mk (blk_below (g := gb235) (o := .cells #[.int .i64 a1_0, .int .i64 a1_1, .int .i64 a1_2] 24 (0, 0)) (by (with_reducible repeat (first | refine blk_drewN ?_ _ | refine blk_drew ?_ | refine blk_alloc ?_ _)); exact BK235.out) hb); have n3_ := Aside0.mk (below_step (by repeat (with_reducible first | exact HB.out | apply below_alloc | apply pw_below_drewN | apply below_drew1 | refine below_set ?_ GE235.out)) hb); have n4_ := Aside0.mk (hbox); have n5_ := Aside0.mk ((by rw [hg]; exact (below_size (by repeat (with_reducible first | exact HB.out | apply below_alloc | apply pw_below_drewN | apply below_drew1 | refine below_set ?_ GE235.out))) : w.heap.size ≤ gb249)); have n6_ := n5_; have n7_ := Aside0.mk ((by rw [hg]; exact Nat.ne_of_lt (blk_lt (g := gb235) (o := .cells #[.int .i64 a1_0, .int .i64 a1_1, .int .i64 a1_2] 24 (0, 0)) (by (with_reducible repeat (first | refine blk_drewN ?_ _ | refine blk_drew ?_ | refine blk_alloc ?_ _)); exact BK235.out)) : gb235 ≠ gb249)); have n8_ := Aside0.mk ((by rw [hg]; exact Nat.ne_of_gt (blk_lt (g := gb235) (o := .cells #[.int .i64 a1_0, .int .i64 a1_1, .int .i64 a1_2] 24 (0, 0)) (by (with_reducible repeat (first | refine blk_drewN ?_ _ | refine blk_drew ?_ | refine blk_alloc ?_ _)); exact BK235.out)) : gb249 ≠ gb235)); clear HO239; clear HO243; clear BK235; clear HB; have HO239 := n0_; have HO243 := n1_; have BK235 := n2_; have HB := n3_; have BK249 := n4_; have GW249 := n5_; have GE249 := n6_; have NB235_249 := n7_; have NB249_235 := n8_; clear n0_ n1_ n2_ n3_ n4_ n5_ n6_ n7_ n8_; clear hb hbox hg; have hnb21 := NB249_235.out; have hnc21 := NB235_249.out; have hcz22_0 : w20.cell? ⟨gb249, 0, none⟩ = some (.int .i64 0) := (blk_cell BK249.out 0).trans rfl; have hcz22_1 : w20.cell? ⟨gb249, 1, none⟩ = some (.int .i64 0) := (blk_cell BK249.out 1).trans rfl; have hcz22_2 : w20.cell? ⟨gb249, 2, none⟩ = some (.int .i64 0) := (blk_cell BK249.out 2).trans rfl; have hfz22_0 := blk_frozen BK249.out 0; have hfz22_1 := blk_frozen BK249.out 1; have hfz22_2 := blk_frozen BK249.out 2) | ((with_reducible refine gate_callee (f := 19) rfl ?_); refine goesL_ (some 40) rfl rfl Try.func19 (by kernel_rfl) rfl #[.slice A0 l0.length c0] rfl (by (try simp only [List.map_toArray, List.map_cons, List.map_nil]); first | done | rfl) ?_; (with_reducible refine (handshakerref05_Right.calls k _ _ l0 t250 _ ?side1 ?side2 A11.out).mono ?_); (case side1 => exact Kd.C_below HR0.out (by repeat (first | (with_reducible first | exact HB.out | apply below_alloc | apply pw_below_drewN | apply below_drew1 | refine below_set ?_ GE235.out | refine below_set ?_ GE249.out) | exact HB.out))); (case side2 => exact HC0.out); rintro e w23 ⟨rfl, hb⟩; refine ⟨_, rfl, ?_⟩; have n0_ := Aside0.mk (Kd.V_below (by (with_reducible repeat (first | apply Kd.V_alloc | apply Kd.V_drewN | apply Kd.V_drew)); exact (Kd.V_mono (Kd.V_far (p := ⟨gb249, 2, none⟩) (Kd.V_far (p := ⟨gb249, 1, none⟩) (Kd.V_far (p := ⟨gb249, 0, none⟩) (Kd.V_mono HO239.out (fun k_ hk => (⟨hk, hk.2⟩ : _ ∧ k_ ≠ gb249))) (fun _ hk => hk.2) (.int .i64 t245)) (fun _ hk => hk.2) (.int .i64 t246)) (fun _ hk => hk.2) (.int .i64 t247)) (fun _ h_ => h_.1))) hb); have n1_ := Aside0.mk (Kd.V_below (by (with_reducible repeat (first | apply Kd.V_alloc | apply Kd.V_drewN | apply Kd.V_drew)); exact (Kd.V_mono (Kd.V_far (p := ⟨gb249, 2, none⟩) (Kd.V_far (p := ⟨gb249, 1, none⟩) (Kd.V_far (p := ⟨gb249, 0, none⟩) (Kd.V_mono HO243.out (fun k_ hk => (⟨hk, hk.2⟩ : _ ∧ k_ ≠ gb249))) (fun _ hk => hk.2) (.int .i64 t245)) (fun _ hk => hk.2) (.int .i64 t246)) (fun _ hk => hk.2) (.int .i64 t247)) (fun _ h_ => h_.1))) hb); have n2_ := Aside0.mk (blk_below (g := gb235) (o := .cells #[.int .i64 a1_0, .int .i64 a1_1, .int .i64 a1_2] 24 (0, 0)) (by (with_reducible repeat (first | refine blk_drewN ?_ _ | refine blk_drew ?_ | refine blk_alloc ?_ _)); refine blk_far ?_ NB235_249.out _; (with_reducible repeat (first | refine blk_drewN ?_ _ | refine blk_drew ?_ | refine blk_alloc ?_ _)); refine blk_far ?_ NB235_249.out _; (with_reducible repeat (first | refine blk_drewN ?_ _ | refine blk_drew ?_ | refine blk_alloc ?_ _)); refine blk_far ?_ NB235_249.out _; (with_reducible repeat (first | refine blk_drewN ?_ _ | refine blk_drew ?_ | refine blk_alloc ?_ _)); exact BK235.out) hb); have n3_ := Aside0.mk (blk_below (g := gb249) (o := .cells #[.int .i64 t245, .int .i64 t246, .int .i64 t247] 24 (0, 0)) (by (with_reducible repeat (first | refine blk_drewN ?_ _ | refine blk_drew ?_ | refine blk_alloc ?_ _)); refine blk_put (cs := #[.int .i64 t245, .int .i64 t246, .int .i64 0]) ?_ 2 _ rfl; (with_reducible repeat (first | refine blk_drewN ?_ _ | refine blk_drew ?_ | refine blk_alloc ?_ _)); refine blk_put (cs := #[.int .i64 t245, .int .i64 0, .int .i64 0]) ?_ 1 _ rfl; (with_reducible repeat (first | refine blk_drewN ?_ _ | refine blk_drew ?_ | refine blk_alloc ?_ _)); refine blk_put (cs := #[.int .i64 0, .int .i64 0, .int .i64 0]) ?_ 0 _ rfl; (with_reducible repeat (first | refine blk_drewN ?_ _ | refine blk_drew ?_ | refine blk_alloc ?_ _)); exact BK249.out) hb); have n4_ := Aside0.mk (below_step (by repeat (first | (with_reducible first | exact HB.out | apply below_alloc | apply pw_below_drewN | apply below_drew1 | refine below_set ?_ GE235.out | refine below_set ?_ GE249.out) | exact HB.out)) hb); clear HO239; clear HO243; clear BK235; clear BK249; clear HB; have HO239 := n0_; have HO243 := n1_; have BK235 := n2_; have BK249 := n3_; have HB := n4_; clear n0_ n1_ n2_ n3_ n4_; (try clear hb); (try clear hb2); (try clear hk); (try clear hi)) | ((with_reducible refine gate_callee (f := 20) rfl ?_); refine goesL_ (some 43) rfl rfl Try.func20 (by kernel_rfl) rfl #[.slice A0 l0.length c0, .int .i64 a2] rfl (by (try simp only [List.map_toArray, List.map_cons, List.map_nil]); first | done | rfl) ?_; (with_reducible refine (handshakerref05_Find.calls k _ _ l0 a2 t251 _ ?side1 ?side2 A12.out).mono ?_); (case side1 => repeat (first | exact (Kd.C_below HR0.out HB.out) | with_reducible first | refine Kd.C_alloc ?_ _ | refine Kd.C_drewN ?_ _ | refine Kd.C_drew ?_)); (case side2 => exact HC0.out); rintro e w' ⟨rfl, ⟨nd, rfl⟩⟩; refine ⟨_, rfl, ?_⟩; (try (rw [drewN_self w23]; generalize hq_ : World.drewN w23 _ = w23; have n0_ : Aside0 (Kd.V k24 24 w23 w.heap.size (fun k_ => k_ ≠ gb235 ∧ k_ ≠ gb249) v238 t237) := ⟨by rw [← hq_]; exact (by (with_reducible repeat (first | apply Kd.V_alloc | apply Kd.V_drewN | apply Kd.V_drew)); exact HO239.out)⟩; have n1_ : Aside0 (Kd.V k24 24 w23 w.heap.size (fun k_ => k_ ≠ gb235 ∧ k_ ≠ gb249) v242 t241) := ⟨by rw [← hq_]; exact (by (with_reducible repeat (first | apply Kd.V_alloc | apply Kd.V_drewN | apply Kd.V_drew)); exact HO243.out)⟩; have n2_ : Aside0 (w23.heap[gb235]? = some (.cells #[.int .i64 a1_0, .int .i64 a1_1, .int .i64 a1_2] 24 (0, 0))) := ⟨by rw [← hq_]; exact (by (with_reducible repeat (first | refine blk_drewN ?_ _ | refine blk_drew ?_ | refine blk_alloc ?_ _)); exact BK235.out)⟩; have n3_ : Aside0 (w23.heap[gb249]? = some (.cells #[.int .i64 t245, .int .i64 t246, .int .i64 t247] 24 (0, 0))) := ⟨by rw [← hq_]; exact (by (with_reducible repeat (first | refine blk_drewN ?_ _ | refine blk_drew ?_ | refine blk_alloc ?_ _)); exact BK249.out)⟩; have n4_ : Aside0 (Below w.heap.size w w23) := ⟨by rw [← hq_]; exact (by repeat (first | (with_reducible first | exact HB.out | apply below_alloc | apply pw_below_drewN | apply below_drew1 | refine below_set ?_ GE235.out | refine below_set ?_ GE249.out) | exact HB.out))⟩; clear HO239 HO243 BK235 BK249 HB hq_; have HO239 := n0_; have HO243 := n1_; have BK235 := n2_; have BK249 := n3_; have HB := n4_; clear n0_ n1_ n2_ n3_ n4_)); (try have hcu235_0 : w23.cell? ⟨gb235, 0, none⟩ = some (.int .i64 a1_0) := (blk_cell BK235.out 0).trans rfl); (try have hcu235_1 : w23.cell? ⟨gb235, 1, none⟩ = some (.int .i64 a1_1) := (blk_cell BK235.out 1).trans rfl); (try have hcu235_2 : w23.cell? ⟨gb235, 2, none⟩ = some (.int .i64 a1_2) := (blk_cell BK235.out 2).trans rfl); (try have hcu249_0 : w23.cell? ⟨gb249, 0, none⟩ = some (.int .i64 t245) := (blk_cell BK249.out 0).trans rfl); (try have hcu249_1 : w23.cell? ⟨gb249, 1, none⟩ = some (.int .i64 t246) := (blk_cell BK249.out 1).trans rfl); (try have hcu249_2 : w23.cell? ⟨gb249, 2, none⟩ = some (.int .i64 t247) := (blk_cell BK249.out 2).trans rfl)) | ((with_reducible refine gate_dst (N := 15) rfl ?_); refine box_event ?hg (N := 15) ?hd (cs := #[.int .i64 0, .int .i64 0, .int .i64 0]) (t := 24) ?hr ?_; (case hd => rfl); (case hg => rfl); (case hr => first | (go_simp; done) | (go_simp; rfl)); intro gb252 hg w24 hbox hb; have n0_ := Aside0.mk (Kd.V_below (Kd.V_elderB (by (with_reducible repeat (first | apply Kd.V_alloc | apply Kd.V_drewN | apply Kd.V_drew)); exact HO239.out) gb252 (Nat.le_of_eq hg.symm)) hb); have n1_ := Aside0.mk (Kd.V_below (Kd.V_elderB (by (with_reducible repeat (first | apply Kd.V_alloc | apply Kd.V_drewN | apply Kd.V_drew)); exact HO243.out) gb252 (Nat.le_of_eq hg.symm)) hb); have n2_ := Aside0.mk (blk_below (g := gb235) (o := .cells #[.int .i64 a1_0, .int .i64 a1_1, .int .i64 a1_2] 24 (0, 0)) (by (with_reducible repeat (first | refine blk_drewN ?_ _ | refine blk_drew ?_ | refine blk_alloc ?_ _)); exact BK235.out) hb); have n3_ := Aside0.mk (blk_below (g := gb249) (o := .cells #[.int .i64 t245, .int .i64 t246, .int .i64 t247] 24 (0, 0)) (by (with_reducible repeat (first | refine blk_drewN ?_ _ | refine blk_drew ?_ | refine blk_alloc ?_ _)); exact BK249.out) hb); have n4_ := Aside0.mk (below_step (by repeat (first | (with_reducible first | exact HB.out | apply below_alloc | apply pw_below_drewN | apply below_drew1 | refine below_set ?_ GE235.out | refine below_set ?_ GE249.out) | exact HB.out)) hb); have n5_ := Aside0.mk (hbox); have n6_ := Aside0.mk ((by rw [hg]; exact (below_size (by repeat (first | (with_reducible first | exact HB.out | apply below_alloc | apply pw_below_drewN | apply below_drew1 | refine below_set ?_ GE235.out | refine below_set ?_ GE249.out) | exact HB.out))) : w.heap.size ≤ gb252)); have n7_ := n6_; have n8_ := Aside0.mk ((by rw [hg]; exact Nat.ne_of_lt (blk_lt (g := gb235) (o := .cells #[.int .i64 a1_0, .int .i64 a1_1, .int .i64 a1_2] 24 (0, 0)) (by (with_reducible repeat (first | refine blk_drewN ?_ _ | refine blk_drew ?_ | refine blk_alloc ?_ _)); exact BK235.out)) : gb235 ≠ gb252)); have n9_ := Aside0.mk ((by rw [hg]; exact Nat.ne_of_gt (blk_lt (g := gb235) (o := .cells #[.int .i64 a1_0, .int .i64 a1_1, .int .i64 a1_2] 24 (0, 0)) (by (with_reducible repeat (first | refine blk_drewN ?_ _ | refine blk_drew ?_ | refine blk_alloc ?_ _)); exact BK235.out)) : gb252 ≠ gb235)); have n10_ := Aside0.mk ((by rw [hg]; exact Nat.ne_of_lt (blk_lt (g := gb249) (o := .cells #[.int .i64 t245, .int .i64 t246, .int .i64 t247] 24 (0, 0)) (by (with_reducible repeat (first | refine blk_drewN ?_ _ | refine blk_drew ?_ | refine blk_alloc ?_ _)); exact BK249.out)) : gb249 ≠ gb252)); have n11_ := Aside0.mk ((by rw [hg]; exact Nat.ne_of_gt (blk_lt (g := gb249) (o := .cells #[.int .i64 t245, .int .i64 t246, .int .i64 t247] 24 (0, 0)) (by (with_reducible repeat (first | refine blk_drewN ?_ _ | refine blk_drew ?_ | refine blk_alloc ?_ _)); exact BK249.out)) : gb252 ≠ gb249)); clear HO239; clear HO243; clear BK235; clear BK249; clear HB; have HO239 := n0_; have HO243 := n1_; have BK235 := n2_; have BK249 := n3_; have HB := n4_; have BK252 := n5_; have GW252 := n6_; have GE252 := n7_; have NB235_252 := n8_; have NB252_235 := n9_; have NB249_252 := n10_; have NB252_249 := n11_; clear n0_ n1_ n2_ n3_ n4_ n5_ n6_ n7_ n8_ n9_ n10_ n11_; clear hb hbox hg; have hnb25 := NB252_235.out; have hnc25 := NB235_252.out; have hnb26 := NB252_249.out; have hnc26 := NB249_252.out; have hcz27_0 : w24.cell? ⟨gb252, 0, none⟩ = some (.int .i64 0) := (blk_cell BK252.out 0).trans rfl; have hcz27_1 : w24.cell? ⟨gb252, 1, none⟩ = some (.int .i64 0) := (blk_cell BK252.out 1).trans rfl; have hcz27_2 : w24.cell? ⟨gb252, 2, none⟩ = some (.int .i64 0) := (blk_cell BK252.out 2).trans rfl; have hfz27_0 := blk_frozen BK252.out 0; have hfz27_1 := blk_frozen BK252.out 1; have hfz27_2 := blk_frozen BK252.out 2))
   (try simp only [Act.put, List.setIfInBounds_toArray, List.set_cons_zero, List.set_cons_succ])
   go_cut [49] (fun v49 wc => ∃ (kq : Nat) (x49_12 : Bool), v49 = .bool x49_12 ∧ Aside0 (handshakerlaw05_ReadsTells.j0 kq l0 t237 t240 t241 t244 t248 t250 t251 ([] : List Int) x49_12 t245 t246 t247 0 0 0 = some r) ∧ Aside0 (kq ≤ k) ∧ Aside0 (Kd.V k24 24 wc w.heap.size (fun k_ => some k_ ≠ ((.slice none 0 0) : Value).ownBlock ∧ k_ ≠ gb235 ∧ k_ ≠ gb249 ∧ k_ ≠ gb252) v238 t237) ∧ Aside0 (Kd.V k24 24 wc w.heap.size (fun k_ => some k_ ≠ ((.slice none 0 0) : Value).ownBlock ∧ k_ ≠ gb235 ∧ k_ ≠ gb249 ∧ k_ ≠ gb252) v242 t241) ∧ Aside0 (Kd.R (Kd.int .i64) 3 wc w.heap.size (fun _ => True) (.slice none 0 0) ([] : List Int)) ∧ Aside0 (wc.heap[gb235]? = some (.cells #[.int .i64 a1_0, .int .i64 a1_1, .int .i64 a1_2] 24 (0, 0))) ∧ Aside0 (wc.heap[gb249]? = some (.cells #[.int .i64 t245, .int .i64 t246, .int .i64 t247] 24 (0, 0))) ∧ Aside0 (wc.heap[gb252]? = some (.cells #[.int .i64 0, .int .i64 0, .int .i64 0] 24 (0, 0))) ∧ Aside0 (Below w.heap.size w wc))
   case first =>
    have H := HC13.out
    clear HC13
    by_cases c28 : t250 = true
    · subst c28
      have H1 : (handshakerlaw05_ReadsTells.j0 k l0 t237 t240 t241 t244 t248 true t251 ([] : List Int) (decide (t251 ≥ 0)) t245 t246 t247 0 0 0) = some r := by rw [if_pos rfl] at H; exact H
      clear H
      have H := H1
      clear H1
      have H' := Aside0.mk H
      clear H
      go_wp2
      go_meet
      case rel => exact ⟨_, (decide (t251 ≥ 0)), (by first | rfl | (simp; done) | (simp [*]; done)), H', ⟨by first | omega | exact Nat.le_refl _⟩, ⟨by (with_reducible repeat (first | apply Kd.V_alloc | apply Kd.V_drewN | apply Kd.V_drew)); exact Kd.V_mono (Kd.V_far (p := ⟨gb252, 2, none⟩) (Kd.V_far (p := ⟨gb252, 1, none⟩) (Kd.V_far (p := ⟨gb252, 0, none⟩) (Kd.V_mono HO239.out (fun k_ hk => (⟨hk, hk.2⟩ : _ ∧ k_ ≠ gb252))) (fun _ hk => hk.2) (.int .i64 0)) (fun _ hk => hk.2) (.int .i64 0)) (fun _ hk => hk.2) (.int .i64 0)) (fun _ hk => ⟨(by simp [Value.ownBlock]), ⟨hk.1.1.1, ⟨hk.1.1.2, hk.1.2⟩⟩⟩)⟩, ⟨by (with_reducible repeat (first | apply Kd.V_alloc | apply Kd.V_drewN | apply Kd.V_drew)); exact Kd.V_mono (Kd.V_far (p := ⟨gb252, 2, none⟩) (Kd.V_far (p := ⟨gb252, 1, none⟩) (Kd.V_far (p := ⟨gb252, 0, none⟩) (Kd.V_mono HO243.out (fun k_ hk => (⟨hk, hk.2⟩ : _ ∧ k_ ≠ gb252))) (fun _ hk => hk.2) (.int .i64 0)) (fun _ hk => hk.2) (.int .i64 0)) (fun _ hk => hk.2) (.int .i64 0)) (fun _ hk => ⟨(by simp [Value.ownBlock]), ⟨hk.1.1.1, ⟨hk.1.1.2, hk.1.2⟩⟩⟩)⟩, ⟨by first | exact Kd.R_nil _ _ _ _ _ | exact Kd.N_nil _ _ _ _ _ | exact Kd.V_nil _ _ _ _ _ | exact Kd.Q_nil _ _ _ _ _ | exact Kd.S_nil _ _ _ _ _⟩, ⟨by (with_reducible repeat (first | refine blk_drewN ?_ _ | refine blk_drew ?_ | refine blk_alloc ?_ _)); refine blk_far ?_ NB235_252.out _; (with_reducible repeat (first | refine blk_drewN ?_ _ | refine blk_drew ?_ | refine blk_alloc ?_ _)); refine blk_far ?_ NB235_252.out _; (with_reducible repeat (first | refine blk_drewN ?_ _ | refine blk_drew ?_ | refine blk_alloc ?_ _)); refine blk_far ?_ NB235_252.out _; (with_reducible repeat (first | refine blk_drewN ?_ _ | refine blk_drew ?_ | refine blk_alloc ?_ _)); exact BK235.out⟩, ⟨by (with_reducible repeat (first | refine blk_drewN ?_ _ | refine blk_drew ?_ | refine blk_alloc ?_ _)); refine blk_far ?_ NB249_252.out _; (with_reducible repeat (first | refine blk_drewN ?_ _ | refine blk_drew ?_ | refine blk_alloc ?_ _)); refine blk_far ?_ NB249_252.out _; (with_reducible repeat (first | refine blk_drewN ?_ _ | refine blk_drew ?_ | refine blk_alloc ?_ _)); refine blk_far ?_ NB249_252.out _; (with_reducible repeat (first | refine blk_drewN ?_ _ | refine blk_drew ?_ | refine blk_alloc ?_ _)); exact BK249.out⟩, ⟨by (with_reducible repeat (first | refine blk_drewN ?_ _ | refine blk_drew ?_ | refine blk_alloc ?_ _)); refine blk_put (cs := #[.int .i64 0, .int .i64 0, .int .i64 0]) ?_ 2 _ rfl; (with_reducible repeat (first | refine blk_drewN ?_ _ | refine blk_drew ?_ | refine blk_alloc ?_ _)); refine blk_put (cs := #[.int .i64 0, .int .i64 0, .int .i64 0]) ?_ 1 _ rfl; (with_reducible repeat (first | refine blk_drewN ?_ _ | refine blk_drew ?_ | refine blk_alloc ?_ _)); refine blk_put (cs := #[.int .i64 0, .int .i64 0, .int .i64 0]) ?_ 0 _ rfl; (with_reducible repeat (first | refine blk_drewN ?_ _ | refine blk_drew ?_ | refine blk_alloc ?_ _)); exact BK252.out⟩, ⟨by repeat (first | (with_reducible first | exact HB.out | apply below_alloc | apply pw_below_drewN | apply below_drew1 | refine below_set ?_ GE235.out | refine below_set ?_ GE249.out | refine below_set ?_ GE252.out) | exact HB.out)⟩⟩
    · replace c28 := Bool.eq_false_iff.mpr c28
      subst c28
      have H1 : (handshakerlaw05_ReadsTells.j0 k l0 t237 t240 t241 t244 t248 false t251 ([] : List Int) false t245 t246 t247 0 0 0) = some r := by rw [if_neg (show ¬ (false = true) by decide)] at H; exact H
      clear H
      have H := H1
      clear H1
      have H' := Aside0.mk H
      clear H
      go_wp2
      go_meet
      case rel => exact ⟨_, (false), (by first | rfl | (simp; done) | (simp [*]; done)), H', ⟨by first | omega | exact Nat.le_refl _⟩, ⟨by (with_reducible repeat (first | apply Kd.V_alloc | apply Kd.V_drewN | apply Kd.V_drew)); exact Kd.V_mono (Kd.V_far (p := ⟨gb252, 2, none⟩) (Kd.V_far (p := ⟨gb252, 1, none⟩) (Kd.V_far (p := ⟨gb252, 0, none⟩) (Kd.V_mono HO239.out (fun k_ hk => (⟨hk, hk.2⟩ : _ ∧ k_ ≠ gb252))) (fun _ hk => hk.2) (.int .i64 0)) (fun _ hk => hk.2) (.int .i64 0)) (fun _ hk => hk.2) (.int .i64 0)) (fun _ hk => ⟨(by simp [Value.ownBlock]), ⟨hk.1.1.1, ⟨hk.1.1.2, hk.1.2⟩⟩⟩)⟩, ⟨by (with_reducible repeat (first | apply Kd.V_alloc | apply Kd.V_drewN | apply Kd.V_drew)); exact Kd.V_mono (Kd.V_far (p := ⟨gb252, 2, none⟩) (Kd.V_far (p := ⟨gb252, 1, none⟩) (Kd.V_far (p := ⟨gb252, 0, none⟩) (Kd.V_mono HO243.out (fun k_ hk => (⟨hk, hk.2⟩ : _ ∧ k_ ≠ gb252))) (fun _ hk => hk.2) (.int .i64 0)) (fun _ hk => hk.2) (.int .i64 0)) (fun _ hk => hk.2) (.int .i64 0)) (fun _ hk => ⟨(by simp [Value.ownBlock]), ⟨hk.1.1.1, ⟨hk.1.1.2, hk.1.2⟩⟩⟩)⟩, ⟨by first | exact Kd.R_nil _ _ _ _ _ | exact Kd.N_nil _ _ _ _ _ | exact Kd.V_nil _ _ _ _ _ | exact Kd.Q_nil _ _ _ _ _ | exact Kd.S_nil _ _ _ _ _⟩, ⟨by (with_reducible repeat (first | refine blk_drewN ?_ _ | refine blk_drew ?_ | refine blk_alloc ?_ _)); refine blk_far ?_ NB235_252.out _; (with_reducible repeat (first | refine blk_drewN ?_ _ | refine blk_drew ?_ | refine blk_alloc ?_ _)); refine blk_far ?_ NB235_252.out _; (with_reducible repeat (first | refine blk_drewN ?_ _ | refine blk_drew ?_ | refine blk_alloc ?_ _)); refine blk_far ?_ NB235_252.out _; (with_reducible repeat (first | refine blk_drewN ?_ _ | refine blk_drew ?_ | refine blk_alloc ?_ _)); exact BK235.out⟩, ⟨by (with_reducible repeat (first | refine blk_drewN ?_ _ | refine blk_drew ?_ | refine blk_alloc ?_ _)); refine blk_far ?_ NB249_252.out _; (with_reducible repeat (first | refine blk_drewN ?_ _ | refine blk_drew ?_ | refine blk_alloc ?_ _)); refine blk_far ?_ NB249_252.out _; (with_reducible repeat (first | refine blk_drewN ?_ _ | refine blk_drew ?_ | refine blk_alloc ?_ _)); refine blk_far ?_ NB249_252.out _; (with_reducible repeat (first | refine blk_drewN ?_ _ | refine blk_drew ?_ | refine blk_alloc ?_ _)); exact BK249.out⟩, ⟨by (with_reducible repeat (first | refine blk_drewN ?_ _ | refine blk_drew ?_ | refine blk_alloc ?_ _)); refine blk_put (cs := #[.int .i64 0, .int .i64 0, .int .i64 0]) ?_ 2 _ rfl; (with_reducible repeat (first | refine blk_drewN ?_ _ | refine blk_drew ?_ | refine blk_alloc ?_ _)); refine blk_put (cs := #[.int .i64 0, .int .i64 0, .int .i64 0]) ?_ 1 _ rfl; (with_reducible repeat (first | refine blk_drewN ?_ _ | refine blk_drew ?_ | refine blk_alloc ?_ _)); refine blk_put (cs := #[.int .i64 0, .int .i64 0, .int .i64 0]) ?_ 0 _ rfl; (with_reducible repeat (first | refine blk_drewN ?_ _ | refine blk_drew ?_ | refine blk_alloc ?_ _)); exact BK252.out⟩, ⟨by repeat (first | (with_reducible first | exact HB.out | apply below_alloc | apply pw_below_drewN | apply below_drew1 | refine below_set ?_ GE235.out | refine below_set ?_ GE249.out | refine below_set ?_ GE252.out) | exact HB.out)⟩⟩
   case rest =>
    clear HC13
    try clear c1
    try clear c2
    try clear p2
    try clear c3
    try clear c4
    try clear c4b0
    try clear c4b1
    try clear c15
    try clear c16
    try clear c17
    try clear c18
    try clear c19
    try clear c20
    try clear c21
    try clear c25
    try clear c26
    try clear c28
    try clear hcz15_0
    try clear hcz15_1
    try clear hcz15_2
    try clear hcz17_0
    try clear hcz17_1
    try clear hcz17_2
    try clear hcz22_0
    try clear hcz22_1
    try clear hcz22_2
    try clear hcz27_0
    try clear hcz27_1
    try clear hcz27_2
    try clear hfz15_0
    try clear hfz15_1
    try clear hfz15_2
    try clear hfz17_0
    try clear hfz17_1
    try clear hfz17_2
    try clear hfz22_0
    try clear hfz22_1
    try clear hfz22_2
    try clear hfz27_0
    try clear hfz27_1
    try clear hfz27_2
    obtain ⟨kq, x49_12, rfl, HA, HJ12, HO_7, HO_9, HO_16, BK235, BK249, BK252, HB⟩ := hcut
    cases kq with
    | zero => exact absurd HA.out (by simp [handshakerlaw05_ReadsTells.j0])
    | succ kj12 =>
     have H := HA.out
     clear HA
     simp only [handshakerlaw05_ReadsTells.j0] at H
     have HC29 := Aside0.mk H
     clear H
     go_upto_if 49 with (fail)
     go_cut [] (fun wc => ∃ (kq : Nat) (x253000_28 : Int) (x253001_28 : Int) (x253002_28 : Int), Aside0 (handshakerlaw05_ReadsTells.j1 kq l0 t237 t240 t241 t244 t248 t250 t251 ([] : List Int) t245 t246 t247 x253000_28 x253001_28 x253002_28 = some r) ∧ Aside0 (kq ≤ kj12) ∧ Aside0 (Kd.V k24 24 wc w.heap.size (fun k_ => some k_ ≠ ((.slice none 0 0) : Value).ownBlock ∧ k_ ≠ gb235 ∧ k_ ≠ gb249 ∧ k_ ≠ gb252) v238 t237) ∧ Aside0 (Kd.V k24 24 wc w.heap.size (fun k_ => some k_ ≠ ((.slice none 0 0) : Value).ownBlock ∧ k_ ≠ gb235 ∧ k_ ≠ gb249 ∧ k_ ≠ gb252) v242 t241) ∧ Aside0 (Kd.R (Kd.int .i64) 3 wc w.heap.size (fun _ => True) (.slice none 0 0) ([] : List Int)) ∧ Aside0 (wc.heap[gb235]? = some (.cells #[.int .i64 a1_0, .int .i64 a1_1, .int .i64 a1_2] 24 (0, 0))) ∧ Aside0 (wc.heap[gb249]? = some (.cells #[.int .i64 t245, .int .i64 t246, .int .i64 t247] 24 (0, 0))) ∧ Aside0 (wc.heap[gb252]? = some (.cells #[.int .i64 x253000_28, .int .i64 x253001_28, .int .i64 x253002_28] 24 (0, 0))) ∧ Aside0 (Below w.heap.size w wc))
     case first =>
      have H := HC29.out
      clear HC29
      by_cases c30 : x49_12 = true
      · subst c30
        have H1 : (if 0 ≤ t251 then (if t251 < (l0.length : Int) then (handshakerlaw05_ReadsTells.j1 kj12 l0 t237 t240 t241 t244 t248 t250 t251 ([] : List Int) t245 t246 t247 ((rd_T24 l0 t251).f0) ((rd_T24 l0 t251).f1) ((rd_T24 l0 t251).f2)) else (none)) else (none)) = some r := by rw [if_pos rfl] at H; exact H
        clear H
        have H := H1
        clear H1
        by_cases c31 : 0 ≤ t251
        · rw [if_pos c31] at H
          have c31b0 : decide (0 ≤ t251) = true := decide_eq_true c31
          clear c31
          (first | rw [c31b0] | (simp only [i64_w, i32_w]; rw [c31b0]) | skip)
          by_cases c32 : t251 < (l0.length : Int)
          · rw [if_pos c32] at H
            have c32b0 : decide (t251 < (l0.length : Int)) = true := decide_eq_true c32
            clear c32
            have H' := Aside0.mk H
            clear H
            have p253 : 0 ≤ (t251 : Int) := of_decide_eq_true (by first | (with_reducible assumption) | assumption)
            have q253 : t251 < (l0.length : Int) := of_decide_eq_true (by first | (with_reducible assumption) | assumption)
            obtain ⟨ad253, e253, hx253_0, hx253_1, hx253_2⟩ := at_T24 HR0.out t251 p253 q253
            cases e253
            replace hx253_0 := (HB.out.cell (World.block_lt_of_cell? w _ hx253_0)).trans hx253_0
            replace hx253_1 := (HB.out.cell (World.block_lt_of_cell? w _ hx253_1)).trans hx253_1
            replace hx253_2 := (HB.out.cell (World.block_lt_of_cell? w _ hx253_2)).trans hx253_2
            replace p253 := eq_true p253
            replace q253 := eq_true q253
            have hnb33 := NB252_235.out
            have hnc33 := NB235_252.out
            have hnb34 := NB252_249.out
            have hnc34 := NB249_252.out
            have hcz35_0 : wc.cell? ⟨gb252, 0, none⟩ = some (.int .i64 0) := (blk_cell BK252.out 0).trans rfl
            have hcz35_1 : wc.cell? ⟨gb252, 1, none⟩ = some (.int .i64 0) := (blk_cell BK252.out 1).trans rfl
            have hcz35_2 : wc.cell? ⟨gb252, 2, none⟩ = some (.int .i64 0) := (blk_cell BK252.out 2).trans rfl
            have hfz35_0 := blk_frozen BK252.out 0
            have hfz35_1 := blk_frozen BK252.out 1
            have hfz35_2 := blk_frozen BK252.out 2
            go_wp2
            go_meet
            case rel => exact ⟨_, ((rd_T24 l0 t251).f0), ((rd_T24 l0 t251).f1), ((rd_T24 l0 t251).f2), H', ⟨by have := HJ12.out; first | omega | exact Nat.le_refl _⟩, ⟨by (with_reducible repeat (first | apply Kd.V_alloc | apply Kd.V_drewN | apply Kd.V_drew)); exact Kd.V_mono (Kd.V_far (p := ⟨gb252, 2, none⟩) (Kd.V_far (p := ⟨gb252, 1, none⟩) (Kd.V_far (p := ⟨gb252, 0, none⟩) (Kd.V_mono HO_7.out (fun k_ hk => (⟨hk, hk.2.2.2⟩ : _ ∧ k_ ≠ gb252))) (fun _ hk => hk.2) (.int .i64 ((rd_T24 l0 t251).f0))) (fun _ hk => hk.2) (.int .i64 ((rd_T24 l0 t251).f1))) (fun _ hk => hk.2) (.int .i64 ((rd_T24 l0 t251).f2))) (fun _ hk => ⟨hk.1.1, ⟨hk.1.2.1, ⟨hk.1.2.2.1, hk.1.2.2.2⟩⟩⟩)⟩, ⟨by (with_reducible repeat (first | apply Kd.V_alloc | apply Kd.V_drewN | apply Kd.V_drew)); exact Kd.V_mono (Kd.V_far (p := ⟨gb252, 2, none⟩) (Kd.V_far (p := ⟨gb252, 1, none⟩) (Kd.V_far (p := ⟨gb252, 0, none⟩) (Kd.V_mono HO_9.out (fun k_ hk => (⟨hk, hk.2.2.2⟩ : _ ∧ k_ ≠ gb252))) (fun _ hk => hk.2) (.int .i64 ((rd_T24 l0 t251).f0))) (fun _ hk => hk.2) (.int .i64 ((rd_T24 l0 t251).f1))) (fun _ hk => hk.2) (.int .i64 ((rd_T24 l0 t251).f2))) (fun _ hk => ⟨hk.1.1, ⟨hk.1.2.1, ⟨hk.1.2.2.1, hk.1.2.2.2⟩⟩⟩)⟩, ⟨by (with_reducible repeat (first | apply Kd.R_alloc | apply Kd.R_drewN | apply Kd.R_drew)); exact Kd.R_mono (Kd.R_far (p := ⟨gb252, 2, none⟩) (Kd.R_far (p := ⟨gb252, 1, none⟩) (Kd.R_far (p := ⟨gb252, 0, none⟩) (Kd.R_types HO_16.out BK252.out (by decide)) (fun _ hk => hk.2) (.int .i64 ((rd_T24 l0 t251).f0))) (fun _ hk => hk.2) (.int .i64 ((rd_T24 l0 t251).f1))) (fun _ hk => hk.2) (.int .i64 ((rd_T24 l0 t251).f2))) (fun _ hk => trivial)⟩, ⟨by (with_reducible repeat (first | refine blk_drewN ?_ _ | refine blk_drew ?_ | refine blk_alloc ?_ _)); refine blk_far ?_ NB235_252.out _; (with_reducible repeat (first | refine blk_drewN ?_ _ | refine blk_drew ?_ | refine blk_alloc ?_ _)); refine blk_far ?_ NB235_252.out _; (with_reducible repeat (first | refine blk_drewN ?_ _ | refine blk_drew ?_ | refine blk_alloc ?_ _)); refine blk_far ?_ NB235_252.out _; (with_reducible repeat (first | refine blk_drewN ?_ _ | refine blk_drew ?_ | refine blk_alloc ?_ _)); exact BK235.out⟩, ⟨by (with_reducible repeat (first | refine blk_drewN ?_ _ | refine blk_drew ?_ | refine blk_alloc ?_ _)); refine blk_far ?_ NB249_252.out _; (with_reducible repeat (first | refine blk_drewN ?_ _ | refine blk_drew ?_ | refine blk_alloc ?_ _)); refine blk_far ?_ NB249_252.out _; (with_reducible repeat (first | refine blk_drewN ?_ _ | refine blk_drew ?_ | refine blk_alloc ?_ _)); refine blk_far ?_ NB249_252.out _; (with_reducible repeat (first | refine blk_drewN ?_ _ | refine blk_drew ?_ | refine blk_alloc ?_ _)); exact BK249.out⟩, ⟨by (with_reducible repeat (first | refine blk_drewN ?_ _ | refine blk_drew ?_ | refine blk_alloc ?_ _)); refine blk_put (cs := #[.int .i64 ((rd_T24 l0 t251).f0), .int .i64 ((rd_T24 l0 t251).f1), .int .i64 0]) ?_ 2 _ rfl; (with_reducible repeat (first | refine blk_drewN ?_ _ | refine blk_drew ?_ | refine blk_alloc ?_ _)); refine blk_put (cs := #[.int .i64 ((rd_T24 l0 t251).f0), .int .i64 0, .int .i64 0]) ?_ 1 _ rfl; (with_reducible repeat (first | refine blk_drewN ?_ _ | refine blk_drew ?_ | refine blk_alloc ?_ _)); refine blk_put (cs := #[.int .i64 0, .int .i64 0, .int .i64 0]) ?_ 0 _ rfl; (with_reducible repeat (first | refine blk_drewN ?_ _ | refine blk_drew ?_ | refine blk_alloc ?_ _)); exact BK252.out⟩, ⟨by repeat (first | (with_reducible first | exact HB.out | apply below_alloc | apply pw_below_drewN | apply below_drew1 | refine below_set ?_ GE235.out | refine below_set ?_ GE249.out | refine below_set ?_ GE252.out) | exact HB.out)⟩⟩
          · rw [if_neg c32] at H
            exact absurd H (by simp)
        · rw [if_neg c31] at H
          exact absurd H (by simp)
      · replace c30 := Bool.eq_false_iff.mpr c30
        subst c30
        have H1 : (handshakerlaw05_ReadsTells.j1 kj12 l0 t237 t240 t241 t244 t248 t250 t251 ([] : List Int) t245 t246 t247 0 0 0) = some r := by rw [if_neg (show ¬ (false = true) by decide)] at H; exact H
        clear H
        have H := H1
        clear H1
        have H' := Aside0.mk H
        clear H
        go_wp2
        go_meet
        case rel => exact ⟨_, (0), (0), (0), H', ⟨by have := HJ12.out; first | omega | exact Nat.le_refl _⟩, ⟨by (with_reducible repeat (first | apply Kd.V_alloc | apply Kd.V_drewN | apply Kd.V_drew)); exact HO_7.out⟩, ⟨by (with_reducible repeat (first | apply Kd.V_alloc | apply Kd.V_drewN | apply Kd.V_drew)); exact HO_9.out⟩, ⟨by (with_reducible repeat (first | apply Kd.R_alloc | apply Kd.R_drewN | apply Kd.R_drew)); exact HO_16.out⟩, ⟨by (with_reducible repeat (first | refine blk_drewN ?_ _ | refine blk_drew ?_ | refine blk_alloc ?_ _)); exact BK235.out⟩, ⟨by (with_reducible repeat (first | refine blk_drewN ?_ _ | refine blk_drew ?_ | refine blk_alloc ?_ _)); exact BK249.out⟩, ⟨by (with_reducible repeat (first | refine blk_drewN ?_ _ | refine blk_drew ?_ | refine blk_alloc ?_ _)); exact BK252.out⟩, ⟨by repeat (first | (with_reducible first | exact HB.out | apply below_alloc | apply pw_below_drewN | apply below_drew1 | refine below_set ?_ GE235.out | refine below_set ?_ GE249.out | refine below_set ?_ GE252.out) | exact HB.out)⟩⟩
     case rest =>
      clear HC29
      try clear c1
      try clear c2
      try clear p2
      try clear q2
      try clear hx2
      try clear c3
      try clear c4
      try clear c4b0
      try clear c4b1
      try clear c15
      try clear c16
      try clear c17
      try clear c18
      try clear c19
      try clear c20
      try clear c21
      try clear c25
      try clear p25
      try clear q25
      try clear hx25
      try clear c26
      try clear c28
      try clear c30
      try clear c31
      try clear c31b0
      try clear c32
      try clear c32b0
      try clear c33
      try clear c34
      try clear hcz15_0
      try clear hcz15_1
      try clear hcz15_2
      try clear hcz17_0
      try clear hcz17_1
      try clear hcz17_2
      try clear hcz22_0
      try clear hcz22_1
      try clear hcz22_2
      try clear hcz27_0
      try clear hcz27_1
      try clear hcz27_2
      try clear hcz35_0
      try clear hcz35_1
      try clear hcz35_2
      try clear hfz15_0
      try clear hfz15_1
      try clear hfz15_2
      try clear hfz17_0
      try clear hfz17_1
      try clear hfz17_2
      try clear hfz22_0
      try clear hfz22_1
      try clear hfz22_2
      try clear hfz27_0
      try clear hfz27_1
      try clear hfz27_2
      try clear hfz35_0
      try clear hfz35_1
      try clear hfz35_2
      try clear hx253_0
      try clear hx253_1
      try clear hx253_2
      try clear p2
      try clear p253
      try clear q253
      obtain ⟨kq, x253000_28, x253001_28, x253002_28, HA, HJ28, HO_7, HO_9, HO_16, BK235, BK249, BK252, HB⟩ := hcut
      cases kq with
      | zero => exact absurd HA.out (by simp [handshakerlaw05_ReadsTells.j1])
      | succ kj28 =>
       have H := HA.out
       clear HA
       simp only [handshakerlaw05_ReadsTells.j1] at H
       have HC36 := Aside0.mk H
       clear H
       go_upto_if 54 with (fail)
       go_cut [16] (fun v16 wc => ∃ (kq : Nat) (x16_35 : List Int), Aside0 (handshakerlaw05_ReadsTells.j2 kq l0 t237 t240 t241 t244 t248 t250 t251 x16_35 t245 t246 t247 x253000_28 x253001_28 x253002_28 = some r) ∧ Aside0 (kq ≤ kj28) ∧ Aside0 (Kd.V k24 24 wc w.heap.size (fun k_ => some k_ ≠ (v16 : Value).ownBlock ∧ k_ ≠ gb235 ∧ k_ ≠ gb249 ∧ k_ ≠ gb252) v238 t237) ∧ Aside0 (Kd.V k24 24 wc w.heap.size (fun k_ => some k_ ≠ (v16 : Value).ownBlock ∧ k_ ≠ gb235 ∧ k_ ≠ gb249 ∧ k_ ≠ gb252) v242 t241) ∧ Aside0 (Kd.R (Kd.int .i64) 3 wc w.heap.size (fun _ => True) v16 x16_35) ∧ Aside0 (wc.heap[gb235]? = some (.cells #[.int .i64 a1_0, .int .i64 a1_1, .int .i64 a1_2] 24 (0, 0))) ∧ Aside0 (wc.heap[gb249]? = some (.cells #[.int .i64 t245, .int .i64 t246, .int .i64 t247] 24 (0, 0))) ∧ Aside0 (wc.heap[gb252]? = some (.cells #[.int .i64 x253000_28, .int .i64 x253001_28, .int .i64 x253002_28] 24 (0, 0))) ∧ Aside0 (Below w.heap.size w wc))
       case first =>
        have H := HC36.out
        clear HC36
        by_cases c37 : t250 = true
        · subst c37
          have H1 : ((handshakerref05_Cells.f kj28 l0).bind fun t254 => (handshakerlaw05_ReadsTells.j2 kj28 l0 t237 t240 t241 t244 t248 true t251 t254 t245 t246 t247 x253000_28 x253001_28 x253002_28)) = some r := by rw [if_pos rfl] at H; exact H
          clear H
          have H := H1
          clear H1
          replace H := Option.bind_eq_some_iff.mp H
          obtain ⟨t254, A380, H⟩ := H
          replace H : (handshakerlaw05_ReadsTells.j2 kj28 l0 t237 t240 t241 t244 t248 true t251 t254 t245 t246 t247 x253000_28 x253001_28 x253002_28) = some r := H
          have A38 := Aside0.mk A380
          clear A380
          have H' := Aside0.mk H
          clear H
          go_wp2_with (first | ((with_reducible refine gate_callee (f := 21) rfl ?_); refine goesL_ (some 56) rfl rfl Try.func21 (by kernel_rfl) rfl #[.slice A0 l0.length c0] rfl (by (try simp only [List.map_toArray, List.map_cons, List.map_nil]); first | done | rfl) ?_; (with_reducible refine (handshakerref05_Cells.calls kj28 _ _ l0 t254 _ ?side1 ?side2 A38.out).mono ?_); (case side1 => repeat (first | exact (Kd.C_below HR0.out HB.out) | with_reducible first | refine Kd.C_alloc ?_ _ | refine Kd.C_drewN ?_ _ | refine Kd.C_drew ?_)); (case side2 => exact HC0.out); rintro e w39 ⟨v255, rfl, ho0, hb⟩; refine ⟨_, rfl, ?_⟩; have n0_ := Aside0.mk (Kd.V_elder' (by (with_reducible repeat (first | apply Kd.V_alloc | apply Kd.V_drewN | apply Kd.V_drew)); exact HO_7.out) (Kd.R_base ho0) hb); have n1_ := Aside0.mk (Kd.V_elder' (by (with_reducible repeat (first | apply Kd.V_alloc | apply Kd.V_drewN | apply Kd.V_drew)); exact HO_9.out) (Kd.R_base ho0) hb); have n2_ := Aside0.mk (Kd.R_elder' (by (with_reducible repeat (first | apply Kd.R_alloc | apply Kd.R_drewN | apply Kd.R_drew)); exact HO_16.out) (Kd.R_base ho0) hb); have n3_ := Aside0.mk (Kd.R_lower (Kd.R_new' ho0 (Kd.R_lt (by (with_reducible repeat (first | apply Kd.R_alloc | apply Kd.R_drewN | apply Kd.R_drew)); exact HO_16.out))) (below_size (by repeat (first | (with_reducible first | exact HB.out | apply below_alloc | apply pw_below_drewN | apply below_drew1 | refine below_set ?_ GE235.out | refine below_set ?_ GE249.out | refine below_set ?_ GE252.out) | exact HB.out)))); have n4_ := Aside0.mk (blk_below (g := gb235) (o := .cells #[.int .i64 a1_0, .int .i64 a1_1, .int .i64 a1_2] 24 (0, 0)) (by (with_reducible repeat (first | refine blk_drewN ?_ _ | refine blk_drew ?_ | refine blk_alloc ?_ _)); exact BK235.out) hb); have n5_ := Aside0.mk (blk_below (g := gb249) (o := .cells #[.int .i64 t245, .int .i64 t246, .int .i64 t247] 24 (0, 0)) (by (with_reducible repeat (first | refine blk_drewN ?_ _ | refine blk_drew ?_ | refine blk_alloc ?_ _)); exact BK249.out) hb); have n6_ := Aside0.mk (blk_below (g := gb252) (o := .cells #[.int .i64 x253000_28, .int .i64 x253001_28, .int .i64 x253002_28] 24 (0, 0)) (by (with_reducible repeat (first | refine blk_drewN ?_ _ | refine blk_drew ?_ | refine blk_alloc ?_ _)); exact BK252.out) hb); have n7_ := Aside0.mk (below_step (by repeat (first | (with_reducible first | exact HB.out | apply below_alloc | apply pw_below_drewN | apply below_drew1 | refine below_set ?_ GE235.out | refine below_set ?_ GE249.out | refine below_set ?_ GE252.out) | exact HB.out)) hb); clear HO_7; clear HO_9; clear HO_16; clear BK235; clear BK249; clear BK252; clear HB; have HO_7 := n0_; have HO_9 := n1_; have HO_16 := n2_; have HO256 := n3_; have BK235 := n4_; have BK249 := n5_; have BK252 := n6_; have HB := n7_; clear n0_ n1_ n2_ n3_ n4_ n5_ n6_ n7_; (try clear hb); (try clear hb2); (try clear hk); (try clear hi); (try clear ho0)))
          go_meet
          case rel => exact ⟨_, (t254), H', ⟨by have := HJ12.out; have := HJ28.out; first | omega | exact Nat.le_refl _⟩, ⟨by (with_reducible repeat (first | apply Kd.V_alloc | apply Kd.V_drewN | apply Kd.V_drew)); exact Kd.V_mono HO_7.out (fun _ hk => ⟨hk.2, ⟨hk.1.2.1, ⟨hk.1.2.2.1, hk.1.2.2.2⟩⟩⟩)⟩, ⟨by (with_reducible repeat (first | apply Kd.V_alloc | apply Kd.V_drewN | apply Kd.V_drew)); exact Kd.V_mono HO_9.out (fun _ hk => ⟨hk.2, ⟨hk.1.2.1, ⟨hk.1.2.2.1, hk.1.2.2.2⟩⟩⟩)⟩, ⟨by (with_reducible repeat (first | apply Kd.R_alloc | apply Kd.R_drewN | apply Kd.R_drew)); exact Kd.R_mono HO256.out (fun _ hk => trivial)⟩, ⟨by (with_reducible repeat (first | refine blk_drewN ?_ _ | refine blk_drew ?_ | refine blk_alloc ?_ _)); exact BK235.out⟩, ⟨by (with_reducible repeat (first | refine blk_drewN ?_ _ | refine blk_drew ?_ | refine blk_alloc ?_ _)); exact BK249.out⟩, ⟨by (with_reducible repeat (first | refine blk_drewN ?_ _ | refine blk_drew ?_ | refine blk_alloc ?_ _)); exact BK252.out⟩, ⟨by repeat (first | (with_reducible first | exact HB.out | apply below_alloc | apply pw_below_drewN | apply below_drew1 | refine below_set ?_ GE235.out | refine below_set ?_ GE249.out | refine below_set ?_ GE252.out) | exact HB.out)⟩⟩
        · replace c37 := Bool.eq_false_iff.mpr c37
          subst c37
          have H1 : (handshakerlaw05_ReadsTells.j2 kj28 l0 t237 t240 t241 t244 t248 false t251 ([] : List Int) t245 t246 t247 x253000_28 x253001_28 x253002_28) = some r := by rw [if_neg (show ¬ (false = true) by decide)] at H; exact H
          clear H
          have H := H1
          clear H1
          have H' := Aside0.mk H
          clear H
          go_wp2
          go_meet
          case rel => exact ⟨_, (([] : List Int)), H', ⟨by have := HJ12.out; have := HJ28.out; first | omega | exact Nat.le_refl _⟩, ⟨by (with_reducible repeat (first | apply Kd.V_alloc | apply Kd.V_drewN | apply Kd.V_drew)); exact HO_7.out⟩, ⟨by (with_reducible repeat (first | apply Kd.V_alloc | apply Kd.V_drewN | apply Kd.V_drew)); exact HO_9.out⟩, ⟨by (with_reducible repeat (first | apply Kd.R_alloc | apply Kd.R_drewN | apply Kd.R_drew)); exact HO_16.out⟩, ⟨by (with_reducible repeat (first | refine blk_drewN ?_ _ | refine blk_drew ?_ | refine blk_alloc ?_ _)); exact BK235.out⟩, ⟨by (with_reducible repeat (first | refine blk_drewN ?_ _ | refine blk_drew ?_ | refine blk_alloc ?_ _)); exact BK249.out⟩, ⟨by (with_reducible repeat (first | refine blk_drewN ?_ _ | refine blk_drew ?_ | refine blk_alloc ?_ _)); exact BK252.out⟩, ⟨by repeat (first | (with_reducible first | exact HB.out | apply below_alloc | apply pw_below_drewN | apply below_drew1 | refine below_set ?_ GE235.out | refine below_set ?_ GE249.out | refine below_set ?_ GE252.out) | exact HB.out)⟩⟩
       case rest =>
        clear HC36
        try clear c1
        try clear c2
        try clear p2
        try clear q2
        try clear hx2
        try clear c3
        try clear c4
        try clear c4b0
        try clear c4b1
        try clear c15
        try clear c16
        try clear c17
        try clear c18
        try clear c19
        try clear c20
        try clear c21
        try clear c25
        try clear p25
        try clear q25
        try clear hx25
        try clear c26
        try clear c28
        try clear c30
        try clear c31
        try clear c31b0
        try clear c32
        try clear c32b0
        try clear c33
        try clear c34
        try clear c37
        try clear hcz15_0
        try clear hcz15_1
        try clear hcz15_2
        try clear hcz17_0
        try clear hcz17_1
        try clear hcz17_2
        try clear hcz22_0
        try clear hcz22_1
        try clear hcz22_2
        try clear hcz27_0
        try clear hcz27_1
        try clear hcz27_2
        try clear hcz35_0
        try clear hcz35_1
        try clear hcz35_2
        try clear hfz15_0
        try clear hfz15_1
        try clear hfz15_2
        try clear hfz17_0
        try clear hfz17_1
        try clear hfz17_2
        try clear hfz22_0
        try clear hfz22_1
        try clear hfz22_2
        try clear hfz27_0
        try clear hfz27_1
        try clear hfz27_2
        try clear hfz35_0
        try clear hfz35_1
        try clear hfz35_2
        try clear hx253_0
        try clear hx253_1
        try clear hx253_2
        try clear p2
        try clear p25
        try clear p253
        try clear q2
        try clear q25
        try clear q253
        obtain ⟨kq, x16_35, HA, HJ35, HO_7, HO_9, HO_16, BK235, BK249, BK252, HB⟩ := hcut
        cases kq with
        | zero => exact absurd HA.out (by simp [handshakerlaw05_ReadsTells.j2])
        | succ kj35 =>
         have H := HA.out
         clear HA
         simp only [handshakerlaw05_ReadsTells.j2] at H
         replace H := Option.bind_eq_some_iff.mp H
         obtain ⟨t257, A400, H⟩ := H
         replace H : (if t257 = true then (if t250 = true then ((handshakerref05_Same.f kj35 t237 t241).bind fun t258 => (if t258 = true then (if t240 = t244 then (if (t245 == x253000_28 && (t246 == x253001_28 && (t247 == x253002_28))) = true then (if t248 = true then (if t251 ≥ 0 then ((reads_Cells.f kj35 l0).bind fun t259 => ((handshakerref03_Numbers.f kj35 t259 x16_35).bind fun t262 => (if t262 = true then ((handshakerlaw05_awake.f kj35).bind fun t263 => (some t263)) else (some false)))) else (some false)) else (if t251 ≥ 0 then (some false) else ((reads_Cells.f kj35 l0).bind fun t264 => ((handshakerref03_Numbers.f kj35 t264 x16_35).bind fun t267 => (if t267 = true then ((handshakerlaw05_awake.f kj35).bind fun t268 => (some t268)) else (some false)))))) else (some false)) else (some false)) else (some false))) else (some false)) else (if t250 = true then (some false) else ((handshakerref05_Same.f kj35 t237 t241).bind fun t269 => (if t269 = true then (if t240 = t244 then (if (t245 == x253000_28 && (t246 == x253001_28 && (t247 == x253002_28))) = true then (if t248 = true then (some false) else ((reads_Cells.f kj35 l0).bind fun t270 => ((handshakerref03_Numbers.f kj35 t270 x16_35).bind fun t273 => (if t273 = true then ((handshakerlaw05_awake.f kj35).bind fun t274 => (some t274)) else (some false))))) else (some false)) else (some false)) else (some false))))) = some r := H
         have A40 := Aside0.mk A400
         clear A400
         by_cases c41 : t257 = true
         · subst c41
           have H1 : (if t250 = true then ((handshakerref05_Same.f kj35 t237 t241).bind fun t258 => (if t258 = true then (if t240 = t244 then (if (t245 == x253000_28 && (t246 == x253001_28 && (t247 == x253002_28))) = true then (if t248 = true then (if t251 ≥ 0 then ((reads_Cells.f kj35 l0).bind fun t259 => ((handshakerref03_Numbers.f kj35 t259 x16_35).bind fun t262 => (if t262 = true then ((handshakerlaw05_awake.f kj35).bind fun t263 => (some t263)) else (some false)))) else (some false)) else (if t251 ≥ 0 then (some false) else ((reads_Cells.f kj35 l0).bind fun t264 => ((handshakerref03_Numbers.f kj35 t264 x16_35).bind fun t267 => (if t267 = true then ((handshakerlaw05_awake.f kj35).bind fun t268 => (some t268)) else (some false)))))) else (some false)) else (some false)) else (some false))) else (some false)) = some r := by rw [if_pos rfl] at H; exact H
           clear H
           have H := H1
           clear H1
           by_cases c42 : t250 = true
           · subst c42
             have H1 : ((handshakerref05_Same.f kj35 t237 t241).bind fun t258 => (if t258 = true then (if t240 = t244 then (if (t245 == x253000_28 && (t246 == x253001_28 && (t247 == x253002_28))) = true then (if t248 = true then (if t251 ≥ 0 then ((reads_Cells.f kj35 l0).bind fun t259 => ((handshakerref03_Numbers.f kj35 t259 x16_35).bind fun t262 => (if t262 = true then ((handshakerlaw05_awake.f kj35).bind fun t263 => (some t263)) else (some false)))) else (some false)) else (if t251 ≥ 0 then (some false) else ((reads_Cells.f kj35 l0).bind fun t264 => ((handshakerref03_Numbers.f kj35 t264 x16_35).bind fun t267 => (if t267 = true then ((handshakerlaw05_awake.f kj35).bind fun t268 => (some t268)) else (some false)))))) else (some false)) else (some false)) else (some false))) = some r := by rw [if_pos rfl] at H; exact H
             clear H
             have H := H1
             clear H1
             replace H := Option.bind_eq_some_iff.mp H
             obtain ⟨t258, A430, H⟩ := H
             replace H : (if t258 = true then (if t240 = t244 then (if (t245 == x253000_28 && (t246 == x253001_28 && (t247 == x253002_28))) = true then (if t248 = true then (if t251 ≥ 0 then ((reads_Cells.f kj35 l0).bind fun t259 => ((handshakerref03_Numbers.f kj35 t259 x16_35).bind fun t262 => (if t262 = true then ((handshakerlaw05_awake.f kj35).bind fun t263 => (some t263)) else (some false)))) else (some false)) else (if t251 ≥ 0 then (some false) else ((reads_Cells.f kj35 l0).bind fun t264 => ((handshakerref03_Numbers.f kj35 t264 x16_35).bind fun t267 => (if t267 = true then ((handshakerlaw05_awake.f kj35).bind fun t268 => (some t268)) else (some false)))))) else (some false)) else (some false)) else (some false)) = some r := H
             have A43 := Aside0.mk A430
             clear A430
             by_cases c44 : t258 = true
             · subst c44
               have H1 : (if t240 = t244 then (if (t245 == x253000_28 && (t246 == x253001_28 && (t247 == x253002_28))) = true then (if t248 = true then (if t251 ≥ 0 then ((reads_Cells.f kj35 l0).bind fun t259 => ((handshakerref03_Numbers.f kj35 t259 x16_35).bind fun t262 => (if t262 = true then ((handshakerlaw05_awake.f kj35).bind fun t263 => (some t263)) else (some false)))) else (some false)) else (if t251 ≥ 0 then (some false) else ((reads_Cells.f kj35 l0).bind fun t264 => ((handshakerref03_Numbers.f kj35 t264 x16_35).bind fun t267 => (if t267 = true then ((handshakerlaw05_awake.f kj35).bind fun t268 => (some t268)) else (some false)))))) else (some false)) else (some false)) = some r := by rw [if_pos rfl] at H; exact H
               clear H
               have H := H1
               clear H1
               by_cases c45 : t240 = t244
               · rw [if_pos c45] at H
                 have c45b0 : (t240 == t244) = true := beq_iff_eq.mpr c45
                 have c45b1 : (t240 != t244) = false := bne_eq_false_iff_eq.mpr c45
                 clear c45
                 by_cases c46 : (t245 == x253000_28 && (t246 == x253001_28 && (t247 == x253002_28))) = true
                 · rw [if_pos c46] at H
                   have c46b0 : (t245 == x253000_28 && (t246 == x253001_28 && (t247 == x253002_28))) = true := c46
                   (try (have c46b1 : decide (t245 = x253000_28 && (t246 == x253001_28 && (t247 == x253002_28))) = true := by simpa using c46))
                   (try (have c46b2 : (t245 == x253000_28 && (t246 == x253001_28 && (t247 == x253002_28))) = true := by simpa using c46))
                   clear c46
                   by_cases c47 : t248 = true
                   · subst c47
                     have H1 : (if t251 ≥ 0 then ((reads_Cells.f kj35 l0).bind fun t259 => ((handshakerref03_Numbers.f kj35 t259 x16_35).bind fun t262 => (if t262 = true then ((handshakerlaw05_awake.f kj35).bind fun t263 => (some t263)) else (some false)))) else (some false)) = some r := by rw [if_pos rfl] at H; exact H
                     clear H
                     have H := H1
                     clear H1
                     by_cases c48 : t251 ≥ 0
                     · rw [if_pos c48] at H
                       have c48b0 : decide (0 ≤ t251) = true := decide_eq_true c48
                       clear c48
                       replace H := Option.bind_eq_some_iff.mp H
                       obtain ⟨t259, A490, H⟩ := H
                       replace H : ((handshakerref03_Numbers.f kj35 t259 x16_35).bind fun t262 => (if t262 = true then ((handshakerlaw05_awake.f kj35).bind fun t263 => (some t263)) else (some false))) = some r := H
                       have A49 := Aside0.mk A490
                       clear A490
                       replace H := Option.bind_eq_some_iff.mp H
                       obtain ⟨t262, A500, H⟩ := H
                       replace H : (if t262 = true then ((handshakerlaw05_awake.f kj35).bind fun t263 => (some t263)) else (some false)) = some r := H
                       have A50 := Aside0.mk A500
                       clear A500
                       by_cases c51 : t262 = true
                       · subst c51
                         have H1 : ((handshakerlaw05_awake.f kj35).bind fun t263 => (some t263)) = some r := by rw [if_pos rfl] at H; exact H
                         clear H
                         have H := H1
                         clear H1
                         replace H := Option.bind_eq_some_iff.mp H
                         obtain ⟨t263, A520, H⟩ := H
                         replace H : (some t263) = some r := H
                         have A52 := Aside0.mk A520
                         clear A520
                         obtain rfl := Option.some.inj H
                         go_wp2_with (first | ((with_reducible refine gate_callee (f := 22) rfl ?_); refine goesL_ (some 58) rfl rfl Try.func22 (by kernel_rfl) rfl #[.slice A0 l0.length c0] rfl (by (try simp only [List.map_toArray, List.map_cons, List.map_nil]); first | done | rfl) ?_; (with_reducible refine (reads_Right.calls kj35 _ _ l0 true _ ?side1 ?side2 A40.out).mono ?_); (case side1 => repeat (first | exact (Kd.C_below HR0.out HB.out) | with_reducible first | refine Kd.C_alloc ?_ _ | refine Kd.C_drewN ?_ _ | refine Kd.C_drew ?_)); (case side2 => exact HC0.out); rintro e w53 ⟨rfl, hb⟩; refine ⟨_, rfl, ?_⟩; have n0_ := Aside0.mk (Kd.V_below (by (with_reducible repeat (first | apply Kd.V_alloc | apply Kd.V_drewN | apply Kd.V_drew)); exact HO_7.out) hb); have n1_ := Aside0.mk (Kd.V_below (by (with_reducible repeat (first | apply Kd.V_alloc | apply Kd.V_drewN | apply Kd.V_drew)); exact HO_9.out) hb); have n2_ := Aside0.mk (Kd.R_below (by (with_reducible repeat (first | apply Kd.R_alloc | apply Kd.R_drewN | apply Kd.R_drew)); exact HO_16.out) hb); have n3_ := Aside0.mk (blk_below (g := gb235) (o := .cells #[.int .i64 a1_0, .int .i64 a1_1, .int .i64 a1_2] 24 (0, 0)) (by (with_reducible repeat (first | refine blk_drewN ?_ _ | refine blk_drew ?_ | refine blk_alloc ?_ _)); exact BK235.out) hb); have n4_ := Aside0.mk (blk_below (g := gb249) (o := .cells #[.int .i64 t245, .int .i64 t246, .int .i64 t247] 24 (0, 0)) (by (with_reducible repeat (first | refine blk_drewN ?_ _ | refine blk_drew ?_ | refine blk_alloc ?_ _)); exact BK249.out) hb); have n5_ := Aside0.mk (blk_below (g := gb252) (o := .cells #[.int .i64 x253000_28, .int .i64 x253001_28, .int .i64 x253002_28] 24 (0, 0)) (by (with_reducible repeat (first | refine blk_drewN ?_ _ | refine blk_drew ?_ | refine blk_alloc ?_ _)); exact BK252.out) hb); have n6_ := Aside0.mk (below_step (by repeat (first | (with_reducible first | exact HB.out | apply below_alloc | apply pw_below_drewN | apply below_drew1 | refine below_set ?_ GE235.out | refine below_set ?_ GE249.out | refine below_set ?_ GE252.out) | exact HB.out)) hb); clear HO_7; clear HO_9; clear HO_16; clear BK235; clear BK249; clear BK252; clear HB; have HO_7 := n0_; have HO_9 := n1_; have HO_16 := n2_; have BK235 := n3_; have BK249 := n4_; have BK252 := n5_; have HB := n6_; clear n0_ n1_ n2_ n3_ n4_ n5_ n6_; (try clear hb); (try clear hb2); (try clear hk); (try clear hi); obtain ⟨Ao54, co54, eo54⟩ := Kd.V_slice HO_7.out; subst eo54; obtain ⟨Ao55, co55, eo55⟩ := Kd.V_slice HO_9.out; subst eo55) | (go_at_call 23; (with_reducible refine (handshakerref05_Same.calls kj35 _ _ t237 _ _ t241 true _ ?side1 ?side2 ?side3 ?side4 A43.out).mono ?_); (case side1 => repeat (first | exact (Kd.V_reads' HO_7.out).2.2 | with_reducible first | refine Kd.C_alloc ?_ _ | refine Kd.C_drewN ?_ _ | refine Kd.C_drew ?_)); (case side2 => exact (Kd.V_reads' HO_7.out).2.1); (case side3 => repeat (first | exact (Kd.V_reads' HO_9.out).2.2 | with_reducible first | refine Kd.C_alloc ?_ _ | refine Kd.C_drewN ?_ _ | refine Kd.C_drew ?_)); (case side4 => exact (Kd.V_reads' HO_9.out).2.1); rintro e w' ⟨rfl, ⟨nd, rfl⟩⟩; have hnb56 := NB249_235.out; have hnc56 := NB235_249.out; have hnb57 := NB249_252.out; have hnc57 := NB252_249.out; have hcz58_0 : w53.cell? ⟨gb249, 0, none⟩ = some (.int .i64 t245) := (blk_cell BK249.out 0).trans rfl; have hcz58_1 : w53.cell? ⟨gb249, 1, none⟩ = some (.int .i64 t246) := (blk_cell BK249.out 1).trans rfl; have hcz58_2 : w53.cell? ⟨gb249, 2, none⟩ = some (.int .i64 t247) := (blk_cell BK249.out 2).trans rfl; have hfz58_0 := blk_frozen BK249.out 0; have hfz58_1 := blk_frozen BK249.out 1; have hfz58_2 := blk_frozen BK249.out 2; have hnb59 := NB252_235.out; have hnc59 := NB235_252.out; have hcz60_0 : w53.cell? ⟨gb252, 0, none⟩ = some (.int .i64 x253000_28) := (blk_cell BK252.out 0).trans rfl; have hcz60_1 : w53.cell? ⟨gb252, 1, none⟩ = some (.int .i64 x253001_28) := (blk_cell BK252.out 1).trans rfl; have hcz60_2 : w53.cell? ⟨gb252, 2, none⟩ = some (.int .i64 x253002_28) := (blk_cell BK252.out 2).trans rfl; have hfz60_0 := blk_frozen BK252.out 0; have hfz60_1 := blk_frozen BK252.out 1; have hfz60_2 := blk_frozen BK252.out 2) | (go_at_call 25; (with_reducible refine (reads_Cells.calls kj35 _ _ l0 t259 _ ?side1 ?side2 A49.out).mono ?_); (case side1 => repeat (first | exact (Kd.C_below HR0.out (by repeat (first | (with_reducible first | exact HB.out | apply below_alloc | apply pw_below_drewN | apply below_drew1 | refine below_set ?_ GE235.out | refine below_set ?_ GE249.out | refine below_set ?_ GE252.out) | exact HB.out))) | with_reducible first | refine Kd.C_alloc ?_ _ | refine Kd.C_drewN ?_ _ | refine Kd.C_drew ?_)); (case side2 => exact HC0.out); rintro e w61 ⟨v260, rfl, ho0, hb⟩; have n0_ := Aside0.mk (Kd.V_elder' (by (with_reducible repeat (first | apply Kd.V_alloc | apply Kd.V_drewN | apply Kd.V_drew)); exact HO_7.out) (Kd.R_base ho0) hb); have n1_ := Aside0.mk (Kd.V_elder' (by (with_reducible repeat (first | apply Kd.V_alloc | apply Kd.V_drewN | apply Kd.V_drew)); exact HO_9.out) (Kd.R_base ho0) hb); have n2_ := Aside0.mk (Kd.R_elder' (by (with_reducible repeat (first | apply Kd.R_alloc | apply Kd.R_drewN | apply Kd.R_drew)); exact HO_16.out) (Kd.R_base ho0) hb); have n3_ := Aside0.mk (Kd.R_lower (Kd.R_new' ho0 (Kd.R_lt (by (with_reducible repeat (first | apply Kd.R_alloc | apply Kd.R_drewN | apply Kd.R_drew)); exact HO_16.out))) (below_size (by repeat (first | (with_reducible first | exact HB.out | apply below_alloc | apply pw_below_drewN | apply below_drew1 | refine below_set ?_ GE235.out | refine below_set ?_ GE249.out | refine below_set ?_ GE252.out) | exact HB.out)))); have n4_ := Aside0.mk (blk_below (g := gb235) (o := .cells #[.int .i64 a1_0, .int .i64 a1_1, .int .i64 a1_2] 24 (0, 0)) (by (with_reducible repeat (first | refine blk_drewN ?_ _ | refine blk_drew ?_ | refine blk_alloc ?_ _)); exact BK235.out) hb); have n5_ := Aside0.mk (blk_below (g := gb249) (o := .cells #[.int .i64 t245, .int .i64 t246, .int .i64 t247] 24 (0, 0)) (by (with_reducible repeat (first | refine blk_drewN ?_ _ | refine blk_drew ?_ | refine blk_alloc ?_ _)); exact BK249.out) hb); have n6_ := Aside0.mk (blk_below (g := gb252) (o := .cells #[.int .i64 x253000_28, .int .i64 x253001_28, .int .i64 x253002_28] 24 (0, 0)) (by (with_reducible repeat (first | refine blk_drewN ?_ _ | refine blk_drew ?_ | refine blk_alloc ?_ _)); exact BK252.out) hb); have n7_ := Aside0.mk (below_step (by repeat (first | (with_reducible first | exact HB.out | apply below_alloc | apply pw_below_drewN | apply below_drew1 | refine below_set ?_ GE235.out | refine below_set ?_ GE249.out | refine below_set ?_ GE252.out) | exact HB.out)) hb); clear HO_7; clear HO_9; clear HO_16; clear BK235; clear BK249; clear BK252; clear HB; have HO_7 := n0_; have HO_9 := n1_; have HO_16 := n2_; have HO261 := n3_; have BK235 := n4_; have BK249 := n5_; have BK252 := n6_; have HB := n7_; clear n0_ n1_ n2_ n3_ n4_ n5_ n6_ n7_; (try clear hb); (try clear hb2); (try clear hk); (try clear hi); (try clear ho0); obtain ⟨Ao62, co62, eo62⟩ := Kd.R_slice HO261.out; subst eo62; obtain ⟨Ao63, co63, eo63⟩ := Kd.R_slice HO_16.out; subst eo63) | (go_at_call 24; (with_reducible refine (handshakerref03_Numbers.calls kj35 _ _ t259 _ _ x16_35 true _ ?side1 ?side2 ?side3 ?side4 A50.out).mono ?_); (case side1 => repeat (first | exact (Kd.R_reads' HO261.out).2.2 | with_reducible first | refine Kd.C_alloc ?_ _ | refine Kd.C_drewN ?_ _ | refine Kd.C_drew ?_)); (case side2 => exact (Kd.R_reads' HO261.out).2.1); (case side3 => repeat (first | exact (Kd.R_reads' HO_16.out).2.2 | with_reducible first | refine Kd.C_alloc ?_ _ | refine Kd.C_drewN ?_ _ | refine Kd.C_drew ?_)); (case side4 => exact (Kd.R_reads' HO_16.out).2.1); rintro e w' ⟨rfl, ⟨nd, rfl⟩⟩) | (go_at_call 15; (with_reducible refine (handshakerlaw05_awake.calls kj35  t263 _ A52.out).mono ?_); rintro e w64 ⟨rfl, hb⟩; have n0_ := Aside0.mk (Kd.V_below (by (with_reducible repeat (first | apply Kd.V_alloc | apply Kd.V_drewN | apply Kd.V_drew)); exact HO_7.out) hb); have n1_ := Aside0.mk (Kd.V_below (by (with_reducible repeat (first | apply Kd.V_alloc | apply Kd.V_drewN | apply Kd.V_drew)); exact HO_9.out) hb); have n2_ := Aside0.mk (Kd.R_below (by (with_reducible repeat (first | apply Kd.R_alloc | apply Kd.R_drewN | apply Kd.R_drew)); exact HO_16.out) hb); have n3_ := Aside0.mk (Kd.R_below (by (with_reducible repeat (first | apply Kd.R_alloc | apply Kd.R_drewN | apply Kd.R_drew)); exact HO261.out) hb); have n4_ := Aside0.mk (blk_below (g := gb235) (o := .cells #[.int .i64 a1_0, .int .i64 a1_1, .int .i64 a1_2] 24 (0, 0)) (by (with_reducible repeat (first | refine blk_drewN ?_ _ | refine blk_drew ?_ | refine blk_alloc ?_ _)); exact BK235.out) hb); have n5_ := Aside0.mk (blk_below (g := gb249) (o := .cells #[.int .i64 t245, .int .i64 t246, .int .i64 t247] 24 (0, 0)) (by (with_reducible repeat (first | refine blk_drewN ?_ _ | refine blk_drew ?_ | refine blk_alloc ?_ _)); exact BK249.out) hb); have n6_ := Aside0.mk (blk_below (g := gb252) (o := .cells #[.int .i64 x253000_28, .int .i64 x253001_28, .int .i64 x253002_28] 24 (0, 0)) (by (with_reducible repeat (first | refine blk_drewN ?_ _ | refine blk_drew ?_ | refine blk_alloc ?_ _)); exact BK252.out) hb); have n7_ := Aside0.mk (below_step (by repeat (first | (with_reducible first | exact HB.out | apply below_alloc | apply pw_below_drewN | apply below_drew1 | refine below_set ?_ GE235.out | refine below_set ?_ GE249.out | refine below_set ?_ GE252.out) | exact HB.out)) hb); clear HO_7; clear HO_9; clear HO_16; clear HO261; clear BK235; clear BK249; clear BK252; clear HB; have HO_7 := n0_; have HO_9 := n1_; have HO_16 := n2_; have HO261 := n3_; have BK235 := n4_; have BK249 := n5_; have BK252 := n6_; have HB := n7_; clear n0_ n1_ n2_ n3_ n4_ n5_ n6_ n7_; (try clear hb); (try clear hb2); (try clear hk); (try clear hi)))
                         go_ret
                         exact ⟨by first | rfl | (simp [errW_none, errW_some] <;> rfl) | (simp [*, errW_none, errW_some] <;> rfl), by repeat (first | (with_reducible first | exact HB.out | apply below_alloc | apply pw_below_drewN | apply below_drew1 | refine below_set ?_ GE235.out | refine below_set ?_ GE249.out | refine below_set ?_ GE252.out) | exact HB.out)⟩
                       · replace c51 := Bool.eq_false_iff.mpr c51
                         subst c51
                         have H1 : (some false) = some r := by rw [if_neg (show ¬ (false = true) by decide)] at H; exact H
                         clear H
                         have H := H1
                         clear H1
                         exact absurd (Option.some.inj H) (by rw [HT.out]; decide)
                     · rw [if_neg c48] at H
                       have c48b0 : decide (0 ≤ t251) = false := decide_eq_false c48
                       clear c48
                       exact absurd (Option.some.inj H) (by rw [HT.out]; decide)
                   · replace c47 := Bool.eq_false_iff.mpr c47
                     subst c47
                     have H1 : (if t251 ≥ 0 then (some false) else ((reads_Cells.f kj35 l0).bind fun t264 => ((handshakerref03_Numbers.f kj35 t264 x16_35).bind fun t267 => (if t267 = true then ((handshakerlaw05_awake.f kj35).bind fun t268 => (some t268)) else (some false))))) = some r := by rw [if_neg (show ¬ (false = true) by decide)] at H; exact H
                     clear H
                     have H := H1
                     clear H1
                     by_cases c65 : t251 ≥ 0
                     · rw [if_pos c65] at H
                       have c65b0 : decide (0 ≤ t251) = true := decide_eq_true c65
                       clear c65
                       exact absurd (Option.some.inj H) (by rw [HT.out]; decide)
                     · rw [if_neg c65] at H
                       have c65b0 : decide (0 ≤ t251) = false := decide_eq_false c65
                       clear c65
                       replace H := Option.bind_eq_some_iff.mp H
                       obtain ⟨t264, A660, H⟩ := H
                       replace H : ((handshakerref03_Numbers.f kj35 t264 x16_35).bind fun t267 => (if t267 = true then ((handshakerlaw05_awake.f kj35).bind fun t268 => (some t268)) else (some false))) = some r := H
                       have A66 := Aside0.mk A660
                       clear A660
                       replace H := Option.bind_eq_some_iff.mp H
                       obtain ⟨t267, A670, H⟩ := H
                       replace H : (if t267 = true then ((handshakerlaw05_awake.f kj35).bind fun t268 => (some t268)) else (some false)) = some r := H
                       have A67 := Aside0.mk A670
                       clear A670
                       by_cases c68 : t267 = true
                       · subst c68
                         have H1 : ((handshakerlaw05_awake.f kj35).bind fun t268 => (some t268)) = some r := by rw [if_pos rfl] at H; exact H
                         clear H
                         have H := H1
                         clear H1
                         replace H := Option.bind_eq_some_iff.mp H
                         obtain ⟨t268, A690, H⟩ := H
                         replace H : (some t268) = some r := H
                         have A69 := Aside0.mk A690
                         clear A690
                         obtain rfl := Option.some.inj H
                         go_wp2_with (first | ((with_reducible refine gate_callee (f := 22) rfl ?_); refine goesL_ (some 58) rfl rfl Try.func22 (by kernel_rfl) rfl #[.slice A0 l0.length c0] rfl (by (try simp only [List.map_toArray, List.map_cons, List.map_nil]); first | done | rfl) ?_; (with_reducible refine (reads_Right.calls kj35 _ _ l0 true _ ?side1 ?side2 A40.out).mono ?_); (case side1 => repeat (first | exact (Kd.C_below HR0.out HB.out) | with_reducible first | refine Kd.C_alloc ?_ _ | refine Kd.C_drewN ?_ _ | refine Kd.C_drew ?_)); (case side2 => exact HC0.out); rintro e w70 ⟨rfl, hb⟩; refine ⟨_, rfl, ?_⟩; have n0_ := Aside0.mk (Kd.V_below (by (with_reducible repeat (first | apply Kd.V_alloc | apply Kd.V_drewN | apply Kd.V_drew)); exact HO_7.out) hb); have n1_ := Aside0.mk (Kd.V_below (by (with_reducible repeat (first | apply Kd.V_alloc | apply Kd.V_drewN | apply Kd.V_drew)); exact HO_9.out) hb); have n2_ := Aside0.mk (Kd.R_below (by (with_reducible repeat (first | apply Kd.R_alloc | apply Kd.R_drewN | apply Kd.R_drew)); exact HO_16.out) hb); have n3_ := Aside0.mk (blk_below (g := gb235) (o := .cells #[.int .i64 a1_0, .int .i64 a1_1, .int .i64 a1_2] 24 (0, 0)) (by (with_reducible repeat (first | refine blk_drewN ?_ _ | refine blk_drew ?_ | refine blk_alloc ?_ _)); exact BK235.out) hb); have n4_ := Aside0.mk (blk_below (g := gb249) (o := .cells #[.int .i64 t245, .int .i64 t246, .int .i64 t247] 24 (0, 0)) (by (with_reducible repeat (first | refine blk_drewN ?_ _ | refine blk_drew ?_ | refine blk_alloc ?_ _)); exact BK249.out) hb); have n5_ := Aside0.mk (blk_below (g := gb252) (o := .cells #[.int .i64 x253000_28, .int .i64 x253001_28, .int .i64 x253002_28] 24 (0, 0)) (by (with_reducible repeat (first | refine blk_drewN ?_ _ | refine blk_drew ?_ | refine blk_alloc ?_ _)); exact BK252.out) hb); have n6_ := Aside0.mk (below_step (by repeat (first | (with_reducible first | exact HB.out | apply below_alloc | apply pw_below_drewN | apply below_drew1 | refine below_set ?_ GE235.out | refine below_set ?_ GE249.out | refine below_set ?_ GE252.out) | exact HB.out)) hb); clear HO_7; clear HO_9; clear HO_16; clear BK235; clear BK249; clear BK252; clear HB; have HO_7 := n0_; have HO_9 := n1_; have HO_16 := n2_; have BK235 := n3_; have BK249 := n4_; have BK252 := n5_; have HB := n6_; clear n0_ n1_ n2_ n3_ n4_ n5_ n6_; (try clear hb); (try clear hb2); (try clear hk); (try clear hi); obtain ⟨Ao71, co71, eo71⟩ := Kd.V_slice HO_7.out; subst eo71; obtain ⟨Ao72, co72, eo72⟩ := Kd.V_slice HO_9.out; subst eo72) | (go_at_call 23; (with_reducible refine (handshakerref05_Same.calls kj35 _ _ t237 _ _ t241 true _ ?side1 ?side2 ?side3 ?side4 A43.out).mono ?_); (case side1 => repeat (first | exact (Kd.V_reads' HO_7.out).2.2 | with_reducible first | refine Kd.C_alloc ?_ _ | refine Kd.C_drewN ?_ _ | refine Kd.C_drew ?_)); (case side2 => exact (Kd.V_reads' HO_7.out).2.1); (case side3 => repeat (first | exact (Kd.V_reads' HO_9.out).2.2 | with_reducible first | refine Kd.C_alloc ?_ _ | refine Kd.C_drewN ?_ _ | refine Kd.C_drew ?_)); (case side4 => exact (Kd.V_reads' HO_9.out).2.1); rintro e w' ⟨rfl, ⟨nd, rfl⟩⟩; have hnb73 := NB249_235.out; have hnc73 := NB235_249.out; have hnb74 := NB249_252.out; have hnc74 := NB252_249.out; have hcz75_0 : w70.cell? ⟨gb249, 0, none⟩ = some (.int .i64 t245) := (blk_cell BK249.out 0).trans rfl; have hcz75_1 : w70.cell? ⟨gb249, 1, none⟩ = some (.int .i64 t246) := (blk_cell BK249.out 1).trans rfl; have hcz75_2 : w70.cell? ⟨gb249, 2, none⟩ = some (.int .i64 t247) := (blk_cell BK249.out 2).trans rfl; have hfz75_0 := blk_frozen BK249.out 0; have hfz75_1 := blk_frozen BK249.out 1; have hfz75_2 := blk_frozen BK249.out 2; have hnb76 := NB252_235.out; have hnc76 := NB235_252.out; have hcz77_0 : w70.cell? ⟨gb252, 0, none⟩ = some (.int .i64 x253000_28) := (blk_cell BK252.out 0).trans rfl; have hcz77_1 : w70.cell? ⟨gb252, 1, none⟩ = some (.int .i64 x253001_28) := (blk_cell BK252.out 1).trans rfl; have hcz77_2 : w70.cell? ⟨gb252, 2, none⟩ = some (.int .i64 x253002_28) := (blk_cell BK252.out 2).trans rfl; have hfz77_0 := blk_frozen BK252.out 0; have hfz77_1 := blk_frozen BK252.out 1; have hfz77_2 := blk_frozen BK252.out 2) | (go_at_call 25; (with_reducible refine (reads_Cells.calls kj35 _ _ l0 t264 _ ?side1 ?side2 A66.out).mono ?_); (case side1 => repeat (first | exact (Kd.C_below HR0.out (by repeat (first | (with_reducible first | exact HB.out | apply below_alloc | apply pw_below_drewN | apply below_drew1 | refine below_set ?_ GE235.out | refine below_set ?_ GE249.out | refine below_set ?_ GE252.out) | exact HB.out))) | with_reducible first | refine Kd.C_alloc ?_ _ | refine Kd.C_drewN ?_ _ | refine Kd.C_drew ?_)); (case side2 => exact HC0.out); rintro e w78 ⟨v265, rfl, ho0, hb⟩; have n0_ := Aside0.mk (Kd.V_elder' (by (with_reducible repeat (first | apply Kd.V_alloc | apply Kd.V_drewN | apply Kd.V_drew)); exact HO_7.out) (Kd.R_base ho0) hb); have n1_ := Aside0.mk (Kd.V_elder' (by (with_reducible repeat (first | apply Kd.V_alloc | apply Kd.V_drewN | apply Kd.V_drew)); exact HO_9.out) (Kd.R_base ho0) hb); have n2_ := Aside0.mk (Kd.R_elder' (by (with_reducible repeat (first | apply Kd.R_alloc | apply Kd.R_drewN | apply Kd.R_drew)); exact HO_16.out) (Kd.R_base ho0) hb); have n3_ := Aside0.mk (Kd.R_lower (Kd.R_new' ho0 (Kd.R_lt (by (with_reducible repeat (first | apply Kd.R_alloc | apply Kd.R_drewN | apply Kd.R_drew)); exact HO_16.out))) (below_size (by repeat (first | (with_reducible first | exact HB.out | apply below_alloc | apply pw_below_drewN | apply below_drew1 | refine below_set ?_ GE235.out | refine below_set ?_ GE249.out | refine below_set ?_ GE252.out) | exact HB.out)))); have n4_ := Aside0.mk (blk_below (g := gb235) (o := .cells #[.int .i64 a1_0, .int .i64 a1_1, .int .i64 a1_2] 24 (0, 0)) (by (with_reducible repeat (first | refine blk_drewN ?_ _ | refine blk_drew ?_ | refine blk_alloc ?_ _)); exact BK235.out) hb); have n5_ := Aside0.mk (blk_below (g := gb249) (o := .cells #[.int .i64 t245, .int .i64 t246, .int .i64 t247] 24 (0, 0)) (by (with_reducible repeat (first | refine blk_drewN ?_ _ | refine blk_drew ?_ | refine blk_alloc ?_ _)); exact BK249.out) hb); have n6_ := Aside0.mk (blk_below (g := gb252) (o := .cells #[.int .i64 x253000_28, .int .i64 x253001_28, .int .i64 x253002_28] 24 (0, 0)) (by (with_reducible repeat (first | refine blk_drewN ?_ _ | refine blk_drew ?_ | refine blk_alloc ?_ _)); exact BK252.out) hb); have n7_ := Aside0.mk (below_step (by repeat (first | (with_reducible first | exact HB.out | apply below_alloc | apply pw_below_drewN | apply below_drew1 | refine below_set ?_ GE235.out | refine below_set ?_ GE249.out | refine below_set ?_ GE252.out) | exact HB.out)) hb); clear HO_7; clear HO_9; clear HO_16; clear BK235; clear BK249; clear BK252; clear HB; have HO_7 := n0_; have HO_9 := n1_; have HO_16 := n2_; have HO266 := n3_; have BK235 := n4_; have BK249 := n5_; have BK252 := n6_; have HB := n7_; clear n0_ n1_ n2_ n3_ n4_ n5_ n6_ n7_; (try clear hb); (try clear hb2); (try clear hk); (try clear hi); (try clear ho0); obtain ⟨Ao79, co79, eo79⟩ := Kd.R_slice HO266.out; subst eo79; obtain ⟨Ao80, co80, eo80⟩ := Kd.R_slice HO_16.out; subst eo80) | (go_at_call 24; (with_reducible refine (handshakerref03_Numbers.calls kj35 _ _ t264 _ _ x16_35 true _ ?side1 ?side2 ?side3 ?side4 A67.out).mono ?_); (case side1 => repeat (first | exact (Kd.R_reads' HO266.out).2.2 | with_reducible first | refine Kd.C_alloc ?_ _ | refine Kd.C_drewN ?_ _ | refine Kd.C_drew ?_)); (case side2 => exact (Kd.R_reads' HO266.out).2.1); (case side3 => repeat (first | exact (Kd.R_reads' HO_16.out).2.2 | with_reducible first | refine Kd.C_alloc ?_ _ | refine Kd.C_drewN ?_ _ | refine Kd.C_drew ?_)); (case side4 => exact (Kd.R_reads' HO_16.out).2.1); rintro e w' ⟨rfl, ⟨nd, rfl⟩⟩) | (go_at_call 15; (with_reducible refine (handshakerlaw05_awake.calls kj35  t268 _ A69.out).mono ?_); rintro e w81 ⟨rfl, hb⟩; have n0_ := Aside0.mk (Kd.V_below (by (with_reducible repeat (first | apply Kd.V_alloc | apply Kd.V_drewN | apply Kd.V_drew)); exact HO_7.out) hb); have n1_ := Aside0.mk (Kd.V_below (by (with_reducible repeat (first | apply Kd.V_alloc | apply Kd.V_drewN | apply Kd.V_drew)); exact HO_9.out) hb); have n2_ := Aside0.mk (Kd.R_below (by (with_reducible repeat (first | apply Kd.R_alloc | apply Kd.R_drewN | apply Kd.R_drew)); exact HO_16.out) hb); have n3_ := Aside0.mk (Kd.R_below (by (with_reducible repeat (first | apply Kd.R_alloc | apply Kd.R_drewN | apply Kd.R_drew)); exact HO266.out) hb); have n4_ := Aside0.mk (blk_below (g := gb235) (o := .cells #[.int .i64 a1_0, .int .i64 a1_1, .int .i64 a1_2] 24 (0, 0)) (by (with_reducible repeat (first | refine blk_drewN ?_ _ | refine blk_drew ?_ | refine blk_alloc ?_ _)); exact BK235.out) hb); have n5_ := Aside0.mk (blk_below (g := gb249) (o := .cells #[.int .i64 t245, .int .i64 t246, .int .i64 t247] 24 (0, 0)) (by (with_reducible repeat (first | refine blk_drewN ?_ _ | refine blk_drew ?_ | refine blk_alloc ?_ _)); exact BK249.out) hb); have n6_ := Aside0.mk (blk_below (g := gb252) (o := .cells #[.int .i64 x253000_28, .int .i64 x253001_28, .int .i64 x253002_28] 24 (0, 0)) (by (with_reducible repeat (first | refine blk_drewN ?_ _ | refine blk_drew ?_ | refine blk_alloc ?_ _)); exact BK252.out) hb); have n7_ := Aside0.mk (below_step (by repeat (first | (with_reducible first | exact HB.out | apply below_alloc | apply pw_below_drewN | apply below_drew1 | refine below_set ?_ GE235.out | refine below_set ?_ GE249.out | refine below_set ?_ GE252.out) | exact HB.out)) hb); clear HO_7; clear HO_9; clear HO_16; clear HO266; clear BK235; clear BK249; clear BK252; clear HB; have HO_7 := n0_; have HO_9 := n1_; have HO_16 := n2_; have HO266 := n3_; have BK235 := n4_; have BK249 := n5_; have BK252 := n6_; have HB := n7_; clear n0_ n1_ n2_ n3_ n4_ n5_ n6_ n7_; (try clear hb); (try clear hb2); (try clear hk); (try clear hi)))
                         go_ret
                         exact ⟨by first | rfl | (simp [errW_none, errW_some] <;> rfl) | (simp [*, errW_none, errW_some] <;> rfl), by repeat (first | (with_reducible first | exact HB.out | apply below_alloc | apply pw_below_drewN | apply below_drew1 | refine below_set ?_ GE235.out | refine below_set ?_ GE249.out | refine below_set ?_ GE252.out) | exact HB.out)⟩
                       · replace c68 := Bool.eq_false_iff.mpr c68
                         subst c68
                         have H1 : (some false) = some r := by rw [if_neg (show ¬ (false = true) by decide)] at H; exact H
                         clear H
                         have H := H1
                         clear H1
                         exact absurd (Option.some.inj H) (by rw [HT.out]; decide)
                 · rw [if_neg c46] at H
                   have c46b0 : (t245 == x253000_28 && (t246 == x253001_28 && (t247 == x253002_28))) = false := by simpa using c46
                   (try (have c46b1 : decide (t245 = x253000_28 && (t246 == x253001_28 && (t247 == x253002_28))) = false := by simpa using c46))
                   (try (have c46b2 : (t245 == x253000_28 && (t246 == x253001_28 && (t247 == x253002_28))) = false := by simpa using c46))
                   (try (have c46b3 : ¬ (t245 = x253000_28 && (t246 == x253001_28 && (t247 == x253002_28))) := by simpa using c46))
                   clear c46
                   exact absurd (Option.some.inj H) (by rw [HT.out]; decide)
               · rw [if_neg c45] at H
                 have c45b0 : (t240 == t244) = false := beq_eq_false_iff_ne.mpr c45
                 have c45b1 : (t240 != t244) = true := bne_iff_ne.mpr c45
                 exact absurd (Option.some.inj H) (by rw [HT.out]; decide)
             · replace c44 := Bool.eq_false_iff.mpr c44
               subst c44
               have H1 : (some false) = some r := by rw [if_neg (show ¬ (false = true) by decide)] at H; exact H
               clear H
               have H := H1
               clear H1
               exact absurd (Option.some.inj H) (by rw [HT.out]; decide)
           · replace c42 := Bool.eq_false_iff.mpr c42
             subst c42
             have H1 : (some false) = some r := by rw [if_neg (show ¬ (false = true) by decide)] at H; exact H
             clear H
             have H := H1
             clear H1
             exact absurd (Option.some.inj H) (by rw [HT.out]; decide)
         · replace c41 := Bool.eq_false_iff.mpr c41
           subst c41
           have H1 : (if t250 = true then (some false) else ((handshakerref05_Same.f kj35 t237 t241).bind fun t269 => (if t269 = true then (if t240 = t244 then (if (t245 == x253000_28 && (t246 == x253001_28 && (t247 == x253002_28))) = true then (if t248 = true then (some false) else ((reads_Cells.f kj35 l0).bind fun t270 => ((handshakerref03_Numbers.f kj35 t270 x16_35).bind fun t273 => (if t273 = true then ((handshakerlaw05_awake.f kj35).bind fun t274 => (some t274)) else (some false))))) else (some false)) else (some false)) else (some false)))) = some r := by rw [if_neg (show ¬ (false = true) by decide)] at H; exact H
           clear H
           have H := H1
           clear H1
           by_cases c82 : t250 = true
           · subst c82
             have H1 : (some false) = some r := by rw [if_pos rfl] at H; exact H
             clear H
             have H := H1
             clear H1
             exact absurd (Option.some.inj H) (by rw [HT.out]; decide)
           · replace c82 := Bool.eq_false_iff.mpr c82
             subst c82
             have H1 : ((handshakerref05_Same.f kj35 t237 t241).bind fun t269 => (if t269 = true then (if t240 = t244 then (if (t245 == x253000_28 && (t246 == x253001_28 && (t247 == x253002_28))) = true then (if t248 = true then (some false) else ((reads_Cells.f kj35 l0).bind fun t270 => ((handshakerref03_Numbers.f kj35 t270 x16_35).bind fun t273 => (if t273 = true then ((handshakerlaw05_awake.f kj35).bind fun t274 => (some t274)) else (some false))))) else (some false)) else (some false)) else (some false))) = some r := by rw [if_neg (show ¬ (false = true) by decide)] at H; exact H
             clear H
             have H := H1
             clear H1
             replace H := Option.bind_eq_some_iff.mp H
             obtain ⟨t269, A830, H⟩ := H
             replace H : (if t269 = true then (if t240 = t244 then (if (t245 == x253000_28 && (t246 == x253001_28 && (t247 == x253002_28))) = true then (if t248 = true then (some false) else ((reads_Cells.f kj35 l0).bind fun t270 => ((handshakerref03_Numbers.f kj35 t270 x16_35).bind fun t273 => (if t273 = true then ((handshakerlaw05_awake.f kj35).bind fun t274 => (some t274)) else (some false))))) else (some false)) else (some false)) else (some false)) = some r := H
             have A83 := Aside0.mk A830
             clear A830
             by_cases c84 : t269 = true
             · subst c84
               have H1 : (if t240 = t244 then (if (t245 == x253000_28 && (t246 == x253001_28 && (t247 == x253002_28))) = true then (if t248 = true then (some false) else ((reads_Cells.f kj35 l0).bind fun t270 => ((handshakerref03_Numbers.f kj35 t270 x16_35).bind fun t273 => (if t273 = true then ((handshakerlaw05_awake.f kj35).bind fun t274 => (some t274)) else (some false))))) else (some false)) else (some false)) = some r := by rw [if_pos rfl] at H; exact H
               clear H
               have H := H1
               clear H1
               by_cases c85 : t240 = t244
               · rw [if_pos c85] at H
                 have c85b0 : (t240 == t244) = true := beq_iff_eq.mpr c85
                 have c85b1 : (t240 != t244) = false := bne_eq_false_iff_eq.mpr c85
                 clear c85
                 by_cases c86 : (t245 == x253000_28 && (t246 == x253001_28 && (t247 == x253002_28))) = true
                 · rw [if_pos c86] at H
                   have c86b0 : (t245 == x253000_28 && (t246 == x253001_28 && (t247 == x253002_28))) = true := c86
                   (try (have c86b1 : decide (t245 = x253000_28 && (t246 == x253001_28 && (t247 == x253002_28))) = true := by simpa using c86))
                   (try (have c86b2 : (t245 == x253000_28 && (t246 == x253001_28 && (t247 == x253002_28))) = true := by simpa using c86))
                   clear c86
                   by_cases c87 : t248 = true
                   · subst c87
                     have H1 : (some false) = some r := by rw [if_pos rfl] at H; exact H
                     clear H
                     have H := H1
                     clear H1
                     exact absurd (Option.some.inj H) (by rw [HT.out]; decide)
                   · replace c87 := Bool.eq_false_iff.mpr c87
                     subst c87
                     have H1 : ((reads_Cells.f kj35 l0).bind fun t270 => ((handshakerref03_Numbers.f kj35 t270 x16_35).bind fun t273 => (if t273 = true then ((handshakerlaw05_awake.f kj35).bind fun t274 => (some t274)) else (some false)))) = some r := by rw [if_neg (show ¬ (false = true) by decide)] at H; exact H
                     clear H
                     have H := H1
                     clear H1
                     replace H := Option.bind_eq_some_iff.mp H
                     obtain ⟨t270, A880, H⟩ := H
                     replace H : ((handshakerref03_Numbers.f kj35 t270 x16_35).bind fun t273 => (if t273 = true then ((handshakerlaw05_awake.f kj35).bind fun t274 => (some t274)) else (some false))) = some r := H
                     have A88 := Aside0.mk A880
                     clear A880
                     replace H := Option.bind_eq_some_iff.mp H
                     obtain ⟨t273, A890, H⟩ := H
                     replace H : (if t273 = true then ((handshakerlaw05_awake.f kj35).bind fun t274 => (some t274)) else (some false)) = some r := H
                     have A89 := Aside0.mk A890
                     clear A890
                     by_cases c90 : t273 = true
                     · subst c90
                       have H1 : ((handshakerlaw05_awake.f kj35).bind fun t274 => (some t274)) = some r := by rw [if_pos rfl] at H; exact H
                       clear H
                       have H := H1
                       clear H1
                       replace H := Option.bind_eq_some_iff.mp H
                       obtain ⟨t274, A910, H⟩ := H
                       replace H : (some t274) = some r := H
                       have A91 := Aside0.mk A910
                       clear A910
                       obtain rfl := Option.some.inj H
                       go_wp2_with (first | ((with_reducible refine gate_callee (f := 22) rfl ?_); refine goesL_ (some 58) rfl rfl Try.func22 (by kernel_rfl) rfl #[.slice A0 l0.length c0] rfl (by (try simp only [List.map_toArray, List.map_cons, List.map_nil]); first | done | rfl) ?_; (with_reducible refine (reads_Right.calls kj35 _ _ l0 false _ ?side1 ?side2 A40.out).mono ?_); (case side1 => repeat (first | exact (Kd.C_below HR0.out HB.out) | with_reducible first | refine Kd.C_alloc ?_ _ | refine Kd.C_drewN ?_ _ | refine Kd.C_drew ?_)); (case side2 => exact HC0.out); rintro e w92 ⟨rfl, hb⟩; refine ⟨_, rfl, ?_⟩; have n0_ := Aside0.mk (Kd.V_below (by (with_reducible repeat (first | apply Kd.V_alloc | apply Kd.V_drewN | apply Kd.V_drew)); exact HO_7.out) hb); have n1_ := Aside0.mk (Kd.V_below (by (with_reducible repeat (first | apply Kd.V_alloc | apply Kd.V_drewN | apply Kd.V_drew)); exact HO_9.out) hb); have n2_ := Aside0.mk (Kd.R_below (by (with_reducible repeat (first | apply Kd.R_alloc | apply Kd.R_drewN | apply Kd.R_drew)); exact HO_16.out) hb); have n3_ := Aside0.mk (blk_below (g := gb235) (o := .cells #[.int .i64 a1_0, .int .i64 a1_1, .int .i64 a1_2] 24 (0, 0)) (by (with_reducible repeat (first | refine blk_drewN ?_ _ | refine blk_drew ?_ | refine blk_alloc ?_ _)); exact BK235.out) hb); have n4_ := Aside0.mk (blk_below (g := gb249) (o := .cells #[.int .i64 t245, .int .i64 t246, .int .i64 t247] 24 (0, 0)) (by (with_reducible repeat (first | refine blk_drewN ?_ _ | refine blk_drew ?_ | refine blk_alloc ?_ _)); exact BK249.out) hb); have n5_ := Aside0.mk (blk_below (g := gb252) (o := .cells #[.int .i64 x253000_28, .int .i64 x253001_28, .int .i64 x253002_28] 24 (0, 0)) (by (with_reducible repeat (first | refine blk_drewN ?_ _ | refine blk_drew ?_ | refine blk_alloc ?_ _)); exact BK252.out) hb); have n6_ := Aside0.mk (below_step (by repeat (first | (with_reducible first | exact HB.out | apply below_alloc | apply pw_below_drewN | apply below_drew1 | refine below_set ?_ GE235.out | refine below_set ?_ GE249.out | refine below_set ?_ GE252.out) | exact HB.out)) hb); clear HO_7; clear HO_9; clear HO_16; clear BK235; clear BK249; clear BK252; clear HB; have HO_7 := n0_; have HO_9 := n1_; have HO_16 := n2_; have BK235 := n3_; have BK249 := n4_; have BK252 := n5_; have HB := n6_; clear n0_ n1_ n2_ n3_ n4_ n5_ n6_; (try clear hb); (try clear hb2); (try clear hk); (try clear hi); obtain ⟨Ao93, co93, eo93⟩ := Kd.V_slice HO_7.out; subst eo93; obtain ⟨Ao94, co94, eo94⟩ := Kd.V_slice HO_9.out; subst eo94) | (go_at_call 23; (with_reducible refine (handshakerref05_Same.calls kj35 _ _ t237 _ _ t241 true _ ?side1 ?side2 ?side3 ?side4 A83.out).mono ?_); (case side1 => repeat (first | exact (Kd.V_reads' HO_7.out).2.2 | with_reducible first | refine Kd.C_alloc ?_ _ | refine Kd.C_drewN ?_ _ | refine Kd.C_drew ?_)); (case side2 => exact (Kd.V_reads' HO_7.out).2.1); (case side3 => repeat (first | exact (Kd.V_reads' HO_9.out).2.2 | with_reducible first | refine Kd.C_alloc ?_ _ | refine Kd.C_drewN ?_ _ | refine Kd.C_drew ?_)); (case side4 => exact (Kd.V_reads' HO_9.out).2.1); rintro e w' ⟨rfl, ⟨nd, rfl⟩⟩; have hnb95 := NB249_235.out; have hnc95 := NB235_249.out; have hnb96 := NB249_252.out; have hnc96 := NB252_249.out; have hcz97_0 : w92.cell? ⟨gb249, 0, none⟩ = some (.int .i64 t245) := (blk_cell BK249.out 0).trans rfl; have hcz97_1 : w92.cell? ⟨gb249, 1, none⟩ = some (.int .i64 t246) := (blk_cell BK249.out 1).trans rfl; have hcz97_2 : w92.cell? ⟨gb249, 2, none⟩ = some (.int .i64 t247) := (blk_cell BK249.out 2).trans rfl; have hfz97_0 := blk_frozen BK249.out 0; have hfz97_1 := blk_frozen BK249.out 1; have hfz97_2 := blk_frozen BK249.out 2; have hnb98 := NB252_235.out; have hnc98 := NB235_252.out; have hcz99_0 : w92.cell? ⟨gb252, 0, none⟩ = some (.int .i64 x253000_28) := (blk_cell BK252.out 0).trans rfl; have hcz99_1 : w92.cell? ⟨gb252, 1, none⟩ = some (.int .i64 x253001_28) := (blk_cell BK252.out 1).trans rfl; have hcz99_2 : w92.cell? ⟨gb252, 2, none⟩ = some (.int .i64 x253002_28) := (blk_cell BK252.out 2).trans rfl; have hfz99_0 := blk_frozen BK252.out 0; have hfz99_1 := blk_frozen BK252.out 1; have hfz99_2 := blk_frozen BK252.out 2) | (go_at_call 25; (with_reducible refine (reads_Cells.calls kj35 _ _ l0 t270 _ ?side1 ?side2 A88.out).mono ?_); (case side1 => repeat (first | exact (Kd.C_below HR0.out (by repeat (first | (with_reducible first | exact HB.out | apply below_alloc | apply pw_below_drewN | apply below_drew1 | refine below_set ?_ GE235.out | refine below_set ?_ GE249.out | refine below_set ?_ GE252.out) | exact HB.out))) | with_reducible first | refine Kd.C_alloc ?_ _ | refine Kd.C_drewN ?_ _ | refine Kd.C_drew ?_)); (case side2 => exact HC0.out); rintro e w100 ⟨v271, rfl, ho0, hb⟩; have n0_ := Aside0.mk (Kd.V_elder' (by (with_reducible repeat (first | apply Kd.V_alloc | apply Kd.V_drewN | apply Kd.V_drew)); exact HO_7.out) (Kd.R_base ho0) hb); have n1_ := Aside0.mk (Kd.V_elder' (by (with_reducible repeat (first | apply Kd.V_alloc | apply Kd.V_drewN | apply Kd.V_drew)); exact HO_9.out) (Kd.R_base ho0) hb); have n2_ := Aside0.mk (Kd.R_elder' (by (with_reducible repeat (first | apply Kd.R_alloc | apply Kd.R_drewN | apply Kd.R_drew)); exact HO_16.out) (Kd.R_base ho0) hb); have n3_ := Aside0.mk (Kd.R_lower (Kd.R_new' ho0 (Kd.R_lt (by (with_reducible repeat (first | apply Kd.R_alloc | apply Kd.R_drewN | apply Kd.R_drew)); exact HO_16.out))) (below_size (by repeat (first | (with_reducible first | exact HB.out | apply below_alloc | apply pw_below_drewN | apply below_drew1 | refine below_set ?_ GE235.out | refine below_set ?_ GE249.out | refine below_set ?_ GE252.out) | exact HB.out)))); have n4_ := Aside0.mk (blk_below (g := gb235) (o := .cells #[.int .i64 a1_0, .int .i64 a1_1, .int .i64 a1_2] 24 (0, 0)) (by (with_reducible repeat (first | refine blk_drewN ?_ _ | refine blk_drew ?_ | refine blk_alloc ?_ _)); exact BK235.out) hb); have n5_ := Aside0.mk (blk_below (g := gb249) (o := .cells #[.int .i64 t245, .int .i64 t246, .int .i64 t247] 24 (0, 0)) (by (with_reducible repeat (first | refine blk_drewN ?_ _ | refine blk_drew ?_ | refine blk_alloc ?_ _)); exact BK249.out) hb); have n6_ := Aside0.mk (blk_below (g := gb252) (o := .cells #[.int .i64 x253000_28, .int .i64 x253001_28, .int .i64 x253002_28] 24 (0, 0)) (by (with_reducible repeat (first | refine blk_drewN ?_ _ | refine blk_drew ?_ | refine blk_alloc ?_ _)); exact BK252.out) hb); have n7_ := Aside0.mk (below_step (by repeat (first | (with_reducible first | exact HB.out | apply below_alloc | apply pw_below_drewN | apply below_drew1 | refine below_set ?_ GE235.out | refine below_set ?_ GE249.out | refine below_set ?_ GE252.out) | exact HB.out)) hb); clear HO_7; clear HO_9; clear HO_16; clear BK235; clear BK249; clear BK252; clear HB; have HO_7 := n0_; have HO_9 := n1_; have HO_16 := n2_; have HO272 := n3_; have BK235 := n4_; have BK249 := n5_; have BK252 := n6_; have HB := n7_; clear n0_ n1_ n2_ n3_ n4_ n5_ n6_ n7_; (try clear hb); (try clear hb2); (try clear hk); (try clear hi); (try clear ho0); obtain ⟨Ao101, co101, eo101⟩ := Kd.R_slice HO272.out; subst eo101; obtain ⟨Ao102, co102, eo102⟩ := Kd.R_slice HO_16.out; subst eo102) | (go_at_call 24; (with_reducible refine (handshakerref03_Numbers.calls kj35 _ _ t270 _ _ x16_35 true _ ?side1 ?side2 ?side3 ?side4 A89.out).mono ?_); (case side1 => repeat (first | exact (Kd.R_reads' HO272.out).2.2 | with_reducible first | refine Kd.C_alloc ?_ _ | refine Kd.C_drewN ?_ _ | refine Kd.C_drew ?_)); (case side2 => exact (Kd.R_reads' HO272.out).2.1); (case side3 => repeat (first | exact (Kd.R_reads' HO_16.out).2.2 | with_reducible first | refine Kd.C_alloc ?_ _ | refine Kd.C_drewN ?_ _ | refine Kd.C_drew ?_)); (case side4 => exact (Kd.R_reads' HO_16.out).2.1); rintro e w' ⟨rfl, ⟨nd, rfl⟩⟩) | (go_at_call 15; (with_reducible refine (handshakerlaw05_awake.calls kj35  t274 _ A91.out).mono ?_); rintro e w103 ⟨rfl, hb⟩; have n0_ := Aside0.mk (Kd.V_below (by (with_reducible repeat (first | apply Kd.V_alloc | apply Kd.V_drewN | apply Kd.V_drew)); exact HO_7.out) hb); have n1_ := Aside0.mk (Kd.V_below (by (with_reducible repeat (first | apply Kd.V_alloc | apply Kd.V_drewN | apply Kd.V_drew)); exact HO_9.out) hb); have n2_ := Aside0.mk (Kd.R_below (by (with_reducible repeat (first | apply Kd.R_alloc | apply Kd.R_drewN | apply Kd.R_drew)); exact HO_16.out) hb); have n3_ := Aside0.mk (Kd.R_below (by (with_reducible repeat (first | apply Kd.R_alloc | apply Kd.R_drewN | apply Kd.R_drew)); exact HO272.out) hb); have n4_ := Aside0.mk (blk_below (g := gb235) (o := .cells #[.int .i64 a1_0, .int .i64 a1_1, .int .i64 a1_2] 24 (0, 0)) (by (with_reducible repeat (first | refine blk_drewN ?_ _ | refine blk_drew ?_ | refine blk_alloc ?_ _)); exact BK235.out) hb); have n5_ := Aside0.mk (blk_below (g := gb249) (o := .cells #[.int .i64 t245, .int .i64 t246, .int .i64 t247] 24 (0, 0)) (by (with_reducible repeat (first | refine blk_drewN ?_ _ | refine blk_drew ?_ | refine blk_alloc ?_ _)); exact BK249.out) hb); have n6_ := Aside0.mk (blk_below (g := gb252) (o := .cells #[.int .i64 x253000_28, .int .i64 x253001_28, .int .i64 x253002_28] 24 (0, 0)) (by (with_reducible repeat (first | refine blk_drewN ?_ _ | refine blk_drew ?_ | refine blk_alloc ?_ _)); exact BK252.out) hb); have n7_ := Aside0.mk (below_step (by repeat (first | (with_reducible first | exact HB.out | apply below_alloc | apply pw_below_drewN | apply below_drew1 | refine below_set ?_ GE235.out | refine below_set ?_ GE249.out | refine below_set ?_ GE252.out) | exact HB.out)) hb); clear HO_7; clear HO_9; clear HO_16; clear HO272; clear BK235; clear BK249; clear BK252; clear HB; have HO_7 := n0_; have HO_9 := n1_; have HO_16 := n2_; have HO272 := n3_; have BK235 := n4_; have BK249 := n5_; have BK252 := n6_; have HB := n7_; clear n0_ n1_ n2_ n3_ n4_ n5_ n6_ n7_; (try clear hb); (try clear hb2); (try clear hk); (try clear hi)))
                       go_ret
                       exact ⟨by first | rfl | (simp [errW_none, errW_some] <;> rfl) | (simp [*, errW_none, errW_some] <;> rfl), by repeat (first | (with_reducible first | exact HB.out | apply below_alloc | apply pw_below_drewN | apply below_drew1 | refine below_set ?_ GE235.out | refine below_set ?_ GE249.out | refine below_set ?_ GE252.out) | exact HB.out)⟩
                     · replace c90 := Bool.eq_false_iff.mpr c90
                       subst c90
                       have H1 : (some false) = some r := by rw [if_neg (show ¬ (false = true) by decide)] at H; exact H
                       clear H
                       have H := H1
                       clear H1
                       exact absurd (Option.some.inj H) (by rw [HT.out]; decide)
                 · rw [if_neg c86] at H
                   have c86b0 : (t245 == x253000_28 && (t246 == x253001_28 && (t247 == x253002_28))) = false := by simpa using c86
                   (try (have c86b1 : decide (t245 = x253000_28 && (t246 == x253001_28 && (t247 == x253002_28))) = false := by simpa using c86))
                   (try (have c86b2 : (t245 == x253000_28 && (t246 == x253001_28 && (t247 == x253002_28))) = false := by simpa using c86))
                   (try (have c86b3 : ¬ (t245 = x253000_28 && (t246 == x253001_28 && (t247 == x253002_28))) := by simpa using c86))
                   clear c86
                   exact absurd (Option.some.inj H) (by rw [HT.out]; decide)
               · rw [if_neg c85] at H
                 have c85b0 : (t240 == t244) = false := beq_eq_false_iff_ne.mpr c85
                 have c85b1 : (t240 != t244) = true := bne_iff_ne.mpr c85
                 exact absurd (Option.some.inj H) (by rw [HT.out]; decide)
             · replace c84 := Bool.eq_false_iff.mpr c84
               subst c84
               have H1 : (some false) = some r := by rw [if_neg (show ¬ (false = true) by decide)] at H; exact H
               clear H
               have H := H1
               clear H1
               exact absurd (Option.some.inj H) (by rw [HT.out]; decide)

/-- THE ONE PURE STATEMENT of handshakerlaw05_ReadsTells. -/
def handshakerlaw05_ReadsTells.Pure : Prop := ∀ (l0 : List (S24)) (x1 : S24) (a2 : Int), l0.length ≤ maxLen → l0.length * 24 ≤ 140737488351232 → (∀ y ∈ l0, wfS24 y) → wfS24 x1 → (Lit.int .i64 a2).wf = true → ∃ k, handshakerlaw05_ReadsTells.f k l0 x1.f0 x1.f1 x1.f2 a2 = some true

end Go.Proofs.Ytlfmobnmohnjmaa.R
