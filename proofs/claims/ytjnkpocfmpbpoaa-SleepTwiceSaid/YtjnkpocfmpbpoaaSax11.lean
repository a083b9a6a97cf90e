-- PRINTED by print.py (a twelfth state) out of the translation. Not trusted: Lean checks it.
import Derived.Test.YtjnkpocfmpbpoaaSax0
import Derived.Test.YtjnkpocfmpbpoaaSax2
namespace Go.Proofs.Ytjnkpocfmpbpoaa.Sa
open Go.Proofs.Ytjnkpocfmpbpoaa.Ho
open Go.RowKit Go.Proofs.YtjnkpocfmpbpoaaW.PrintWords Go.Proofs.YtjnkpocfmpbpoaaW.PrintLast Go.Proofs.YtjnkpocfmpbpoaaW.PrintMore
attribute [local go_sem] max2_int min2_int max_two min_two max_three min_three max_four min_four   -- for this text's walks alone
set_option linter.unusedVariables false
set_option linter.unusedSimpArgs false

attribute [local go_sem high] eqA117
/-! ### handshakerlaw07_Ref: function 46 -/
def handshakerlaw07_Ref.l0 : Nat → List (S117) → List (S80) → Int → Int → Option ((List (S117)))
 | 0, _, _, _, _ => none
 | k + 1, x3, x6, x7, x8 => if x8 < x7 then (if 0 ≤ x8 then (if x8 < (x6.length : Int) then (if x3.length < 8796093022208 then (handshakerlaw07_Ref.l0 k (x3 ++ [(⟨(rd_T80 x6 x8).f0, (rd_T80 x6 x8).f1⟩ : S117)]) x6 x7 (wrap64 (x8 + 1))) else (none)) else (none)) else (none)) else (some x3)
def handshakerlaw07_Ref.f (k : Nat) (l0 : List (S80)) : Option ((List (S117))) := handshakerlaw07_Ref.l0 k ([] : List (S117)) l0 (l0.length : Int) 0
theorem handshakerlaw07_Ref.mono_l : ∀ k, (∀ y0 y1 y2 y3, LeO (handshakerlaw07_Ref.l0 k y0 y1 y2 y3) (handshakerlaw07_Ref.l0 (k + 1) y0 y1 y2 y3))
 | 0 => fun _ _ _ _ r h => by simp [handshakerlaw07_Ref.l0] at h
 | k + 1 => by
  have ih0 := handshakerlaw07_Ref.mono_l k
  · intro y0 y1 y2 y3
    unfold handshakerlaw07_Ref.l0
    repeat' first
    | (with_reducible exact ih0 _ _ _ _)
    | (with_reducible exact LeO.refl _)
    | (with_reducible exact LeO.none _)
    | (with_reducible refine LeO.ite ?_ ?_)
    | (with_reducible refine LeO.bind ?_ (fun _ => ?_))
    | exact ih0 _ _ _ _
    | exact LeO.none _
    | refine LeO.ite ?_ ?_
    | refine LeO.bind ?_ (fun _ => ?_)
theorem handshakerlaw07_Ref.mono : ∀ a0 k, LeO (handshakerlaw07_Ref.f k a0) (handshakerlaw07_Ref.f (k + 1) a0) := by
 intro a0 k
 have ih0 := handshakerlaw07_Ref.mono_l k
 unfold handshakerlaw07_Ref.f
 repeat' first
  | (with_reducible exact ih0 _ _ _ _)
  | (with_reducible exact LeO.refl _)
  | (with_reducible exact LeO.none _)
  | (with_reducible refine LeO.ite ?_ ?_)
  | (with_reducible refine LeO.bind ?_ (fun _ => ?_))
  | exact ih0 _ _ _ _
  | exact LeO.none _
  | refine LeO.ite ?_ ?_
  | refine LeO.bind ?_ (fun _ => ?_)
set_option maxHeartbeats 8000000 in
set_option maxRecDepth 100000 in
theorem handshakerlaw07_Ref.calls (k : Nat) (A0 : Option Addr) (c0 : Nat) (l0 : List (S80)) (r : List (S117)) (w : World) (hr0 : Kd.C k80 w A0 l0.length l0) (hc0 : l0.length ≤ c0) (h : handshakerlaw07_Ref.f k l0 = some r) :
 Calls Try.prog 46 #[.slice A0 l0.length c0] w fun e w' => ∃ v0_ : Value, e = .returned (v0_) ∧ Kd.R k117 117 w' w.heap.size (fun _ => True) v0_ r ∧ Below w.heap.size w w' := by
 have hu80 := Try.underlying80
 have HR0 := Aside0.mk hr0
 have HC0 := Aside0.mk hc0
 clear hr0 hc0
 have HB := Aside0.mk (Below.refl w.heap.size w)
 have H : (handshakerlaw07_Ref.l0 k ([] : List (S117)) l0 (l0.length : Int) 0) = some r := h
 clear h
 have H' := Aside0.mk H
 clear H
 go_enter Try.func46, Try.ntmps46
 go_wp2
 go_loopg [3, 8] k (fun kq v3 v8 w' => ∃ (x3_1 : List (S117)) (x8_1 : Int), v8 = .int .i64 x8_1 ∧ Aside0 (handshakerlaw07_Ref.l0 kq x3_1 l0 (l0.length : Int) x8_1 = some r) ∧ Aside0 (kq ≤ k) ∧ Aside0 (Kd.R k117 117 w' w.heap.size (fun _ => True) v3 x3_1) ∧ Aside0 (Below w.heap.size w w'))
 case atStart => exact ⟨(([] : List (S117))), (0), (by first | rfl | (simp; done) | (simp [*]; done)), H', ⟨Nat.le_refl _⟩, ⟨by first | exact Kd.R_nil _ _ _ _ _ | exact Kd.N_nil _ _ _ _ _ | exact Kd.V_nil _ _ _ _ _ | exact Kd.Q_nil _ _ _ _ _ | exact Kd.S_nil _ _ _ _ _⟩, ⟨bsv_⟩⟩
 case round =>
  clear H'
  obtain ⟨x3_1, x8_1, rfl, HA, HK1, HO_3, HB⟩ := hrel
  cases gk with
  | zero => exact absurd HA.out (by simp [handshakerlaw07_Ref.l0])
  | succ k1 =>
   have H := HA.out
   clear HA
   simp only [handshakerlaw07_Ref.l0] at H
   by_cases c2 : x8_1 < (l0.length : Int)
   · rw [if_pos c2] at H
     have c2b0 : decide (x8_1 < (l0.length : Int)) = true := decide_eq_true c2
     clear c2
     by_cases c3 : 0 ≤ x8_1
     · rw [if_pos c3] at H
       have c3b0 : decide (0 ≤ x8_1) = true := decide_eq_true c3
       clear c3
       by_cases c4 : x8_1 < (l0.length : Int)
       · rw [if_pos c4] at H
         have c4b0 : decide (x8_1 < (l0.length : Int)) = true := decide_eq_true c4
         clear c4
         by_cases c5 : x3_1.length < 8796093022208
         · rw [if_pos c5] at H
           have LMc5 := Aside0.mk c5
           clear c5
           obtain ⟨y315, hy315⟩ : ∃ y_ : List (S117), y_ = (x3_1 ++ [(⟨(rd_T80 l0 x8_1).f0, (rd_T80 l0 x8_1).f1⟩ : S117)]) := ⟨_, rfl⟩
           replace H : (handshakerlaw07_Ref.l0 k1 y315 l0 (l0.length : Int) (wrap64 (x8_1 + 1))) = some r := by first | (rw [hy315]; with_reducible exact H) | (have H2_ := (Option.bind_some _ _).symm.trans H; rw [hy315]; with_reducible exact H2_) | (have H2_ := (Option.bind_some _ _).symm.trans H; with_reducible exact H2_) | with_reducible exact H | (rw [hy315]; exact H) | exact H
           have Ny315 := Aside0.mk hy315
           clear hy315
           have H' := Aside0.mk H
           clear H
           have p313 : 0 ≤ (x8_1 : Int) := oda_
           have q313 : x8_1 < (l0.length : Int) := oda_
           obtain ⟨ad313, e313, hx313_0, hx313_1⟩ := at_T80 HR0.out x8_1 p313 q313
           cases e313
           replace hx313_0 := (HB.out.cell (World.block_lt_of_cell? w _ hx313_0)).trans hx313_0
           replace hx313_1 := (HB.out.cell (World.block_lt_of_cell? w _ hx313_1)).trans hx313_1
           replace p313 := eq_true p313
           replace q313 := eq_true q313
           go_wp2_with (first | ((with_reducible refine gate_dst (N := 5) rfl ?_); refine box_event ?hg (N := 5) ?hd (cs := #[.int .i64 0, .int .i64 0]) (t := 80) ?hr ?_; (case hd => rfl); (case hg => rfl); (case hr => first | (go_simp; done) | (go_simp; rfl)); intro gb314 hg w6 hbox hb; replace HO_3 := rb_ HO_3 hb; replace BK314 := Aside0.mk (hbox); replace GW314 := Aside0.mk ((by rw [hg]; exact bsz_ : w.heap.size ≤ gb314)); replace HB := Aside0.mk (bst_ hb); replace GE314 := GW314; clear hb hbox hg; have hcz7_0 : w6.cell? ⟨gb314, 0, none⟩ = some (.int .i64 0) := (blk_cell BK314.out 0).trans rfl; have hcz7_1 : w6.cell? ⟨gb314, 1, none⟩ = some (.int .i64 0) := (blk_cell BK314.out 1).trans rfl; have hfz7_0 := blk_frozen BK314.out 0; have hfz7_1 := blk_frozen BK314.out 1) | ((with_reducible refine gate_builtin (b := .append) (xs := #[.tmp 12, .tmp 14]) rfl ?_); at_builtin; refine Kd.R_append k117 (w0 := w) w.heap.size rfl (.tmp 12) (.tmp 14) 37 117 (.agg #[(.int .i64 0), (.int .i64 0)]) 16 rfl Try.underlying37 info117 rfl (by decide) (by omega) u3 x3_1 (⟨(rd_T80 l0 x8_1).f0, (rd_T80 l0 x8_1).f1⟩ : S117) [.int .i64 ((rd_T80 l0 x8_1).f0), .int .i64 ((rd_T80 l0 x8_1).f1)] (fun _ => True) (fun _ => False) rfl (by first | (go_simp; done) | (go_simp; rfl)) ?aP (fun _ hk => hk.elim) ?aF ?aO ?aB ?aS ?aL ?_; (case aP => exact k117_mkM _ _ _ (⟨(rd_T80 l0 x8_1).f0, (rd_T80 l0 x8_1).f1⟩ : S117)); (case aB => exact bsw_); (case aF => exact (fun _ _ => trivial)); (case aO => exact (by (with_reducible repeat (first | apply Kd.R_alloc | apply Kd.R_drewN | apply Kd.R_drew)); exact Kd.R_mono (Kd.R_far (p := ⟨gb314, 1, none⟩) (Kd.R_far (p := ⟨gb314, 0, none⟩) (Kd.R_types HO_3.out BK314.out (by decide)) (fun _ hk => hk.2) (.int .i64 ((rd_T80 l0 x8_1).f0))) (fun _ hk => hk.2) (.int .i64 ((rd_T80 l0 x8_1).f1))) (fun _ hk => trivial))); (case aS => exact (below_size bsw_)); (case aL => have := LMc5.out; omega); intro v316 w8 ho hb hg hat; rw [← Ny315.out] at ho; replace BK314 := Aside0.mk (blk_grown (g := gb314) (o := .cells #[.int .i64 ((rd_T80 l0 x8_1).f0), .int .i64 ((rd_T80 l0 x8_1).f1)] 80 (0, 0)) (by (with_reducible repeat (first | refine blk_drewN ?_ _ | refine blk_drew ?_ | refine blk_alloc ?_ _)); refine blk_put (cs := #[.int .i64 ((rd_T80 l0 x8_1).f0), .int .i64 0]) ?_ 1 _ rfl; (with_reducible repeat (first | refine blk_drewN ?_ _ | refine blk_drew ?_ | refine blk_alloc ?_ _)); refine blk_put (cs := #[.int .i64 0, .int .i64 0]) ?_ 0 _ rfl; (with_reducible repeat (first | refine blk_drewN ?_ _ | refine blk_drew ?_ | refine blk_alloc ?_ _)); exact BK314.out) hg (Kd.R_ne HO_3.out BK314.out (by decide))); replace HB := Aside0.mk (hb); replace HO317 := Aside0.mk (ho); clear HO_3; clear ho hb hg hat))
           go_roundg k1
           case measure => have := HK1.out; omega
           case rel => exact ⟨(y315), (wrap64 (x8_1 + 1)), (by first | rfl | (simp; done) | (simp [*]; done)), H', ⟨by have := HK1.out; omega⟩, ⟨rq_ HO317⟩, ⟨bsw_⟩⟩
         · rw [if_neg c5] at H
           exact absurd H (by simp)
       · rw [if_neg c4] at H
         exact absurd H (by simp)
     · rw [if_neg c3] at H
       exact absurd H (by simp)
   · rw [if_neg c2] at H
     have c2b0 : decide (x8_1 < (l0.length : Int)) = false := decide_eq_false c2
     clear c2
     obtain rfl := Option.some.inj H
     go_wp2
     go_ret
     exact ⟨_, by first | rfl | (simp [errW_none, errW_some] <;> rfl) | (simp [*, errW_none, errW_some] <;> rfl), rq_ HO_3, bsv_⟩

/-! ### handshakerlaw15_Ref: function 19 -/
def handshakerlaw15_Ref.f (k : Nat) (a0_0 : Int) (a0_1 : Int) (a0_2 : Int) (l0_3 : List (S62)) (l0_4 : List (S80)) : Option (Int × Int × Int × (List (S62)) × (List (S117))) := (handshakerlaw07_Ref.f k l0_4).bind fun t320 => (some (a0_0, a0_1, a0_2, l0_3, t320))
theorem handshakerlaw15_Ref.mono : ∀ a0 a1 a2 a3 a4 k, LeO (handshakerlaw15_Ref.f k a0 a1 a2 a3 a4) (handshakerlaw15_Ref.f (k + 1) a0 a1 a2 a3 a4) := by
 intro a0 a1 a2 a3 a4 k
 unfold handshakerlaw15_Ref.f
 repeat' first
  | (with_reducible exact handshakerlaw07_Ref.mono _ _)
  | (with_reducible exact LeO.refl _)
  | (with_reducible exact LeO.none _)
  | (with_reducible refine LeO.ite ?_ ?_)
  | (with_reducible refine LeO.bind ?_ (fun _ => ?_))
  | exact handshakerlaw07_Ref.mono _ _
  | exact LeO.none _
  | refine LeO.ite ?_ ?_
  | refine LeO.bind ?_ (fun _ => ?_)
def handshakerlaw15_Ref.T1 : Bool × List (List Nat × List Nat) := (true, [([], []), ([0], [0]), ([], []), ([2], [2]), ([], []), ([4], [4]), ([], []), ([6], [6]), ([], []), ([8], [8]), ([9], [9]), ([1, 3, 5, 7, 10], [1, 3, 5, 7, 10]), ([11, 10, 0, 1, 2, 3, 4, 5, 6, 7, 8, 9, 10, 11], [11])])
def handshakerlaw15_Ref.B1 : List Nat := [0, 1, 0, 4, 0, 16, 0, 64, 0, 256, 768, 2047, 4095]
theorem handshakerlaw15_Ref.tab1 : rtab .any (opsOf Try.f19 1) = handshakerlaw15_Ref.T1 := by kernel_rfl
theorem handshakerlaw15_Ref.bits1 : waitsOk handshakerlaw15_Ref.T1.2 handshakerlaw15_Ref.B1 = true := by kernel_rfl
set_option maxHeartbeats 8000000 in
set_option maxRecDepth 100000 in
theorem handshakerlaw15_Ref.calls (k : Nat) (a0_0 : Int) (a0_1 : Int) (a0_2 : Int) (P0_3_ : Nat → Prop) (A0_3 : Option Addr) (c0_3 : Nat) (l0_3 : List (S62)) (A0_4 : Option Addr) (c0_4 : Nat) (l0_4 : List (S80)) (r1 : Int) (r2 : Int) (r3 : Int) (r4 : List (S62)) (r5 : List (S117)) (w : World) (hs0_3 : Kd.V k62 62 w w.heap.size (fun k_ => P0_3_ k_) (.slice A0_3 l0_3.length c0_3) l0_3) (hr0_4 : Kd.C k80 w A0_4 l0_4.length l0_4) (hc0_4 : l0_4.length ≤ c0_4) (h : handshakerlaw15_Ref.f k a0_0 a0_1 a0_2 l0_3 l0_4 = some (r1, r2, r3, r4, r5)) :
 Calls Try.prog 19 #[.agg #[.int .i64 a0_0, .int .i64 a0_1, .int .i64 a0_2, .slice A0_3 l0_3.length c0_3, .slice A0_4 l0_4.length c0_4]] w fun e w' => ∃ v3_ v4_ : Value, e = .returned (.agg #[.int .i64 r1, .int .i64 r2, .int .i64 r3, v3_, v4_]) ∧ Kd.V k62 62 w' w.heap.size (fun k_ => (P0_3_ k_ ∨ w.heap.size ≤ k_) ∧ some k_ ≠ (v4_ : Value).ownBlock) v3_ r4 ∧ Kd.R k117 117 w' w.heap.size (fun k_ => (w.heap.size ≤ k_)) v4_ r5 ∧ Below w.heap.size w w' := by
 have hu26 := Try.underlying26
 have hu39 := Try.underlying39
 have HO0_3 := Aside0.mk (show Kd.V k62 62 w w.heap.size (fun k_ => (P0_3_ k_ ∨ w.heap.size ≤ k_)) (.slice A0_3 l0_3.length c0_3) l0_3 from Kd.V_mono hs0_3 (fun k_ hk => .inl hk))
 have HR0_4 := Aside0.mk hr0_4
 have HC0_4 := Aside0.mk hc0_4
 clear hr0_4 hc0_4
 have HB := Aside0.mk (Below.refl w.heap.size w)
 have H : ((handshakerlaw07_Ref.f k l0_4).bind fun t320 => (some (a0_0, a0_1, a0_2, l0_3, t320))) = some (r1, r2, r3, r4, r5) := h
 clear h
 replace H := Option.bind_eq_some_iff.mp H
 obtain ⟨t320, A20, H⟩ := H
 have A2 := Aside0.mk A20
 clear A20
 simp only [Option.some.injEq, Prod.mk.injEq] at H
 obtain ⟨rfl, rfl, rfl, rfl, rfl⟩ := H
 go_enter Try.func19, Try.ntmps19
 try go_wp2_with (first | ((with_reducible refine gate_dst (N := 1) rfl ?_); refine box_event ?hg (N := 1) ?hd (cs := #[.int .i64 a0_0, .int .i64 a0_1, .int .i64 a0_2, .slice A0_3 l0_3.length c0_3, .slice A0_4 l0_4.length c0_4]) (t := 26) ?hr ?_; (case hd => rfl); (case hg => rfl); (case hr => first | (go_simp; done) | (go_simp; rfl)); intro gb318 hg w3 hbox hb; replace HO0_3 := Aside0.mk (Kd.V_below (Kd.V_elderB (vq_ HO0_3) gb318 (Nat.le_of_eq hg.symm)) hb); replace BK318 := Aside0.mk (hbox); replace GW318 := Aside0.mk ((by rw [hg]; exact bsz_ : w.heap.size ≤ gb318)); replace HB := Aside0.mk (bst_ hb); replace GE318 := GW318; clear hb hbox hg) | ((with_reducible refine gate_dst (N := 2) rfl ?_); refine box_event ?hg (N := 2) ?hd (cs := #[.int .i64 0, .int .i64 0, .int .i64 0, .slice none 0 0, .slice none 0 0]) (t := 39) ?hr ?_; (case hd => rfl); (case hg => rfl); (case hr => first | (go_simp; done) | (go_simp; rfl)); intro gb319 hg w4 hbox hb; replace HO0_3 := Aside0.mk (Kd.V_below (Kd.V_elderB (vq_ HO0_3) gb319 (Nat.le_of_eq hg.symm)) hb); replace BK319 := Aside0.mk (hbox); replace GW319 := Aside0.mk ((by rw [hg]; exact (below_size bsw_) : w.heap.size ≤ gb319)); replace HB := Aside0.mk (below_step bsw_ hb); replace GE319 := GW319; replace NB318_319 := Aside0.mk ((by rw [hg]; exact Nat.ne_of_lt (blk_lt (g := gb318) (o := .cells #[.int .i64 a0_0, .int .i64 a0_1, .int .i64 a0_2, .slice A0_3 l0_3.length c0_3, .slice A0_4 l0_4.length c0_4] 26 (0, 0)) (bq_ BK318)) : gb318 ≠ gb319)); replace NB319_318 := Aside0.mk ((by rw [hg]; exact Nat.ne_of_gt (blk_lt (g := gb318) (o := .cells #[.int .i64 a0_0, .int .i64 a0_1, .int .i64 a0_2, .slice A0_3 l0_3.length c0_3, .slice A0_4 l0_4.length c0_4] 26 (0, 0)) (bq_ BK318)) : gb319 ≠ gb318)); replace BK318 := bb_ BK318 hb; clear hb hbox hg))
 have n0_ := Aside0.mk (Kd.V_drew HO0_3.out)
 have n1_ := Aside0.mk (blk_drew BK318.out)
 have n2_ := Aside0.mk (blk_drew BK319.out)
 have n3_ := Aside0.mk (below_drew1 HB.out)
 clear HO0_3
 clear BK318
 clear BK319
 clear HB
 have HO0_3 := n0_
 have BK318 := n1_
 have BK319 := n2_
 have HB := n3_
 clear n0_ n1_ n2_ n3_
 refine start_ (n := 13) (S := fun w' => w'.cell? ⟨gb318, 0, none⟩ = some (.int .i64 a0_0) ∧ w'.cell? ⟨gb318, 1, none⟩ = some (.int .i64 a0_1) ∧ w'.cell? ⟨gb318, 2, none⟩ = some (.int .i64 a0_2) ∧ w'.cell? ⟨gb318, 3, none⟩ = some (.slice A0_3 l0_3.length c0_3) ∧ w'.cell? ⟨gb318, 4, none⟩ = some (.slice A0_4 l0_4.length c0_4)) (ds := []) #[false, false, false, false, false, false, false, false, false, false, false, false, false] (by kernel_rfl) rfl rfl ⟨(blk_cell BK318.out 0).trans rfl, (blk_cell BK318.out 1).trans rfl, (blk_cell BK318.out 2).trans rfl, (blk_cell BK318.out 3).trans rfl, (blk_cell BK318.out 4).trans rfl⟩ (fun hHeld => ?_); refine with_tabW handshakerlaw15_Ref.tab1 handshakerlaw15_Ref.bits1 (fun HT_ HW_ => ?_)
 generalize w4.drew = w5 at HO0_3 BK318 BK319 HB hHeld ⊢
 refine pure_ (i := 0) (N := some 3) (v := ?_) (a' := ?_) #[true, false, false, false, false, false, false, false, false, false, false, false, false] rfl rfl (any_of HT_.out (by kernel_rfl)) (fun _ _ _ h => h) (Or.inl ⟨by rfl, ?_⟩) ?_ ?_
 rotate_left
 · intro w'
   go_simp
   with_reducible rfl
 rotate_left
 · simp only [Act.put, List.setIfInBounds_toArray, List.set_cons_zero, List.set_cons_succ, i64_w, i32_w]
   rfl
 refine pure_ (i := 2) (N := some 5) (v := ?_) (a' := ?_) #[true, false, true, false, false, false, false, false, false, false, false, false, false] rfl rfl (any_of HT_.out (by kernel_rfl)) (fun _ _ _ h => h) (Or.inl ⟨by rfl, ?_⟩) ?_ ?_
 rotate_left
 · intro w'
   go_simp
   with_reducible rfl
 rotate_left
 · simp only [Act.put, List.setIfInBounds_toArray, List.set_cons_zero, List.set_cons_succ, i64_w, i32_w]
   rfl
 refine pure_ (i := 4) (N := some 7) (v := ?_) (a' := ?_) #[true, false, true, false, true, false, false, false, false, false, false, false, false] rfl rfl (any_of HT_.out (by kernel_rfl)) (fun _ _ _ h => h) (Or.inl ⟨by rfl, ?_⟩) ?_ ?_
 rotate_left
 · intro w'
   go_simp
   with_reducible rfl
 rotate_left
 · simp only [Act.put, List.setIfInBounds_toArray, List.set_cons_zero, List.set_cons_succ, i64_w, i32_w]
   rfl
 refine pure_ (i := 6) (N := some 9) (v := ?_) (a' := ?_) #[true, false, true, false, true, false, true, false, false, false, false, false, false] rfl rfl (any_of HT_.out (by kernel_rfl)) (fun _ _ _ h => h) (Or.inl ⟨by rfl, ?_⟩) ?_ ?_
 rotate_left
 · intro w'
   go_simp
   with_reducible rfl
 rotate_left
 · simp only [Act.put, List.setIfInBounds_toArray, List.set_cons_zero, List.set_cons_succ, i64_w, i32_w]
   rfl
 refine pure_ (i := 8) (N := some 11) (v := ?_) (a' := ?_) #[true, false, true, false, true, false, true, false, true, false, false, false, false] rfl rfl (any_of HT_.out (by kernel_rfl)) (fun _ _ _ h => h) (Or.inl ⟨by rfl, ?_⟩) ?_ ?_
 rotate_left
 · intro w'
   go_simp
   with_reducible rfl
 rotate_left
 · simp only [Act.put, List.setIfInBounds_toArray, List.set_cons_zero, List.set_cons_succ, i64_w, i32_w]
   rfl
 refine take_ (i := 1) (N := some 4) (v := ?_) (a' := ?_) #[true, true, true, false, true, false, true, false, true, false, false, false, false] rfl rfl (take_ofW HT_.out HW_.out (by kernel_rfl)) (fun _ _ _ h => h) (Or.inl ⟨by rfl, ?_⟩) hHeld ?_ ?_
 rotate_left
 · rintro w' ⟨s0, s1, s2, s3, s4⟩
   go_simp
   with_reducible rfl
 rotate_left
 · simp only [Act.put, List.setIfInBounds_toArray, List.set_cons_zero, List.set_cons_succ, i64_w, i32_w]
   rfl
 refine take_ (i := 3) (N := some 6) (v := ?_) (a' := ?_) #[true, true, true, true, true, false, true, false, true, false, false, false, false] rfl rfl (take_ofW HT_.out HW_.out (by kernel_rfl)) (fun _ _ _ h => h) (Or.inl ⟨by rfl, ?_⟩) hHeld ?_ ?_
 rotate_left
 · rintro w' ⟨s0, s1, s2, s3, s4⟩
   go_simp
   with_reducible rfl
 rotate_left
 · simp only [Act.put, List.setIfInBounds_toArray, List.set_cons_zero, List.set_cons_succ, i64_w, i32_w]
   rfl
 refine take_ (i := 5) (N := some 8) (v := ?_) (a' := ?_) #[true, true, true, true, true, true, true, false, true, false, false, false, false] rfl rfl (take_ofW HT_.out HW_.out (by kernel_rfl)) (fun _ _ _ h => h) (Or.inl ⟨by rfl, ?_⟩) hHeld ?_ ?_
 rotate_left
 · rintro w' ⟨s0, s1, s2, s3, s4⟩
   go_simp
   with_reducible rfl
 rotate_left
 · simp only [Act.put, List.setIfInBounds_toArray, List.set_cons_zero, List.set_cons_succ, i64_w, i32_w]
   rfl
 refine take_ (i := 7) (N := some 10) (v := ?_) (a' := ?_) #[true, true, true, true, true, true, true, true, true, false, false, false, false] rfl rfl (take_ofW HT_.out HW_.out (by kernel_rfl)) (fun _ _ _ h => h) (Or.inl ⟨by rfl, ?_⟩) hHeld ?_ ?_
 rotate_left
 · rintro w' ⟨s0, s1, s2, s3, s4⟩
   go_simp
   with_reducible rfl
 rotate_left
 · simp only [Act.put, List.setIfInBounds_toArray, List.set_cons_zero, List.set_cons_succ, i64_w, i32_w]
   rfl
 refine take_ (i := 9) (N := some 12) (v := ?_) (a' := ?_) #[true, true, true, true, true, true, true, true, true, true, false, false, false] rfl rfl (take_ofW HT_.out HW_.out (by kernel_rfl)) (fun _ _ _ h => h) (Or.inl ⟨by rfl, ?_⟩) hHeld ?_ ?_
 rotate_left
 · rintro w' ⟨s0, s1, s2, s3, s4⟩
   go_simp
   with_reducible rfl
 rotate_left
 · simp only [Act.put, List.setIfInBounds_toArray, List.set_cons_zero, List.set_cons_succ, i64_w, i32_w]
   rfl
 refine one_ (i := 10) (N := some 13) #[true, true, true, true, true, true, true, true, true, true, true, false, false] rfl rfl (one_of HT_.out (by kernel_rfl)) (by decide) (fun K hK => ?_)
 refine goes_ Try.func46 (by kernel_rfl) rfl #[.slice A0_4 l0_4.length c0_4] (by rfl) rfl rfl (by (try simp only [List.map_toArray, List.map_cons, List.map_nil]); first | done | rfl | (simp only [List.length_drop, List.length_take]; rfl)) ?_
 with_reducible refine (handshakerlaw07_Ref.calls k _ _ l0_4 t320 _ ?side1 ?side2 A2.out).mono ?_
 (case side1 => repeat (first | exact (Kd.C_below HR0_4.out HB.out) | with_reducible first | refine Kd.C_alloc ?_ _ | refine Kd.C_drewN ?_ _ | refine Kd.C_drew ?_))
 (case side2 => exact HC0_4.out)
 rintro e w6 ⟨v321, rfl, ho0, hb⟩
 refine ⟨_, rfl, ?_⟩
 have n0_ := Aside0.mk (Kd.V_elder' (vq_ HO0_3) (Kd.R_base ho0) hb)
 have n1_ := Aside0.mk (Kd.R_lower (Kd.R_newM (M := fun k_ => (w.heap.size ≤ k_)) ho0 (below_size (by repeat (first | (with_reducible first | exact HB.out | apply below_alloc | apply pw_below_drewN | apply below_drew1 | refine below_set ?_ GE318.out | refine below_set ?_ GE319.out) | exact HB.out))) (fun k_ h_ => h_)) (below_size (by repeat (first | (with_reducible first | exact HB.out | apply below_alloc | apply pw_below_drewN | apply below_drew1 | refine below_set ?_ GE318.out | refine below_set ?_ GE319.out) | exact HB.out))))
 have n2_ := bb_ BK318 hb
 have n3_ := bb_ BK319 hb
 have n4_ := Aside0.mk (below_step (by repeat (first | (with_reducible first | exact HB.out | apply below_alloc | apply pw_below_drewN | apply below_drew1 | refine below_set ?_ GE318.out | refine below_set ?_ GE319.out) | exact HB.out)) hb)
 clear HO0_3
 clear BK318
 clear BK319
 clear HB
 have HO0_3 := n0_
 have HO322 := n1_
 have BK318 := n2_
 have BK319 := n3_
 have HB := n4_
 clear n0_ n1_ n2_ n3_ n4_
 (try clear hb)
 (try clear hb2)
 (try clear hk)
 (try clear hi)
 (try clear ho0)
 obtain ⟨Ao7, co7, eo7⟩ := Kd.R_slice HO322.out
 (first | subst eo7 | (injection eo7 with f1_ f2_ f3_; have f4_ := f1_.symm; have f5_ := f3_.symm; clear f1_ f2_ f3_; subst f4_; subst f5_))
 refine hK.out _ _ ⟨(blk_cell BK318.out 0).trans rfl, (blk_cell BK318.out 1).trans rfl, (blk_cell BK318.out 2).trans rfl, (blk_cell BK318.out 3).trans rfl, (blk_cell BK318.out 4).trans rfl⟩ (fun hHeld => ?_)
 clear hK K
 refine norm_ (a' := ?_) ?_ ?_
 rotate_left
 · show Act.put _ (some 13) _ = _
   simp only [Act.put, List.setIfInBounds_toArray, List.set_cons_zero, List.set_cons_succ, i64_w, i32_w]
   rfl
 refine pure_ (i := 11) (N := some 14) (v := ?_) (a' := ?_) #[true, true, true, true, true, true, true, true, true, true, true, true, false] rfl rfl (any_of HT_.out (by kernel_rfl)) (fun _ _ _ h => h) (Or.inl ⟨by rfl, ?_⟩) ?_ ?_
 rotate_left
 · intro w'
   go_simp
   with_reducible rfl
 rotate_left
 · simp only [Act.put, List.setIfInBounds_toArray, List.set_cons_zero, List.set_cons_succ, i64_w, i32_w]
   rfl
 refine one_ (i := 12) (N := none) #[true, true, true, true, true, true, true, true, true, true, true, true, true] rfl rfl (one_of HT_.out (by kernel_rfl)) (by decide) (fun K hK => ?_)
 have hs8 : w6.cell? ⟨gb319, 0, none⟩ = some (.int .i64 0) := (blk_cell BK319.out 0).trans rfl
 have hfs8 := blk_frozen BK319.out 0
 have hns8_0 := NB318_319.out
 have hms8_0 := NB319_318.out
 have hs9 : w6.cell? ⟨gb319, 1, none⟩ = some (.int .i64 0) := (blk_cell BK319.out 1).trans rfl
 have hfs9 := blk_frozen BK319.out 1
 have hns9_0 := NB318_319.out
 have hms9_0 := NB319_318.out
 have hs10 : w6.cell? ⟨gb319, 2, none⟩ = some (.int .i64 0) := (blk_cell BK319.out 2).trans rfl
 have hfs10 := blk_frozen BK319.out 2
 have hns10_0 := NB318_319.out
 have hms10_0 := NB319_318.out
 have hs11 : w6.cell? ⟨gb319, 3, none⟩ = some (.slice none 0 0) := (blk_cell BK319.out 3).trans rfl
 have hfs11 := blk_frozen BK319.out 3
 have hns11_0 := NB318_319.out
 have hms11_0 := NB319_318.out
 have hs12 : w6.cell? ⟨gb319, 4, none⟩ = some (.slice none 0 0) := (blk_cell BK319.out 4).trans rfl
 have hfs12 := blk_frozen BK319.out 4
 have hns12_0 := NB318_319.out
 have hms12_0 := NB319_318.out
 refine skip_ (w1 := ?_) (by rfl) rfl ?_ ?_
 rotate_left
 · go_simp
   rfl
 refine hK.out _ _ ⟨((cell_far (p := ⟨gb319, _, none⟩) NB318_319.out _).trans (((cell_far (p := ⟨gb319, _, none⟩) NB318_319.out _).trans (((cell_far (p := ⟨gb319, _, none⟩) NB318_319.out _).trans (((cell_far (p := ⟨gb319, _, none⟩) NB318_319.out _).trans (((cell_far (p := ⟨gb319, _, none⟩) NB318_319.out _).trans (hHeld.1)))))))))), ((cell_far (p := ⟨gb319, _, none⟩) NB318_319.out _).trans (((cell_far (p := ⟨gb319, _, none⟩) NB318_319.out _).trans (((cell_far (p := ⟨gb319, _, none⟩) NB318_319.out _).trans (((cell_far (p := ⟨gb319, _, none⟩) NB318_319.out _).trans (((cell_far (p := ⟨gb319, _, none⟩) NB318_319.out _).trans (hHeld.2.1)))))))))), ((cell_far (p := ⟨gb319, _, none⟩) NB318_319.out _).trans (((cell_far (p := ⟨gb319, _, none⟩) NB318_319.out _).trans (((cell_far (p := ⟨gb319, _, none⟩) NB318_319.out _).trans (((cell_far (p := ⟨gb319, _, none⟩) NB318_319.out _).trans (((cell_far (p := ⟨gb319, _, none⟩) NB318_319.out _).trans (hHeld.2.2.1)))))))))), ((cell_far (p := ⟨gb319, _, none⟩) NB318_319.out _).trans (((cell_far (p := ⟨gb319, _, none⟩) NB318_319.out _).trans (((cell_far (p := ⟨gb319, _, none⟩) NB318_319.out _).trans (((cell_far (p := ⟨gb319, _, none⟩) NB318_319.out _).trans (((cell_far (p := ⟨gb319, _, none⟩) NB318_319.out _).trans (hHeld.2.2.2.1)))))))))), ((cell_far (p := ⟨gb319, _, none⟩) NB318_319.out _).trans (((cell_far (p := ⟨gb319, _, none⟩) NB318_319.out _).trans (((cell_far (p := ⟨gb319, _, none⟩) NB318_319.out _).trans (((cell_far (p := ⟨gb319, _, none⟩) NB318_319.out _).trans (((cell_far (p := ⟨gb319, _, none⟩) NB318_319.out _).trans (hHeld.2.2.2.2))))))))))⟩ (fun hHeld => ?_)
 clear hK K
 refine done_ (done_of HT_.out (by kernel_rfl)) ?_
 try go_wp2
 refine bodyPost_ret (results_cell_row rfl _ _ gb319 39 #[.int .i64 a0_0, .int .i64 a0_1, .int .i64 a0_2, .slice A0_3 l0_3.length c0_3, .slice Ao7 t320.length co7] (0, 0) _ rfl (by (with_reducible repeat (first | refine blk_drewN ?_ _ | refine blk_drew ?_ | refine blk_alloc ?_ _)); refine blk_put (cs := #[.int .i64 a0_0, .int .i64 a0_1, .int .i64 a0_2, .slice A0_3 l0_3.length c0_3, .slice none 0 0]) ?_ 4 _ rfl; (with_reducible repeat (first | refine blk_drewN ?_ _ | refine blk_drew ?_ | refine blk_alloc ?_ _)); refine blk_put (cs := #[.int .i64 a0_0, .int .i64 a0_1, .int .i64 a0_2, .slice none 0 0, .slice none 0 0]) ?_ 3 _ rfl; (with_reducible repeat (first | refine blk_drewN ?_ _ | refine blk_drew ?_ | refine blk_alloc ?_ _)); refine blk_put (cs := #[.int .i64 a0_0, .int .i64 a0_1, .int .i64 0, .slice none 0 0, .slice none 0 0]) ?_ 2 _ rfl; (with_reducible repeat (first | refine blk_drewN ?_ _ | refine blk_drew ?_ | refine blk_alloc ?_ _)); refine blk_put (cs := #[.int .i64 a0_0, .int .i64 0, .int .i64 0, .slice none 0 0, .slice none 0 0]) ?_ 1 _ rfl; (with_reducible repeat (first | refine blk_drewN ?_ _ | refine blk_drew ?_ | refine blk_alloc ?_ _)); refine blk_put (cs := #[.int .i64 0, .int .i64 0, .int .i64 0, .slice none 0 0, .slice none 0 0]) ?_ 0 _ rfl; (with_reducible repeat (first | refine blk_drewN ?_ _ | refine blk_drew ?_ | refine blk_alloc ?_ _)); exact BK319.out) Try.underlying39 rfl (by kernel_rfl)) rfl ?_
 exact ⟨_, _, by first | rfl | (simp [errW_none, errW_some] <;> rfl) | (simp [*, errW_none, errW_some] <;> rfl), by (with_reducible repeat (first | apply Kd.V_alloc | apply Kd.V_drewN | apply Kd.V_drew)); exact Kd.V_mono (Kd.V_far (p := ⟨gb319, 4, none⟩) (Kd.V_far (p := ⟨gb319, 3, none⟩) (Kd.V_far (p := ⟨gb319, 2, none⟩) (Kd.V_far (p := ⟨gb319, 1, none⟩) (Kd.V_far (p := ⟨gb319, 0, none⟩) (Kd.V_mono HO0_3.out (fun k_ hk => (⟨hk, hk.1.2⟩ : _ ∧ k_ ≠ gb319))) (fun _ hk => hk.2) (.int .i64 a0_0)) (fun _ hk => hk.2) (.int .i64 a0_1)) (fun _ hk => hk.2) (.int .i64 a0_2)) (fun _ hk => hk.2) (.slice A0_3 l0_3.length c0_3)) (fun _ hk => hk.2) (.slice Ao7 t320.length co7)) (fun _ hk => ⟨hk.1.1.1.1, hk.1.2⟩), by (with_reducible repeat (first | apply Kd.R_alloc | apply Kd.R_drewN | apply Kd.R_drew)); exact Kd.R_mono (Kd.R_far (p := ⟨gb319, 4, none⟩) (Kd.R_far (p := ⟨gb319, 3, none⟩) (Kd.R_far (p := ⟨gb319, 2, none⟩) (Kd.R_far (p := ⟨gb319, 1, none⟩) (Kd.R_far (p := ⟨gb319, 0, none⟩) (Kd.R_types HO322.out BK319.out (by decide)) (fun _ hk => hk.2) (.int .i64 a0_0)) (fun _ hk => hk.2) (.int .i64 a0_1)) (fun _ hk => hk.2) (.int .i64 a0_2)) (fun _ hk => hk.2) (.slice A0_3 l0_3.length c0_3)) (fun _ hk => hk.2) (.slice Ao7 t320.length co7)) (fun _ hk => hk.1.1), by repeat (first | (with_reducible first | exact HB.out | apply below_alloc | apply pw_below_drewN | apply below_drew1 | refine below_set ?_ GE318.out | refine below_set ?_ GE319.out) | exact HB.out)⟩

/-! ### handshakerlaw15_Refs: function 16 -/
def handshakerlaw15_Refs.l0 : Nat → List (S39) → List (S26) → Int → Int → Option ((List (S39)))
 | 0, _, _, _, _ => none
 | k + 1, x3, x6, x7, x8 => if x8 < x7 then (if 0 ≤ x8 then (if x8 < (x6.length : Int) then ((handshakerlaw15_Ref.f k ((rd_T26 x6 x8).f0) ((rd_T26 x6 x8).f1) ((rd_T26 x6 x8).f2) ((rd_T26 x6 x8).f3) ((rd_T26 x6 x8).f4)).bind fun bt325 => (if x3.length < 1954687338268 then (handshakerlaw15_Refs.l0 k (x3 ++ [(⟨bt325.1, bt325.2.1, bt325.2.2.1, bt325.2.2.2.1, bt325.2.2.2.2⟩ : S39)]) x6 x7 (wrap64 (x8 + 1))) else (none))) else (none)) else (none)) else (some x3)
def handshakerlaw15_Refs.f (k : Nat) (l0 : List (S26)) : Option ((List (S39))) := handshakerlaw15_Refs.l0 k ([] : List (S39)) l0 (l0.length : Int) 0
theorem handshakerlaw15_Refs.mono_l : ∀ k, (∀ y0 y1 y2 y3, LeO (handshakerlaw15_Refs.l0 k y0 y1 y2 y3) (handshakerlaw15_Refs.l0 (k + 1) y0 y1 y2 y3))
 | 0 => fun _ _ _ _ r h => by simp [handshakerlaw15_Refs.l0] at h
 | k + 1 => by
  have ih0 := handshakerlaw15_Refs.mono_l k
  · intro y0 y1 y2 y3
    unfold handshakerlaw15_Refs.l0
    repeat' first
    | (with_reducible exact ih0 _ _ _ _)
    | (with_reducible exact handshakerlaw15_Ref.mono _ _ _ _ _ _)
    | (with_reducible exact LeO.refl _)
    | (with_reducible exact LeO.none _)
    | (with_reducible refine LeO.ite ?_ ?_)
    | (with_reducible refine LeO.bind ?_ (fun _ => ?_))
    | exact ih0 _ _ _ _
    | exact handshakerlaw15_Ref.mono _ _ _ _ _ _
    | exact LeO.none _
    | refine LeO.ite ?_ ?_
    | refine LeO.bind ?_ (fun _ => ?_)
theorem handshakerlaw15_Refs.mono : ∀ a0 k, LeO (handshakerlaw15_Refs.f k a0) (handshakerlaw15_Refs.f (k + 1) a0) := by
 intro a0 k
 have ih0 := handshakerlaw15_Refs.mono_l k
 unfold handshakerlaw15_Refs.f
 repeat' first
  | (with_reducible exact ih0 _ _ _ _)
  | (with_reducible exact handshakerlaw15_Ref.mono _ _ _ _ _ _)
  | (with_reducible exact LeO.refl _)
  | (with_reducible exact LeO.none _)
  | (with_reducible refine LeO.ite ?_ ?_)
  | (with_reducible refine LeO.bind ?_ (fun _ => ?_))
  | exact ih0 _ _ _ _
  | exact handshakerlaw15_Ref.mono _ _ _ _ _ _
  | exact LeO.none _
  | refine LeO.ite ?_ ?_
  | refine LeO.bind ?_ (fun _ => ?_)
set_option maxHeartbeats 8000000 in
set_option maxRecDepth 100000 in
theorem handshakerlaw15_Refs.calls (k : Nat) (P0_ : Nat → Prop) (A0 : Option Addr) (c0 : Nat) (l0 : List (S26)) (r : List (S39)) (w : World) (hs0 : Kd.V k26 26 w w.heap.size (fun k_ => P0_ k_) (.slice A0 l0.length c0) l0) (h : handshakerlaw15_Refs.f k l0 = some r) :
 Calls Try.prog 16 #[.slice A0 l0.length c0] w fun e w' => ∃ v0_ : Value, e = .returned (v0_) ∧ Kd.N k39 39 w' w.heap.size (fun k_ => (P0_ k_ ∨ w.heap.size ≤ k_)) v0_ r ∧ Below w.heap.size w w' := by
 have hu26 := Try.underlying26
 have HO0 := Aside0.mk (show Kd.V k26 26 w w.heap.size (fun k_ => (P0_ k_ ∨ w.heap.size ≤ k_)) (.slice A0 l0.length c0) l0 from Kd.V_mono hs0 (fun k_ hk => .inl hk))
 have HB := Aside0.mk (Below.refl w.heap.size w)
 have H : (handshakerlaw15_Refs.l0 k ([] : List (S39)) l0 (l0.length : Int) 0) = some r := h
 clear h
 have H' := Aside0.mk H
 clear H
 go_enter Try.func16, Try.ntmps16
 go_wp2
 go_loopg [3, 8] k (fun kq v3 v8 w' => ∃ (x3_1 : List (S39)) (x8_1 : Int), v8 = .int .i64 x8_1 ∧ Aside0 (handshakerlaw15_Refs.l0 kq x3_1 l0 (l0.length : Int) x8_1 = some r) ∧ Aside0 (kq ≤ k) ∧ Aside0 (Kd.N k39 39 w' w.heap.size (fun k_ => (P0_ k_ ∨ w.heap.size ≤ k_)) v3 x3_1) ∧ Aside0 (Kd.V k26 26 w' w.heap.size (fun k_ => (P0_ k_ ∨ w.heap.size ≤ k_) ∧ some k_ ≠ (v3 : Value).ownBlock) (.slice A0 l0.length c0) l0) ∧ Aside0 (Below w.heap.size w w'))
 case atStart => exact ⟨(([] : List (S39))), (0), (by first | rfl | (simp; done) | (simp [*]; done)), H', ⟨Nat.le_refl _⟩, ⟨by first | exact Kd.S_nil _ _ _ _ _ | exact Kd.N_nil _ _ _ _ _ | exact Kd.V_nil _ _ _ _ _ | exact Kd.Q_nil _ _ _ _ _ | exact Kd.R_nil _ _ _ _ _⟩, ⟨Kd.V_mono (vq_ HO0) (fun _ hk => ⟨hk, (by simp [Value.ownBlock])⟩)⟩, ⟨bsv_⟩⟩
 case round =>
  clear H'
  try clear c1
  obtain ⟨x3_1, x8_1, rfl, HA, HK1, HO_3, HO_6, HB⟩ := hrel
  cases gk with
  | zero => exact absurd HA.out (by simp [handshakerlaw15_Refs.l0])
  | succ k1 =>
   have H := HA.out
   clear HA
   simp only [handshakerlaw15_Refs.l0] at H
   by_cases c2 : x8_1 < (l0.length : Int)
   · rw [if_pos c2] at H
     have c2b0 : decide (x8_1 < (l0.length : Int)) = true := decide_eq_true c2
     clear c2
     by_cases c3 : 0 ≤ x8_1
     · rw [if_pos c3] at H
       have c3b0 : decide (0 ≤ x8_1) = true := decide_eq_true c3
       clear c3
       by_cases c4 : x8_1 < (l0.length : Int)
       · rw [if_pos c4] at H
         have c4b0 : decide (x8_1 < (l0.length : Int)) = true := decide_eq_true c4
         clear c4
         replace H := Option.bind_eq_some_iff.mp H
         obtain ⟨⟨t325, t326, t327, t328, t331⟩, A50, H⟩ := H
         have A5 := Aside0.mk A50
         clear A50
         by_cases c6 : x3_1.length < 1954687338268
         · rw [if_pos c6] at H
           have LMc6 := Aside0.mk c6
           clear c6
           obtain ⟨y334, hy334⟩ : ∃ y_ : List (S39), y_ = (x3_1 ++ [(⟨t325, t326, t327, t328, t331⟩ : S39)]) := ⟨_, rfl⟩
           replace H : (handshakerlaw15_Refs.l0 k1 y334 l0 (l0.length : Int) (wrap64 (x8_1 + 1))) = some r := by first | (rw [hy334]; with_reducible exact H) | (have H2_ := (Option.bind_some _ _).symm.trans H; rw [hy334]; with_reducible exact H2_) | (have H2_ := (Option.bind_some _ _).symm.trans H; with_reducible exact H2_) | with_reducible exact H | (rw [hy334]; exact H) | exact H
           have Ny334 := Aside0.mk hy334
           clear hy334
           have H' := Aside0.mk H
           clear H
           have p323 : 0 ≤ (x8_1 : Int) := oda_
           have q323 : x8_1 < (l0.length : Int) := oda_
           obtain ⟨ad323, A323_3, c323_3, A323_4, c323_4, e323, hx323_0, hx323_1, hx323_2, hx323_3, hx323_4, hl323_3, hi323_3, hl323_4, hi323_4⟩ := at_T26 (Kd.V_reads' HO_6.out).2.2 x8_1 p323 q323
           cases e323
           obtain ⟨ce323, hce323, hMe323, hcc323⟩ := Kd.V_get HO_6.out z26 x8_1 p323 (by first | exact q323 | exact oda_ | (have e_ := (Kd.V_reads' HO_6.out).1; omega))
           obtain ⟨ua323_3, uc323_3, ua323_4, uc323_4, rfl, ul323_3, ge323_3, ul323_4, ge323_4⟩ := k26_openF hMe323
           have hv323_3 := hcc323 3 _ rfl
           rw [add_field _ _ 3 (by omega)] at hv323_3
           replace hv323_3 := Option.some.inj (hv323_3.symm.trans hx323_3)
           injection hv323_3 with hva_ hvn_ hvc_
           rw [hva_] at ge323_3
           rw [hvc_] at ul323_3
           have HL323_3 := Aside0.mk (show Kd.V k62 62 _ w.heap.size _ _ ((rd_T26 l0 x8_1).f3) from Kd.V_mk ul323_3 ge323_3)
           clear hva_ hvn_ hvc_ ge323_3 ul323_3
           have hv323_4 := hcc323 4 _ rfl
           rw [add_field _ _ 4 (by omega)] at hv323_4
           replace hv323_4 := Option.some.inj (hv323_4.symm.trans hx323_4)
           injection hv323_4 with hva_ hvn_ hvc_
           rw [hva_] at ge323_4
           rw [hvc_] at ul323_4
           have HL323_4 := Aside0.mk (show Kd.V k80 80 _ w.heap.size _ _ ((rd_T26 l0 x8_1).f4) from Kd.V_mk ul323_4 ge323_4)
           clear hva_ hvn_ hvc_ ge323_4 ul323_4
           clear hcc323 hce323
           have HR323_3 := Aside0.mk hi323_3
           have HC323_3 := Aside0.mk hl323_3
           clear hi323_3 hl323_3
           have HR323_4 := Aside0.mk hi323_4
           have HC323_4 := Aside0.mk hl323_4
           clear hi323_4 hl323_4
           replace p323 := eq_true p323
           replace q323 := eq_true q323
           go_wp2_with (first | ((with_reducible refine gate_dst (N := 5) rfl ?_); refine box_event ?hg (N := 5) ?hd (cs := #[.int .i64 0, .int .i64 0, .int .i64 0, .slice none 0 0, .slice none 0 0]) (t := 26) ?hr ?_; (case hd => rfl); (case hg => rfl); (case hr => first | (go_simp; done) | (go_simp; rfl)); intro gb324 hg w7 hbox hb; replace HO_3 := Aside0.mk (Kd.N_below (Kd.N_elderB (nq_ HO_3) gb324 (Nat.le_of_eq hg.symm)) hb); replace HO_6 := Aside0.mk (Kd.V_below (Kd.V_elderB (vq_ HO_6) gb324 (Nat.le_of_eq hg.symm)) hb); replace HL323_3 := Aside0.mk (Kd.V_below (Kd.V_elderB (vq_ HL323_3) gb324 (Nat.le_of_eq hg.symm)) hb); replace HL323_4 := Aside0.mk (Kd.V_below (Kd.V_elderB (vq_ HL323_4) gb324 (Nat.le_of_eq hg.symm)) hb); replace HR323_3 := Aside0.mk (Kd.V_reads' HL323_3.out).2.2; replace HR323_4 := Aside0.mk (Kd.V_reads' HL323_4.out).2.2; replace BK324 := Aside0.mk (hbox); replace GW324 := Aside0.mk ((by rw [hg]; exact bsz_ : w.heap.size ≤ gb324)); replace HB := Aside0.mk (bst_ hb); replace GE324 := GW324; clear hb hbox hg; have hcz8_0 : w7.cell? ⟨gb324, 0, none⟩ = some (.int .i64 0) := (blk_cell BK324.out 0).trans rfl; have hcz8_1 : w7.cell? ⟨gb324, 1, none⟩ = some (.int .i64 0) := (blk_cell BK324.out 1).trans rfl; have hcz8_2 : w7.cell? ⟨gb324, 2, none⟩ = some (.int .i64 0) := (blk_cell BK324.out 2).trans rfl; have hcz8_3 : w7.cell? ⟨gb324, 3, none⟩ = some (.slice none 0 0) := (blk_cell BK324.out 3).trans rfl; have hcz8_4 : w7.cell? ⟨gb324, 4, none⟩ = some (.slice none 0 0) := (blk_cell BK324.out 4).trans rfl; have hfz8_0 := blk_frozen BK324.out 0; have hfz8_1 := blk_frozen BK324.out 1; have hfz8_2 := blk_frozen BK324.out 2; have hfz8_3 := blk_frozen BK324.out 3; have hfz8_4 := blk_frozen BK324.out 4) | ((with_reducible refine gate_store (t := 26) (p := 5) rfl ?_); refine store_event (t := 26) (p := 5) (v := ?vo_w9) (w1 := (((((w7.setCell ⟨gb324, 0, none⟩ (.int .i64 ((rd_T26 l0 x8_1).f0))).setCell ⟨gb324, 1, none⟩ (.int .i64 ((rd_T26 l0 x8_1).f1))).setCell ⟨gb324, 2, none⟩ (.int .i64 ((rd_T26 l0 x8_1).f2))).setCell ⟨gb324, 3, none⟩ (.slice A323_3 ((rd_T26 l0 x8_1).f3).length c323_3)).setCell ⟨gb324, 4, none⟩ (.slice A323_4 ((rd_T26 l0 x8_1).f4).length c323_4))) ?hg ?ho ?hn ?hr ?_; (case ho => rfl); (case hg => rfl); (case hn => rfl); (case hr => first | (go_simp; done) | (go_simp; rfl)); intro w9 hw; have n0_ : Aside0 (Kd.N k39 39 w9 w.heap.size (fun k_ => (P0_ k_ ∨ w.heap.size ≤ k_) ∧ k_ ≠ gb324) u3 x3_1) := ⟨(by rw [hw]; exact (by (with_reducible repeat (first | apply Kd.N_alloc | apply Kd.N_drewN | apply Kd.N_drew)); exact Kd.N_mono (Kd.N_far (p := ⟨gb324, 4, none⟩) (Kd.N_far (p := ⟨gb324, 3, none⟩) (Kd.N_far (p := ⟨gb324, 2, none⟩) (Kd.N_far (p := ⟨gb324, 1, none⟩) (Kd.N_far (p := ⟨gb324, 0, none⟩) (Kd.N_mono HO_3.out (fun k_ hk => (⟨hk, hk.2⟩ : _ ∧ k_ ≠ gb324))) (fun _ hk => hk.2) (.int .i64 ((rd_T26 l0 x8_1).f0))) (fun _ hk => hk.2) (.int .i64 ((rd_T26 l0 x8_1).f1))) (fun _ hk => hk.2) (.int .i64 ((rd_T26 l0 x8_1).f2))) (fun _ hk => hk.2) (.slice A323_3 ((rd_T26 l0 x8_1).f3).length c323_3)) (fun _ hk => hk.2) (.slice A323_4 ((rd_T26 l0 x8_1).f4).length c323_4)) (fun _ hk => ⟨hk.1.1, hk.1.2⟩)))⟩; have n1_ : Aside0 (Kd.V k26 26 w9 w.heap.size (fun k_ => (P0_ k_ ∨ w.heap.size ≤ k_) ∧ some k_ ≠ (u3 : Value).ownBlock ∧ k_ ≠ gb324) (.slice (some ad323) l0.length c0) l0) := ⟨(by rw [hw]; exact (by (with_reducible repeat (first | apply Kd.V_alloc | apply Kd.V_drewN | apply Kd.V_drew)); exact Kd.V_mono (Kd.V_far (p := ⟨gb324, 4, none⟩) (Kd.V_far (p := ⟨gb324, 3, none⟩) (Kd.V_far (p := ⟨gb324, 2, none⟩) (Kd.V_far (p := ⟨gb324, 1, none⟩) (Kd.V_far (p := ⟨gb324, 0, none⟩) (Kd.V_mono HO_6.out (fun k_ hk => (⟨hk, hk.2⟩ : _ ∧ k_ ≠ gb324))) (fun _ hk => hk.2) (.int .i64 ((rd_T26 l0 x8_1).f0))) (fun _ hk => hk.2) (.int .i64 ((rd_T26 l0 x8_1).f1))) (fun _ hk => hk.2) (.int .i64 ((rd_T26 l0 x8_1).f2))) (fun _ hk => hk.2) (.slice A323_3 ((rd_T26 l0 x8_1).f3).length c323_3)) (fun _ hk => hk.2) (.slice A323_4 ((rd_T26 l0 x8_1).f4).length c323_4)) (fun _ hk => ⟨hk.1.1.1, ⟨hk.1.1.2, hk.1.2⟩⟩)))⟩; have n2_ : Aside0 (Kd.V k62 62 w9 w.heap.size (fun k_ => (P0_ k_ ∨ w.heap.size ≤ k_) ∧ some k_ ≠ (u3 : Value).ownBlock ∧ k_ ≠ gb324) (.slice A323_3 ((rd_T26 l0 x8_1).f3).length c323_3) ((rd_T26 l0 x8_1).f3)) := ⟨(by rw [hw]; exact (by (with_reducible repeat (first | apply Kd.V_alloc | apply Kd.V_drewN | apply Kd.V_drew)); exact Kd.V_mono (Kd.V_far (p := ⟨gb324, 4, none⟩) (Kd.V_far (p := ⟨gb324, 3, none⟩) (Kd.V_far (p := ⟨gb324, 2, none⟩) (Kd.V_far (p := ⟨gb324, 1, none⟩) (Kd.V_far (p := ⟨gb324, 0, none⟩) (Kd.V_mono HL323_3.out (fun k_ hk => (⟨hk, hk.2⟩ : _ ∧ k_ ≠ gb324))) (fun _ hk => hk.2) (.int .i64 ((rd_T26 l0 x8_1).f0))) (fun _ hk => hk.2) (.int .i64 ((rd_T26 l0 x8_1).f1))) (fun _ hk => hk.2) (.int .i64 ((rd_T26 l0 x8_1).f2))) (fun _ hk => hk.2) (.slice A323_3 ((rd_T26 l0 x8_1).f3).length c323_3)) (fun _ hk => hk.2) (.slice A323_4 ((rd_T26 l0 x8_1).f4).length c323_4)) (fun _ hk => ⟨hk.1.1.1, ⟨hk.1.1.2, hk.1.2⟩⟩)))⟩; have n3_ : Aside0 (Kd.V k80 80 w9 w.heap.size (fun k_ => (P0_ k_ ∨ w.heap.size ≤ k_) ∧ some k_ ≠ (u3 : Value).ownBlock ∧ k_ ≠ gb324) (.slice A323_4 ((rd_T26 l0 x8_1).f4).length c323_4) ((rd_T26 l0 x8_1).f4)) := ⟨(by rw [hw]; exact (by (with_reducible repeat (first | apply Kd.V_alloc | apply Kd.V_drewN | apply Kd.V_drew)); exact Kd.V_mono (Kd.V_far (p := ⟨gb324, 4, none⟩) (Kd.V_far (p := ⟨gb324, 3, none⟩) (Kd.V_far (p := ⟨gb324, 2, none⟩) (Kd.V_far (p := ⟨gb324, 1, none⟩) (Kd.V_far (p := ⟨gb324, 0, none⟩) (Kd.V_mono HL323_4.out (fun k_ hk => (⟨hk, hk.2⟩ : _ ∧ k_ ≠ gb324))) (fun _ hk => hk.2) (.int .i64 ((rd_T26 l0 x8_1).f0))) (fun _ hk => hk.2) (.int .i64 ((rd_T26 l0 x8_1).f1))) (fun _ hk => hk.2) (.int .i64 ((rd_T26 l0 x8_1).f2))) (fun _ hk => hk.2) (.slice A323_3 ((rd_T26 l0 x8_1).f3).length c323_3)) (fun _ hk => hk.2) (.slice A323_4 ((rd_T26 l0 x8_1).f4).length c323_4)) (fun _ hk => ⟨hk.1.1.1, ⟨hk.1.1.2, hk.1.2⟩⟩)))⟩; have n4_ : Aside0 (w9.heap[gb324]? = some (.cells #[.int .i64 ((rd_T26 l0 x8_1).f0), .int .i64 ((rd_T26 l0 x8_1).f1), .int .i64 ((rd_T26 l0 x8_1).f2), .slice A323_3 ((rd_T26 l0 x8_1).f3).length c323_3, .slice A323_4 ((rd_T26 l0 x8_1).f4).length c323_4] 26 (0, 0))) := ⟨(by rw [hw]; exact (by (with_reducible repeat (first | refine blk_drewN ?_ _ | refine blk_drew ?_ | refine blk_alloc ?_ _)); refine blk_put (cs := #[.int .i64 ((rd_T26 l0 x8_1).f0), .int .i64 ((rd_T26 l0 x8_1).f1), .int .i64 ((rd_T26 l0 x8_1).f2), .slice A323_3 ((rd_T26 l0 x8_1).f3).length c323_3, .slice none 0 0]) ?_ 4 _ rfl; (with_reducible repeat (first | refine blk_drewN ?_ _ | refine blk_drew ?_ | refine blk_alloc ?_ _)); refine blk_put (cs := #[.int .i64 ((rd_T26 l0 x8_1).f0), .int .i64 ((rd_T26 l0 x8_1).f1), .int .i64 ((rd_T26 l0 x8_1).f2), .slice none 0 0, .slice none 0 0]) ?_ 3 _ rfl; (with_reducible repeat (first | refine blk_drewN ?_ _ | refine blk_drew ?_ | refine blk_alloc ?_ _)); refine blk_put (cs := #[.int .i64 ((rd_T26 l0 x8_1).f0), .int .i64 ((rd_T26 l0 x8_1).f1), .int .i64 0, .slice none 0 0, .slice none 0 0]) ?_ 2 _ rfl; (with_reducible repeat (first | refine blk_drewN ?_ _ | refine blk_drew ?_ | refine blk_alloc ?_ _)); refine blk_put (cs := #[.int .i64 ((rd_T26 l0 x8_1).f0), .int .i64 0, .int .i64 0, .slice none 0 0, .slice none 0 0]) ?_ 1 _ rfl; (with_reducible repeat (first | refine blk_drewN ?_ _ | refine blk_drew ?_ | refine blk_alloc ?_ _)); refine blk_put (cs := #[.int .i64 0, .int .i64 0, .int .i64 0, .slice none 0 0, .slice none 0 0]) ?_ 0 _ rfl; (with_reducible repeat (first | refine blk_drewN ?_ _ | refine blk_drew ?_ | refine blk_alloc ?_ _)); exact BK324.out))⟩; have n5_ : Aside0 (Below w.heap.size w w9) := ⟨(by rw [hw]; exact bsw_)⟩; clear hw; clear HO_3; clear HO_6; clear HL323_3; clear HL323_4; clear BK324; clear HB; have HO_3 := n0_; have HO_6 := n1_; have HL323_3 := n2_; have HL323_4 := n3_; have BK324 := n4_; have HB := n5_; clear n0_ n1_ n2_ n3_ n4_ n5_; have hcz10_0 : w9.cell? ⟨gb324, 0, none⟩ = some (.int .i64 ((rd_T26 l0 x8_1).f0)) := (blk_cell BK324.out 0).trans rfl; have hcz10_1 : w9.cell? ⟨gb324, 1, none⟩ = some (.int .i64 ((rd_T26 l0 x8_1).f1)) := (blk_cell BK324.out 1).trans rfl; have hcz10_2 : w9.cell? ⟨gb324, 2, none⟩ = some (.int .i64 ((rd_T26 l0 x8_1).f2)) := (blk_cell BK324.out 2).trans rfl; have hcz10_3 : w9.cell? ⟨gb324, 3, none⟩ = some (.slice A323_3 ((rd_T26 l0 x8_1).f3).length c323_3) := (blk_cell BK324.out 3).trans rfl; have hcz10_4 : w9.cell? ⟨gb324, 4, none⟩ = some (.slice A323_4 ((rd_T26 l0 x8_1).f4).length c323_4) := (blk_cell BK324.out 4).trans rfl; have hfz10_0 := blk_frozen BK324.out 0; have hfz10_1 := blk_frozen BK324.out 1; have hfz10_2 := blk_frozen BK324.out 2; have hfz10_3 := blk_frozen BK324.out 3; have hfz10_4 := blk_frozen BK324.out 4) | ((with_reducible refine gate_callee (f := 19) rfl ?_); refine goesL_ (some 14) rfl rfl Try.func19 (by kernel_rfl) rfl #[.agg #[.int .i64 ((rd_T26 l0 x8_1).f0), .int .i64 ((rd_T26 l0 x8_1).f1), .int .i64 ((rd_T26 l0 x8_1).f2), .slice A323_3 ((rd_T26 l0 x8_1).f3).length c323_3, .slice A323_4 ((rd_T26 l0 x8_1).f4).length c323_4]] rfl mp_ ?_; (with_reducible refine (handshakerlaw15_Ref.calls k1 ((rd_T26 l0 x8_1).f0) ((rd_T26 l0 x8_1).f1) ((rd_T26 l0 x8_1).f2) (fun k_ => ((P0_ k_ ∨ w.heap.size ≤ k_) ∧ (some k_ ≠ (u3 : Value).ownBlock ∧ k_ ≠ gb324))) _ _ ((rd_T26 l0 x8_1).f3) _ _ ((rd_T26 l0 x8_1).f4) t325 t326 t327 t328 t331 _ ?side1 ?side2 ?side3 A5.out).mono ?_); (case side1 => exact HL323_3.out); (case side2 => repeat (first | exact (Kd.V_reads' HL323_4.out).2.2 | exact cp_ HR323_4 | with_reducible first | refine Kd.C_alloc ?_ _ | refine Kd.C_drewN ?_ _ | refine Kd.C_drew ?_)); (case side3 => exact HC323_4.out); rintro e w11 ⟨v329, v332, rfl, ho0, ho1, hb⟩; refine ⟨_, rfl, ?_⟩; replace HO_6 := Aside0.mk (Kd.V_elder' (vq_ HO_6) (Kd.R_base ho1) hb); replace HL323_3 := Aside0.mk (Kd.V_elder' (vq_ HL323_3) (Kd.R_base ho1) hb); replace HL323_4 := Aside0.mk (Kd.V_elder' (vq_ HL323_4) (Kd.R_base ho1) hb); replace HO330 := Aside0.mk (Kd.V_lower (Kd.V_mono (ok' := fun k_ => (P0_ k_ ∨ w.heap.size ≤ k_) ∧ some k_ ≠ (v332 : Value).ownBlock ∧ some k_ ≠ (u3 : Value).ownBlock ∧ k_ ≠ gb324) ho0 (fun k_ hk_ => ⟨Or.elim hk_.1 (fun hs_ => hs_.1) (fun hn_ => (.inr (Nat.le_trans (below_size bsw_) hn_))), hk_.2, Or.elim hk_.1 (fun hs_ => hs_.2.1) (fun hn_ => (Kd.fresh' (Kd.N_lt (nq_ HO_3)) k_ hn_)), Or.elim hk_.1 (fun hs_ => hs_.2.2) (fun hn_ => (Kd.freshB (g := gb324) (o := .cells #[.int .i64 ((rd_T26 l0 x8_1).f0), .int .i64 ((rd_T26 l0 x8_1).f1), .int .i64 ((rd_T26 l0 x8_1).f2), .slice A323_3 ((rd_T26 l0 x8_1).f3).length c323_3, .slice A323_4 ((rd_T26 l0 x8_1).f4).length c323_4] 26 (0, 0)) (bq_ BK324) k_ hn_))⟩)) (below_size bsw_)); replace HO_3 := Aside0.mk (Kd.N_elder' (nq_ HO_3) (Kd.R_base ho1) hb); replace HO333 := Aside0.mk (Kd.R_lower (Kd.R_newM (M := fun k_ => (w.heap.size ≤ k_)) (Kd.R_mono (ok' := fun k_ => True) ho1 (fun _ hk_ => trivial)) (below_size bsw_) (fun k_ h_ => h_)) (below_size bsw_)); replace HR323_3 := Aside0.mk (Kd.V_reads' HL323_3.out).2.2; replace HR323_4 := Aside0.mk (Kd.V_reads' HL323_4.out).2.2; replace BK324 := bb_ BK324 hb; replace HB := Aside0.mk (below_step bsw_ hb); (try clear hb); (try clear hb2); (try clear hk); (try clear hi); (try clear ho0); (try clear ho1); obtain ⟨Ao13, co13, eo13⟩ := Kd.V_slice HO330.out; subst eo13; obtain ⟨Ao14, co14, eo14⟩ := Kd.R_slice HO333.out; subst eo14) | ((with_reducible refine gate_builtin (b := .append) (xs := #[.tmp 12, .tmp 15]) rfl ?_); at_builtin; refine Kd.N_append k39 (w0 := w) w.heap.size rfl (.tmp 12) (.tmp 15) 30 39 (.agg #[(.int .i64 0), (.int .i64 0), (.int .i64 0), (.slice none 0 0), (.slice none 0 0)]) 72 rfl Try.underlying30 info39 rfl (by decide) (by omega) u3 x3_1 (⟨t325, t326, t327, t328, t331⟩ : S39) [.int .i64 t325, .int .i64 t326, .int .i64 t327, .slice Ao13 t328.length co13, .slice Ao14 t331.length co14] (fun k_ => (P0_ k_ ∨ w.heap.size ≤ k_) ∧ k_ ≠ gb324) (fun k_ => ((fun k_ => (P0_ k_ ∨ w.heap.size ≤ k_) ∧ k_ ≠ gb324)) k_ ∧ some k_ ≠ (u3 : Value).ownBlock) rfl rfl ?aP (fun _ hk => hk) ?aF ?aO ?aB ?aS ?aL ?_; (case aP => exact (k39_mkF _ _ (⟨t325, t326, t327, t328, t331⟩ : S39) (Kd.V_reads' (Kd.V_mono (ok' := (fun k_ => ((fun k_ => (P0_ k_ ∨ w.heap.size ≤ k_) ∧ k_ ≠ gb324)) k_ ∧ some k_ ≠ (u3 : Value).ownBlock)) (HO330.out) (fun k_ hk => ⟨⟨hk.1, hk.2.2.2⟩, hk.2.2.1⟩))).2.1 (Kd.V_F (Kd.V_mono (ok' := (fun k_ => ((fun k_ => (P0_ k_ ∨ w.heap.size ≤ k_) ∧ k_ ≠ gb324)) k_ ∧ some k_ ≠ (u3 : Value).ownBlock)) (HO330.out) (fun k_ hk => ⟨⟨hk.1, hk.2.2.2⟩, hk.2.2.1⟩))) (Kd.R_reads' (Kd.R_mono (ok' := (fun k_ => ((fun k_ => (P0_ k_ ∨ w.heap.size ≤ k_) ∧ k_ ≠ gb324)) k_ ∧ some k_ ≠ (u3 : Value).ownBlock)) (Kd.R_types (Kd.R_apart' (HO333.out) (Kd.N_typed HO_3.out) (by decide)) BK324.out (by decide)) (fun k_ hk => ⟨⟨(.inr (hk.1.1.1)), hk.2⟩, hk.1.2⟩))).2.1 (Kd.R_F (Kd.R_mono (ok' := (fun k_ => ((fun k_ => (P0_ k_ ∨ w.heap.size ≤ k_) ∧ k_ ≠ gb324)) k_ ∧ some k_ ≠ (u3 : Value).ownBlock)) (Kd.R_types (Kd.R_apart' (HO333.out) (Kd.N_typed HO_3.out) (by decide)) BK324.out (by decide)) (fun k_ hk => ⟨⟨(.inr (hk.1.1.1)), hk.2⟩, hk.1.2⟩))))); (case aB => exact bsw_); (case aF => exact (fun k_ hk => ⟨(.inr (Nat.le_trans (below_size bsw_) hk)), Kd.freshB (g := gb324) (o := .cells #[.int .i64 ((rd_T26 l0 x8_1).f0), .int .i64 ((rd_T26 l0 x8_1).f1), .int .i64 ((rd_T26 l0 x8_1).f2), .slice A323_3 ((rd_T26 l0 x8_1).f3).length c323_3, .slice A323_4 ((rd_T26 l0 x8_1).f4).length c323_4] 26 (0, 0)) (bq_ BK324) k_ hk⟩)); (case aO => exact (Kd.N_mono (nq_ HO_3) (fun _ hk => ⟨hk.1.1, hk.1.2⟩))); (case aS => exact (below_size bsw_)); (case aL => have := LMc6.out; omega); intro v335 w12 ho hb hg hat; rw [← Ny334.out] at ho; replace HO_6 := Aside0.mk (Kd.V_afterv (ok := (fun k_ => (P0_ k_ ∨ w.heap.size ≤ k_) ∧ some k_ ≠ (.slice Ao14 t331.length co14 : Value).ownBlock ∧ k_ ≠ gb324)) (Kd.V_mono (vq_ HO_6) (fun _ hk => ⟨⟨hk.1.1, ⟨hk.2, hk.1.2.2⟩⟩, hk.1.2.1⟩)) hg hat); replace HL323_3 := Aside0.mk (Kd.V_afterv (ok := (fun k_ => (P0_ k_ ∨ w.heap.size ≤ k_) ∧ some k_ ≠ (.slice Ao14 t331.length co14 : Value).ownBlock ∧ k_ ≠ gb324)) (Kd.V_mono (vq_ HL323_3) (fun _ hk => ⟨⟨hk.1.1, ⟨hk.2, hk.1.2.2⟩⟩, hk.1.2.1⟩)) hg hat); replace HL323_4 := Aside0.mk (Kd.V_afterv (ok := (fun k_ => (P0_ k_ ∨ w.heap.size ≤ k_) ∧ some k_ ≠ (.slice Ao14 t331.length co14 : Value).ownBlock ∧ k_ ≠ gb324)) (Kd.V_mono (vq_ HL323_4) (fun _ hk => ⟨⟨hk.1.1, ⟨hk.2, hk.1.2.2⟩⟩, hk.1.2.1⟩)) hg hat); replace BK324 := Aside0.mk (blk_grown (g := gb324) (o := .cells #[.int .i64 ((rd_T26 l0 x8_1).f0), .int .i64 ((rd_T26 l0 x8_1).f1), .int .i64 ((rd_T26 l0 x8_1).f2), .slice A323_3 ((rd_T26 l0 x8_1).f3).length c323_3, .slice A323_4 ((rd_T26 l0 x8_1).f4).length c323_4] 26 (0, 0)) (bq_ BK324) hg (Kd.N_ne HO_3.out BK324.out (by decide))); replace HO330 := Aside0.mk (Kd.V_afterv (ok := (fun k_ => (P0_ k_ ∨ w.heap.size ≤ k_) ∧ some k_ ≠ (.slice Ao14 t331.length co14 : Value).ownBlock ∧ k_ ≠ gb324)) (Kd.V_mono (vq_ HO330) (fun _ hk => ⟨⟨hk.1, ⟨hk.2.1, hk.2.2.2⟩⟩, hk.2.2.1⟩)) hg hat); replace HB := Aside0.mk (hb); replace HO336 := Aside0.mk (ho); clear HO_3; clear HO333; clear ho hb hg hat))
           go_roundg k1
           case measure => have := HK1.out; omega
           case rel => exact ⟨(y334), (wrap64 (x8_1 + 1)), (by first | rfl | (simp; done) | (simp [*]; done)), H', ⟨by have := HK1.out; omega⟩, ⟨Kd.N_mono (nq_ HO336) (fun _ hk => hk.1)⟩, ⟨Kd.V_mono (vq_ HO_6) (fun _ hk => ⟨hk.1.1, hk.2⟩)⟩, ⟨bsw_⟩⟩
         · rw [if_neg c6] at H
           exact absurd H (by simp)
       · rw [if_neg c4] at H
         exact absurd H (by simp)
     · rw [if_neg c3] at H
       exact absurd H (by simp)
   · rw [if_neg c2] at H
     have c2b0 : decide (x8_1 < (l0.length : Int)) = false := decide_eq_false c2
     clear c2
     obtain rfl := Option.some.inj H
     go_wp2
     go_ret
     exact ⟨_, by first | rfl | (simp [errW_none, errW_some] <;> rfl) | (simp [*, errW_none, errW_some] <;> rfl), nq_ HO_3, bsv_⟩

/-! ### handshakerref07_Same: function 48 -/
def handshakerref07_Same.l0 : Nat → List (S117) → List (S117) → Int → Option (Bool)
 | 0, _, _, _ => none
 | k + 1, x0, x1, x5 => if x5 < (x0.length : Int) then (if 0 ≤ x5 then (if x5 < (x1.length : Int) then (if (!(((rd_T117 x0 x5).f0) == ((rd_T117 x1 x5).f0)) || (!(((rd_T117 x0 x5).f1) == ((rd_T117 x1 x5).f1)))) = true then (some false) else (handshakerref07_Same.l0 k x0 x1 (wrap64 (x5 + 1)))) else (none)) else (none)) else (some true)
def handshakerref07_Same.f (k : Nat) (l0 : List (S117)) (l1 : List (S117)) : Option (Bool) := if (l0.length : Int) = (l1.length : Int) then (handshakerref07_Same.l0 k l0 l1 0) else (some false)
theorem handshakerref07_Same.mono_l : ∀ k, (∀ y0 y1 y2, LeO (handshakerref07_Same.l0 k y0 y1 y2) (handshakerref07_Same.l0 (k + 1) y0 y1 y2))
 | 0 => fun _ _ _ r h => by simp [handshakerref07_Same.l0] at h
 | k + 1 => by
  have ih0 := handshakerref07_Same.mono_l k
  · intro y0 y1 y2
    unfold handshakerref07_Same.l0
    repeat' first
    | (with_reducible exact ih0 _ _ _)
    | (with_reducible exact LeO.refl _)
    | (with_reducible exact LeO.none _)
    | (with_reducible refine LeO.ite ?_ ?_)
    | (with_reducible refine LeO.bind ?_ (fun _ => ?_))
    | exact ih0 _ _ _
    | exact LeO.none _
    | refine LeO.ite ?_ ?_
    | refine LeO.bind ?_ (fun _ => ?_)
theorem handshakerref07_Same.mono : ∀ a0 a1 k, LeO (handshakerref07_Same.f k a0 a1) (handshakerref07_Same.f (k + 1) a0 a1) := by
 intro a0 a1 k
 have ih0 := handshakerref07_Same.mono_l k
 unfold handshakerref07_Same.f
 repeat' first
  | (with_reducible exact ih0 _ _ _)
  | (with_reducible exact LeO.refl _)
  | (with_reducible exact LeO.none _)
  | (with_reducible refine LeO.ite ?_ ?_)
  | (with_reducible refine LeO.bind ?_ (fun _ => ?_))
  | exact ih0 _ _ _
  | exact LeO.none _
  | refine LeO.ite ?_ ?_
  | refine LeO.bind ?_ (fun _ => ?_)
set_option maxHeartbeats 8000000 in
set_option maxRecDepth 100000 in
theorem handshakerref07_Same.calls (k : Nat) (A0 : Option Addr) (c0 : Nat) (l0 : List (S117)) (A1 : Option Addr) (c1 : Nat) (l1 : List (S117)) (r : Bool) (w : World) (hr0 : Kd.C k117 w A0 l0.length l0) (hc0 : l0.length ≤ c0) (hr1 : Kd.C k117 w A1 l1.length l1) (hc1 : l1.length ≤ c1) (h : handshakerref07_Same.f k l0 l1 = some r) :
 Calls Try.prog 48 #[.slice A0 l0.length c0, .slice A1 l1.length c1] w fun e w' => e = .returned (.bool r) ∧ Drawn0 w w' := by
 have hu117 := Try.underlying117
 have HR0 := Aside0.mk hr0
 have HC0 := Aside0.mk hc0
 clear hr0 hc0
 have HR1 := Aside0.mk hr1
 have HC1 := Aside0.mk hc1
 clear hr1 hc1
 have H : (if (l0.length : Int) = (l1.length : Int) then (handshakerref07_Same.l0 k l0 l1 0) else (some false)) = some r := h
 clear h
 by_cases c3 : (l0.length : Int) = (l1.length : Int)
 · rw [if_pos c3] at H
   have c3b0 : ((l0.length : Int) == (l1.length : Int)) = true := beq_iff_eq.mpr c3
   have c3b1 : ((l0.length : Int) != (l1.length : Int)) = false := bne_eq_false_iff_eq.mpr c3
   have c3b2 : (l0.length == l1.length) = true := by first | simpa using c3 | (simp at c3 ⊢; omega)
   clear c3
   have H' := Aside0.mk H
   clear H
   go_enter Try.func48, Try.ntmps48
   go_wp2
   repeat (go_quiet (fail); try go_wp2)
   go_loopg [5] k (fun kq v5 w' => ∃ (x5_1 : Int), v5 = .int .i64 x5_1 ∧ Aside0 (handshakerref07_Same.l0 kq l0 l1 x5_1 = some r) ∧ Aside0 (kq ≤ k) ∧ Drawn0 w w')
   case atStart => exact ⟨(0), (by first | rfl | (simp; done) | (simp [*]; done)), H', ⟨Nat.le_refl _⟩, by repeat (first | exact Drawn0.refl _ | apply Drawn0.step)⟩
   case round =>
    clear H'
    try clear c1
    try clear p2
    try clear c3
    try clear c3b0
    try clear c3b1
    try clear c3b2
    obtain ⟨x5_1, rfl, HA, HK1, ⟨m1, rfl⟩⟩ := hrel
    cases gk with
    | zero => exact absurd HA.out (by simp [handshakerref07_Same.l0])
    | succ k1 =>
     have H := HA.out
     clear HA
     simp only [handshakerref07_Same.l0] at H
     by_cases c4 : x5_1 < (l0.length : Int)
     · rw [if_pos c4] at H
       have c4b0 : decide (x5_1 < (l0.length : Int)) = true := decide_eq_true c4
       clear c4
       by_cases c5 : 0 ≤ x5_1
       · rw [if_pos c5] at H
         have c5b0 : decide (0 ≤ x5_1) = true := decide_eq_true c5
         clear c5
         by_cases c6 : x5_1 < (l1.length : Int)
         · rw [if_pos c6] at H
           have c6b0 : decide (x5_1 < (l1.length : Int)) = true := decide_eq_true c6
           clear c6
           by_cases c7 : (!(((rd_T117 l0 x5_1).f0) == ((rd_T117 l1 x5_1).f0)) || (!(((rd_T117 l0 x5_1).f1) == ((rd_T117 l1 x5_1).f1)))) = true
           · rw [if_pos c7] at H
             have c7b0 : (!(((rd_T117 l0 x5_1).f0) == ((rd_T117 l1 x5_1).f0)) || (!(((rd_T117 l0 x5_1).f1) == ((rd_T117 l1 x5_1).f1)))) = true := c7
             clear c7
             obtain rfl := Option.some.inj H
             have p337 : 0 ≤ (x5_1 : Int) := oda_
             have q337 : x5_1 < (l0.length : Int) := oda_
             obtain ⟨ad337, e337, hx337_0, hx337_1⟩ := at_T117 HR0.out x5_1 p337 q337
             cases e337
             replace p337 := eq_true p337
             replace q337 := eq_true q337
             have p338 : 0 ≤ (x5_1 : Int) := oda_
             have q338 : x5_1 < (l1.length : Int) := oda_
             obtain ⟨ad338, e338, hx338_0, hx338_1⟩ := at_T117 HR1.out x5_1 p338 q338
             cases e338
             replace p338 := eq_true p338
             replace q338 := eq_true q338
             go_wp2
             repeat (go_quiet (fail); try go_wp2)
             go_ret
             exact ⟨by first | rfl | (simp; done) | (simp [*]; done), by repeat (first | exact Drawn0.refl _ | apply Drawn0.step)⟩
           · rw [if_neg c7] at H
             have c7b0 : (!(((rd_T117 l0 x5_1).f0) == ((rd_T117 l1 x5_1).f0)) || (!(((rd_T117 l0 x5_1).f1) == ((rd_T117 l1 x5_1).f1)))) = false := by simpa using c7
             clear c7
             have H' := Aside0.mk H
             clear H
             have p337 : 0 ≤ (x5_1 : Int) := oda_
             have q337 : x5_1 < (l0.length : Int) := oda_
             obtain ⟨ad337, e337, hx337_0, hx337_1⟩ := at_T117 HR0.out x5_1 p337 q337
             cases e337
             replace p337 := eq_true p337
             replace q337 := eq_true q337
             have p338 : 0 ≤ (x5_1 : Int) := oda_
             have q338 : x5_1 < (l1.length : Int) := oda_
             obtain ⟨ad338, e338, hx338_0, hx338_1⟩ := at_T117 HR1.out x5_1 p338 q338
             cases e338
             replace p338 := eq_true p338
             replace q338 := eq_true q338
             go_wp2
             repeat (go_quiet (fail); try go_wp2)
             go_roundg k1
             case measure => have := HK1.out; omega
             case rel => exact ⟨(wrap64 (x5_1 + 1)), (by first | rfl | (simp; done) | (simp [*]; done)), H', ⟨by have := HK1.out; omega⟩, by repeat (first | exact Drawn0.refl _ | apply Drawn0.step)⟩
         · rw [if_neg c6] at H
           exact absurd H (by simp)
       · rw [if_neg c5] at H
         exact absurd H (by simp)
     · rw [if_neg c4] at H
       have c4b0 : decide (x5_1 < (l0.length : Int)) = false := decide_eq_false c4
       clear c4
       obtain rfl := Option.some.inj H
       go_wp2
       repeat (go_quiet (fail); try go_wp2)
       go_ret
       exact ⟨by first | rfl | (simp; done) | (simp [*]; done), by repeat (first | exact Drawn0.refl _ | apply Drawn0.step)⟩
 · rw [if_neg c3] at H
   have c3b0 : ((l0.length : Int) == (l1.length : Int)) = false := beq_eq_false_iff_ne.mpr c3
   have c3b1 : ((l0.length : Int) != (l1.length : Int)) = true := bne_iff_ne.mpr c3
   have c3b2 : (l0.length == l1.length) = false := by first | simpa using c3 | (simp at c3 ⊢; omega)
   obtain rfl := Option.some.inj H
   go_enter Try.func48, Try.ntmps48
   go_wp2
   repeat (go_quiet (fail); try go_wp2)
   go_ret
   exact ⟨by first | rfl | (simp; done) | (simp [*]; done), by repeat (first | exact Drawn0.refl _ | apply Drawn0.step)⟩

end Go.Proofs.Ytjnkpocfmpbpoaa.Sa
