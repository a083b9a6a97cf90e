-- PRINTED by print.py (a twelfth state) out of the translation. Not trusted: Lean checks it.
import Derived.Test.YtjnkpocfmpbpoaaFx0
import Derived.Test.YtjnkpocfmpbpoaaFx2
namespace Go.Proofs.Ytjnkpocfmpbpoaa.F
open Go.Proofs.Ytjnkpocfmpbpoaa.Ho
open Go.RowKit Go.Proofs.YtjnkpocfmpbpoaaW.PrintWords Go.Proofs.YtjnkpocfmpbpoaaW.PrintLast Go.Proofs.YtjnkpocfmpbpoaaW.PrintMore
attribute [local go_sem] max2_int min2_int max_two min_two max_three min_three max_four min_four   -- for this text's walks alone
set_option linter.unusedVariables false
set_option linter.unusedSimpArgs false

attribute [local go_sem high] eqA117
/-! ### handshakerlaw07_Ref: function 46 -/
def handshakerlaw07_Ref.l0 : Nat → List (S117) → List (S80) → Int → Int → Option ((List (S117)))
 | 0, _, _, _, _ => none
 | k + 1, x3, x6, x7, x8 => if x8 < x7 then (if 0 ≤ x8 then (if x8 < (x6.length : Int) then (if x3.length < 8796093022208 then (handshakerlaw07_Ref.l0 k (x3 ++ [(⟨(rd_T80 x6 x8).f0, (rd_T80 x6 x8).f1⟩ : S117)]) x6 x7 (wrap64 (x8 + 1))) else (none)) else (none)) else (none)) else (some x3)
def handshakerlaw07_Ref.f (k : Nat) (l0 : List (S80)) : Option ((List (S117))) := handshakerlaw07_Ref.l0 k ([] : List (S117)) l0 (l0.length : Int) 0
theorem handshakerlaw07_Ref.mono_l : ∀ k, (∀ y0 y1 y2 y3, LeO (handshakerlaw07_Ref.l0 k y0 y1 y2 y3) (handshakerlaw07_Ref.l0 (k + 1) y0 y1 y2 y3))
 | 0 => fun _ _ _ _ r h => by simp [handshakerlaw07_Ref.l0] at h
 | k + 1 => by
  have ih0 := handshakerlaw07_Ref.mono_l k
  · intro y0 y1 y2 y3
    unfold handshakerlaw07_Ref.l0
    repeat' first
    | (with_reducible exact ih0 _ _ _ _)
    | (with_reducible exact LeO.refl _)
    | (with_reducible exact LeO.none _)
    | (with_reducible refine LeO.ite ?_ ?_)
    | (with_reducible refine LeO.bind ?_ (fun _ => ?_))
    | exact ih0 _ _ _ _
    | exact LeO.none _
    | refine LeO.ite ?_ ?_
    | refine LeO.bind ?_ (fun _ => ?_)
theorem handshakerlaw07_Ref.mono : ∀ a0 k, LeO (handshakerlaw07_Ref.f k a0) (handshakerlaw07_Ref.f (k + 1) a0) := by
 intro a0 k
 have ih0 := handshakerlaw07_Ref.mono_l k
 unfold handshakerlaw07_Ref.f
 repeat' first
  | (with_reducible exact ih0 _ _ _ _)
  | (with_reducible exact LeO.refl _)
  | (with_reducible exact LeO.none _)
  | (with_reducible refine LeO.ite ?_ ?_)
  | (with_reducible refine LeO.bind ?_ (fun _ => ?_))
  | exact ih0 _ _ _ _
  | exact LeO.none _
  | refine LeO.ite ?_ ?_
  | refine LeO.bind ?_ (fun _ => ?_)
set_option maxHeartbeats 8000000 in
set_option maxRecDepth 100000 in
theorem handshakerlaw07_Ref.calls (k : Nat) (A0 : Option Addr) (c0 : Nat) (l0 : List (S80)) (r : List (S117)) (w : World) (hr0 : Kd.C k80 w A0 l0.length l0) (hc0 : l0.length ≤ c0) (h : handshakerlaw07_Ref.f k l0 = some r) :
 Calls Try.prog 46 #[.slice A0 l0.length c0] w fun e w' => ∃ v0_ : Value, e = .returned (v0_) ∧ Kd.R k117 117 w' w.heap.size (fun _ => True) v0_ r ∧ Below w.heap.size w w' := by
 have hu80 := Try.underlying80
 have HR0 := ak hr0
 have HC0 := ak hc0
 clear hr0 hc0
 have HB := ak (Below.refl w.heap.size w)
 have H : (handshakerlaw07_Ref.l0 k ([] : List (S117)) l0 (l0.length : Int) 0) = some r := h
 clear h
 have H' := ak H
 clear H
 go_enter Try.func46, Try.ntmps46
 go_wp2
 go_loopg [3, 8] k (fun kq v3 v8 w' => ∃ (x3_1 : List (S117)) (x8_1 : Int), v8 = .int .i64 x8_1 ∧ Aside0 (handshakerlaw07_Ref.l0 kq x3_1 l0 (l0.length : Int) x8_1 = some r) ∧ Aside0 (kq ≤ k) ∧ Aside0 (Kd.R k117 117 w' w.heap.size (fun _ => True) v3 x3_1) ∧ Aside0 (Below w.heap.size w w'))
 case atStart => exact ⟨(([] : List (S117))), (0), (by first | rfl | (simp; done) | (simp [*]; done)), H', ⟨Nat.le_refl _⟩, ⟨by first | exact Kd.R_nil _ _ _ _ _ | exact Kd.N_nil _ _ _ _ _ | exact Kd.V_nil _ _ _ _ _ | exact Kd.Q_nil _ _ _ _ _ | exact Kd.S_nil _ _ _ _ _⟩, ⟨bsv_⟩⟩
 case round =>
  clear H'
  obtain ⟨x3_1, x8_1, rfl, HA, HK1, HO_3, HB⟩ := hrel
  cases gk with
  | zero => exact absurd HA.out (by simp [handshakerlaw07_Ref.l0])
  | succ k1 =>
   have H := HA.out
   clear HA
   simp only [handshakerlaw07_Ref.l0] at H
   by_cases c2 : x8_1 < (l0.length : Int)
   · rw [if_pos c2] at H
     have c2b0 : decide (x8_1 < (l0.length : Int)) = true := decide_eq_true c2
     clear c2
     by_cases c3 : 0 ≤ x8_1
     · rw [if_pos c3] at H
       have c3b0 : decide (0 ≤ x8_1) = true := decide_eq_true c3
       clear c3
       by_cases c4 : x8_1 < (l0.length : Int)
       · rw [if_pos c4] at H
         have c4b0 : decide (x8_1 < (l0.length : Int)) = true := decide_eq_true c4
         clear c4
         by_cases c5 : x3_1.length < 8796093022208
         · rw [if_pos c5] at H
           have LMc5 := ak c5
           clear c5
           obtain ⟨y479, hy479⟩ : ∃ y_ : List (S117), y_ = (x3_1 ++ [(⟨(rd_T80 l0 x8_1).f0, (rd_T80 l0 x8_1).f1⟩ : S117)]) := ⟨_, rfl⟩
           replace H : (handshakerlaw07_Ref.l0 k1 y479 l0 (l0.length : Int) (wrap64 (x8_1 + 1))) = some r := by first | (rw [hy479]; with_reducible exact H) | (have H2_ := (Option.bind_some _ _).symm.trans H; rw [hy479]; with_reducible exact H2_) | (have H2_ := (Option.bind_some _ _).symm.trans H; with_reducible exact H2_) | with_reducible exact H | (rw [hy479]; exact H) | exact H
           have Ny479 := ak hy479
           clear hy479
           have H' := ak H
           clear H
           have p477 : 0 ≤ (x8_1 : Int) := oda_
           have q477 : x8_1 < (l0.length : Int) := oda_
           obtain ⟨ad477, e477, hx477_0, hx477_1⟩ := at_T80 HR0.out x8_1 p477 q477
           cases e477
           replace hx477_0 := bl_ HB hx477_0
           replace hx477_1 := bl_ HB hx477_1
           replace p477 := eq_true p477
           replace q477 := eq_true q477
           go_wp2_with (first | ((with_reducible refine gate_dst (N := 5) rfl ?_); refine box_event ?hg (N := 5) ?hd (cs := #[.int .i64 0, .int .i64 0]) (t := 80) ?hr ?_; (case hd => rfl); (case hg => rfl); (case hr => first | (go_simp; done) | (go_simp; rfl)); intro gb478 hg w6 hbox hb; replace HO_3 := rb_ HO_3 hb; replace BK478 := ak (hbox); replace GW478 := ak ((by rw [hg]; exact bsz_ : w.heap.size ≤ gb478)); replace HB := ak (bst_ hb); replace GE478 := GW478; clear hb hbox hg; obtain ⟨hcz7_0, hcz7_1, hfz7_0, hfz7_1⟩ := bz2_ BK478) | ((with_reducible refine gate_builtin (b := .append) (xs := #[.tmp 12, .tmp 14]) rfl ?_); at_builtin; refine Kd.R_append k117 (w0 := w) w.heap.size rfl (.tmp 12) (.tmp 14) 37 117 (.agg #[(.int .i64 0), (.int .i64 0)]) 16 rfl Try.underlying37 info117 rfl (by decide) (by omega) u3 x3_1 (⟨(rd_T80 l0 x8_1).f0, (rd_T80 l0 x8_1).f1⟩ : S117) [.int .i64 ((rd_T80 l0 x8_1).f0), .int .i64 ((rd_T80 l0 x8_1).f1)] (fun _ => True) (fun _ => False) rfl (by first | (go_simp; done) | (go_simp; rfl)) ?aP (fun _ hk => hk.elim) ?aF ?aO ?aB ?aS ?aL ?_; (case aP => exact k117_mkM _ _ _ (⟨(rd_T80 l0 x8_1).f0, (rd_T80 l0 x8_1).f1⟩ : S117)); (case aB => exact bsw_); (case aF => exact (fun _ _ => trivial)); (case aO => exact (by (with_reducible repeat (first | apply Kd.R_alloc | apply Kd.R_drewN | apply Kd.R_drew)); exact Kd.R_mono (Kd.R_far (p := ⟨gb478, 1, none⟩) (Kd.R_far (p := ⟨gb478, 0, none⟩) (Kd.R_types HO_3.out BK478.out (by decide)) (fun _ hk => hk.2) (.int .i64 ((rd_T80 l0 x8_1).f0))) (fun _ hk => hk.2) (.int .i64 ((rd_T80 l0 x8_1).f1))) (fun _ hk => trivial))); (case aS => exact (below_size bsw_)); (case aL => have := LMc5.out; omega); intro v480 w8 ho hb hg hat; rw [← Ny479.out] at ho; replace BK478 := ak (blk_grown (g := gb478) (o := .cells #[.int .i64 ((rd_T80 l0 x8_1).f0), .int .i64 ((rd_T80 l0 x8_1).f1)] 80 (0, 0)) (by (with_reducible repeat (first | refine blk_drewN ?_ _ | refine blk_drew ?_ | refine blk_alloc ?_ _)); refine blk_put (cs := #[.int .i64 ((rd_T80 l0 x8_1).f0), .int .i64 0]) ?_ 1 _ rfl; (with_reducible repeat (first | refine blk_drewN ?_ _ | refine blk_drew ?_ | refine blk_alloc ?_ _)); refine blk_put (cs := #[.int .i64 0, .int .i64 0]) ?_ 0 _ rfl; (with_reducible repeat (first | refine blk_drewN ?_ _ | refine blk_drew ?_ | refine blk_alloc ?_ _)); exact BK478.out) hg (Kd.R_ne HO_3.out BK478.out (by decide))); replace HB := ak (hb); replace HO481 := ak (ho); clear HO_3; clear ho hb hg hat))
           go_roundg k1
           case measure => have := HK1.out; omega
           case rel => exact ⟨(y479), (wrap64 (x8_1 + 1)), (by first | rfl | (simp; done) | (simp [*]; done)), H', ⟨by have := HK1.out; omega⟩, ⟨rq_ HO481⟩, ⟨bsw_⟩⟩
         · rw [if_neg c5] at H
           exact absurd H (by simp)
       · rw [if_neg c4] at H
         exact absurd H (by simp)
     · rw [if_neg c3] at H
       exact absurd H (by simp)
   · rw [if_neg c2] at H
     have c2b0 : decide (x8_1 < (l0.length : Int)) = false := decide_eq_false c2
     clear c2
     obtain rfl := Option.some.inj H
     go_wp2
     go_ret
     exact ⟨_, by first | rfl | (simp [errW_none, errW_some] <;> rfl) | (simp [*, errW_none, errW_some] <;> rfl), rq_ HO_3, bsv_⟩

/-! ### handshakerlaw15_Ref: function 19 -/
def handshakerlaw15_Ref.f (k : Nat) (a0_0 : Int) (a0_1 : Int) (a0_2 : Int) (l0_3 : List (S62)) (l0_4 : List (S80)) : Option (Int × Int × Int × (List (S62)) × (List (S117))) := (handshakerlaw07_Ref.f k l0_4).bind fun t484 => (some (a0_0, a0_1, a0_2, l0_3, t484))
theorem handshakerlaw15_Ref.mono : ∀ a0 a1 a2 a3 a4 k, LeO (handshakerlaw15_Ref.f k a0 a1 a2 a3 a4) (handshakerlaw15_Ref.f (k + 1) a0 a1 a2 a3 a4) := by
 intro a0 a1 a2 a3 a4 k
 unfold handshakerlaw15_Ref.f
 repeat' first
  | (with_reducible exact handshakerlaw07_Ref.mono _ _)
  | (with_reducible exact LeO.refl _)
  | (with_reducible exact LeO.none _)
  | (with_reducible refine LeO.ite ?_ ?_)
  | (with_reducible refine LeO.bind ?_ (fun _ => ?_))
  | exact handshakerlaw07_Ref.mono _ _
  | exact LeO.none _
  | refine LeO.ite ?_ ?_
  | refine LeO.bind ?_ (fun _ => ?_)
def handshakerlaw15_Ref.T1 : Bool × List (List Nat × List Nat) := (true, [([], []), ([0], [0]), ([], []), ([2], [2]), ([], []), ([4], [4]), ([], []), ([6], [6]), ([], []), ([8], [8]), ([9], [9]), ([1, 3, 5, 7, 10], [1, 3, 5, 7, 10]), ([11, 10, 0, 1, 2, 3, 4, 5, 6, 7, 8, 9, 10, 11], [11])])
def handshakerlaw15_Ref.B1 : List Nat := [0, 1, 0, 4, 0, 16, 0, 64, 0, 256, 768, 2047, 4095]
theorem handshakerlaw15_Ref.tab1 : rtab .any (opsOf Try.f19 1) = handshakerlaw15_Ref.T1 := by kernel_rfl
theorem handshakerlaw15_Ref.bits1 : waitsOk handshakerlaw15_Ref.T1.2 handshakerlaw15_Ref.B1 = true := by kernel_rfl
set_option maxHeartbeats 8000000 in
set_option maxRecDepth 100000 in
theorem handshakerlaw15_Ref.calls (k : Nat) (a0_0 : Int) (a0_1 : Int) (a0_2 : Int) (P0_3_ : Nat → Prop) (A0_3 : Option Addr) (c0_3 : Nat) (l0_3 : List (S62)) (A0_4 : Option Addr) (c0_4 : Nat) (l0_4 : List (S80)) (r1 : Int) (r2 : Int) (r3 : Int) (r4 : List (S62)) (r5 : List (S117)) (w : World) (hs0_3 : Kd.V k62 62 w w.heap.size (fun k_ => P0_3_ k_) (.slice A0_3 l0_3.length c0_3) l0_3) (hr0_4 : Kd.C k80 w A0_4 l0_4.length l0_4) (hc0_4 : l0_4.length ≤ c0_4) (h : handshakerlaw15_Ref.f k a0_0 a0_1 a0_2 l0_3 l0_4 = some (r1, r2, r3, r4, r5)) :
 Calls Try.prog 19 #[.agg #[.int .i64 a0_0, .int .i64 a0_1, .int .i64 a0_2, .slice A0_3 l0_3.length c0_3, .slice A0_4 l0_4.length c0_4]] w fun e w' => ∃ v3_ v4_ : Value, e = .returned (.agg #[.int .i64 r1, .int .i64 r2, .int .i64 r3, v3_, v4_]) ∧ Kd.V k62 62 w' w.heap.size (fun k_ => (P0_3_ k_ ∨ w.heap.size ≤ k_) ∧ some k_ ≠ (v4_ : Value).ownBlock) v3_ r4 ∧ Kd.R k117 117 w' w.heap.size (fun k_ => (w.heap.size ≤ k_)) v4_ r5 ∧ Below w.heap.size w w' := by
 have hu26 := Try.underlying26
 have hu39 := Try.underlying39
 have HO0_3 := ak (show Kd.V k62 62 w w.heap.size (fun k_ => (P0_3_ k_ ∨ w.heap.size ≤ k_)) (.slice A0_3 l0_3.length c0_3) l0_3 from Kd.V_mono hs0_3 (fun k_ hk => .inl hk))
 have HR0_4 := ak hr0_4
 have HC0_4 := ak hc0_4
 clear hr0_4 hc0_4
 have HB := ak (Below.refl w.heap.size w)
 have H : ((handshakerlaw07_Ref.f k l0_4).bind fun t484 => (some (a0_0, a0_1, a0_2, l0_3, t484))) = some (r1, r2, r3, r4, r5) := h
 clear h
 obtain ⟨t484, A2, H⟩ := bd_ H
 simp only [Option.some.injEq, Prod.mk.injEq] at H
 obtain ⟨rfl, rfl, rfl, rfl, rfl⟩ := H
 go_enter Try.func19, Try.ntmps19
 try go_wp2_with (first | ((with_reducible refine gate_dst (N := 1) rfl ?_); refine box_event ?hg (N := 1) ?hd (cs := #[.int .i64 a0_0, .int .i64 a0_1, .int .i64 a0_2, .slice A0_3 l0_3.length c0_3, .slice A0_4 l0_4.length c0_4]) (t := 26) ?hr ?_; (case hd => rfl); (case hg => rfl); (case hr => first | (go_simp; done) | (go_simp; rfl)); intro gb482 hg w3 hbox hb; replace HO0_3 := ak (Kd.V_below (Kd.V_elderB (vq_ HO0_3) gb482 (Nat.le_of_eq hg.symm)) hb); replace BK482 := ak (hbox); replace GW482 := ak ((by rw [hg]; exact bsz_ : w.heap.size ≤ gb482)); replace HB := ak (bst_ hb); replace GE482 := GW482; clear hb hbox hg) | ((with_reducible refine gate_dst (N := 2) rfl ?_); refine box_event ?hg (N := 2) ?hd (cs := #[.int .i64 0, .int .i64 0, .int .i64 0, .slice none 0 0, .slice none 0 0]) (t := 39) ?hr ?_; (case hd => rfl); (case hg => rfl); (case hr => first | (go_simp; done) | (go_simp; rfl)); intro gb483 hg w4 hbox hb; replace HO0_3 := ak (Kd.V_below (Kd.V_elderB (vq_ HO0_3) gb483 (Nat.le_of_eq hg.symm)) hb); replace BK483 := ak (hbox); replace GW483 := ak ((by rw [hg]; exact (below_size bsw_) : w.heap.size ≤ gb483)); replace HB := ak (below_step bsw_ hb); replace GE483 := GW483; replace NB482_483 := ak ((by rw [hg]; exact Nat.ne_of_lt (blk_lt (g := gb482) (o := .cells #[.int .i64 a0_0, .int .i64 a0_1, .int .i64 a0_2, .slice A0_3 l0_3.length c0_3, .slice A0_4 l0_4.length c0_4] 26 (0, 0)) (bq_ BK482)) : gb482 ≠ gb483)); replace NB483_482 := ak ((by rw [hg]; exact Nat.ne_of_gt (blk_lt (g := gb482) (o := .cells #[.int .i64 a0_0, .int .i64 a0_1, .int .i64 a0_2, .slice A0_3 l0_3.length c0_3, .slice A0_4 l0_4.length c0_4] 26 (0, 0)) (bq_ BK482)) : gb483 ≠ gb482)); replace BK482 := bb_ BK482 hb; clear hb hbox hg))
 have n0_ := ak (Kd.V_drew HO0_3.out)
 have n1_ := ak (blk_drew BK482.out)
 have n2_ := ak (blk_drew BK483.out)
 have n3_ := ak (below_drew1 HB.out)
 clear HO0_3
 clear BK482
 clear BK483
 clear HB
 have HO0_3 := n0_
 have BK482 := n1_
 have BK483 := n2_
 have HB := n3_
 clear n0_ n1_ n2_ n3_
 refine start_ (n := 13) (S := fun w' => w'.cell? ⟨gb482, 0, none⟩ = some (.int .i64 a0_0) ∧ w'.cell? ⟨gb482, 1, none⟩ = some (.int .i64 a0_1) ∧ w'.cell? ⟨gb482, 2, none⟩ = some (.int .i64 a0_2) ∧ w'.cell? ⟨gb482, 3, none⟩ = some (.slice A0_3 l0_3.length c0_3) ∧ w'.cell? ⟨gb482, 4, none⟩ = some (.slice A0_4 l0_4.length c0_4)) (ds := []) (fb 13 0) (by kernel_rfl) rfl rfl ⟨(blk_cell BK482.out 0).trans rfl, (blk_cell BK482.out 1).trans rfl, (blk_cell BK482.out 2).trans rfl, (blk_cell BK482.out 3).trans rfl, (blk_cell BK482.out 4).trans rfl⟩ (fun hHeld => ?_); refine with_tabW handshakerlaw15_Ref.tab1 handshakerlaw15_Ref.bits1 (fun HT_ HW_ => ?_)
 generalize w4.drew = w5 at HO0_3 BK482 BK483 HB hHeld ⊢
 refine pu_ 0 (some 3) (fb 13 1) HT_ ?_
 refine pu_ 2 (some 5) (fb 13 5) HT_ ?_
 refine pu_ 4 (some 7) (fb 13 21) HT_ ?_
 refine pu_ 6 (some 9) (fb 13 85) HT_ ?_
 refine pu_ 8 (some 11) (fb 13 341) HT_ ?_
 refine ta5_ 1 (some 4) (fb 13 343) HT_ HW_ hHeld ?_
 refine ta5_ 3 (some 6) (fb 13 351) HT_ HW_ hHeld ?_
 refine ta5_ 5 (some 8) (fb 13 383) HT_ HW_ hHeld ?_
 refine ta5_ 7 (some 10) (fb 13 511) HT_ HW_ hHeld ?_
 refine ta5_ 9 (some 12) (fb 13 1023) HT_ HW_ hHeld ?_
 refine one_ (i := 10) (N := some 13) (fb 13 2047) rfl rfl (one_of HT_.out (by kernel_rfl)) (by decide) (fun K hK => ?_)
 refine goes_ Try.func46 (by kernel_rfl) rfl #[.slice A0_4 l0_4.length c0_4] (by rfl) rfl rfl (by (try simp only [List.map_toArray, List.map_cons, List.map_nil]); first | done | rfl | (simp only [List.length_drop, List.length_take]; rfl)) ?_
 with_reducible refine (handshakerlaw07_Ref.calls k _ _ l0_4 t484 _ ?side1 ?side2 A2.out).mono ?_
 (case side1 => repeat (first | exact (Kd.C_below HR0_4.out HB.out) | with_reducible first | refine Kd.C_alloc ?_ _ | refine Kd.C_drewN ?_ _ | refine Kd.C_drew ?_))
 (case side2 => exact HC0_4.out)
 rintro e w6 ⟨v485, rfl, ho0, hb⟩
 refine ⟨_, rfl, ?_⟩
 have n0_ := ak (Kd.V_elder' (vq_ HO0_3) (Kd.R_base ho0) hb)
 have n1_ := ak (Kd.R_lower (Kd.R_newM (M := fun k_ => (w.heap.size ≤ k_)) ho0 (below_size (by repeat (first | (with_reducible first | exact HB.out | apply below_alloc | apply pw_below_drewN | apply below_drew1 | refine below_set ?_ GE482.out | refine below_set ?_ GE483.out) | exact HB.out))) (fun k_ h_ => h_)) (below_size (by repeat (first | (with_reducible first | exact HB.out | apply below_alloc | apply pw_below_drewN | apply below_drew1 | refine below_set ?_ GE482.out | refine below_set ?_ GE483.out) | exact HB.out))))
 have n2_ := bb_ BK482 hb
 have n3_ := bb_ BK483 hb
 have n4_ := ak (below_step (by repeat (first | (with_reducible first | exact HB.out | apply below_alloc | apply pw_below_drewN | apply below_drew1 | refine below_set ?_ GE482.out | refine below_set ?_ GE483.out) | exact HB.out)) hb)
 clear HO0_3
 clear BK482
 clear BK483
 clear HB
 have HO0_3 := n0_
 have HO486 := n1_
 have BK482 := n2_
 have BK483 := n3_
 have HB := n4_
 clear n0_ n1_ n2_ n3_ n4_
 (try clear hb)
 (try clear hb2)
 (try clear hk)
 (try clear hi)
 (try clear ho0)
 obtain ⟨Ao7, co7, eo7⟩ := Kd.R_slice HO486.out
 (first | subst eo7 | (injection eo7 with f1_ f2_ f3_; have f4_ := f1_.symm; have f5_ := f3_.symm; clear f1_ f2_ f3_; subst f4_; subst f5_))
 refine hK.out _ _ (bc5_ BK482) (fun hHeld => ?_)
 clear hK K
 refine no_ (some 13) ?_
 refine pu_ 11 (some 14) (fb 13 4095) HT_ ?_
 refine one_ (i := 12) (N := none) (fb 13 8191) rfl rfl (one_of HT_.out (by kernel_rfl)) (by decide) (fun K hK => ?_)
 have hs8 : w6.cell? ⟨gb483, 0, none⟩ = some (.int .i64 0) := (blk_cell BK483.out 0).trans rfl
 have hfs8 := blk_frozen BK483.out 0
 have hns8_0 := NB482_483.out
 have hms8_0 := NB483_482.out
 have hs9 : w6.cell? ⟨gb483, 1, none⟩ = some (.int .i64 0) := (blk_cell BK483.out 1).trans rfl
 have hfs9 := blk_frozen BK483.out 1
 have hns9_0 := NB482_483.out
 have hms9_0 := NB483_482.out
 have hs10 : w6.cell? ⟨gb483, 2, none⟩ = some (.int .i64 0) := (blk_cell BK483.out 2).trans rfl
 have hfs10 := blk_frozen BK483.out 2
 have hns10_0 := NB482_483.out
 have hms10_0 := NB483_482.out
 have hs11 : w6.cell? ⟨gb483, 3, none⟩ = some (.slice none 0 0) := (blk_cell BK483.out 3).trans rfl
 have hfs11 := blk_frozen BK483.out 3
 have hns11_0 := NB482_483.out
 have hms11_0 := NB483_482.out
 have hs12 : w6.cell? ⟨gb483, 4, none⟩ = some (.slice none 0 0) := (blk_cell BK483.out 4).trans rfl
 have hfs12 := blk_frozen BK483.out 4
 have hns12_0 := NB482_483.out
 have hms12_0 := NB483_482.out
 refine skip_ (w1 := ?_) (by rfl) rfl ?_ ?_
 rotate_left
 · go_simp
   rfl
 refine hK.out _ _ ⟨((cell_far (p := ⟨gb483, _, none⟩) NB482_483.out _).trans (((cell_far (p := ⟨gb483, _, none⟩) NB482_483.out _).trans (((cell_far (p := ⟨gb483, _, none⟩) NB482_483.out _).trans (((cell_far (p := ⟨gb483, _, none⟩) NB482_483.out _).trans (((cell_far (p := ⟨gb483, _, none⟩) NB482_483.out _).trans (hHeld.1)))))))))), ((cell_far (p := ⟨gb483, _, none⟩) NB482_483.out _).trans (((cell_far (p := ⟨gb483, _, none⟩) NB482_483.out _).trans (((cell_far (p := ⟨gb483, _, none⟩) NB482_483.out _).trans (((cell_far (p := ⟨gb483, _, none⟩) NB482_483.out _).trans (((cell_far (p := ⟨gb483, _, none⟩) NB482_483.out _).trans (hHeld.2.1)))))))))), ((cell_far (p := ⟨gb483, _, none⟩) NB482_483.out _).trans (((cell_far (p := ⟨gb483, _, none⟩) NB482_483.out _).trans (((cell_far (p := ⟨gb483, _, none⟩) NB482_483.out _).trans (((cell_far (p := ⟨gb483, _, none⟩) NB482_483.out _).trans (((cell_far (p := ⟨gb483, _, none⟩) NB482_483.out _).trans (hHeld.2.2.1)))))))))), ((cell_far (p := ⟨gb483, _, none⟩) NB482_483.out _).trans (((cell_far (p := ⟨gb483, _, none⟩) NB482_483.out _).trans (((cell_far (p := ⟨gb483, _, none⟩) NB482_483.out _).trans (((cell_far (p := ⟨gb483, _, none⟩) NB482_483.out _).trans (((cell_far (p := ⟨gb483, _, none⟩) NB482_483.out _).trans (hHeld.2.2.2.1)))))))))), ((cell_far (p := ⟨gb483, _, none⟩) NB482_483.out _).trans (((cell_far (p := ⟨gb483, _, none⟩) NB482_483.out _).trans (((cell_far (p := ⟨gb483, _, none⟩) NB482_483.out _).trans (((cell_far (p := ⟨gb483, _, none⟩) NB482_483.out _).trans (((cell_far (p := ⟨gb483, _, none⟩) NB482_483.out _).trans (hHeld.2.2.2.2))))))))))⟩ (fun hHeld => ?_)
 clear hK K
 refine done_ (done_of HT_.out (by kernel_rfl)) ?_
 try go_wp2
 refine bodyPost_ret (results_cell_row rfl _ _ gb483 39 #[.int .i64 a0_0, .int .i64 a0_1, .int .i64 a0_2, .slice A0_3 l0_3.length c0_3, .slice Ao7 t484.length co7] (0, 0) _ rfl (by (with_reducible repeat (first | refine blk_drewN ?_ _ | refine blk_drew ?_ | refine blk_alloc ?_ _)); refine blk_put (cs := #[.int .i64 a0_0, .int .i64 a0_1, .int .i64 a0_2, .slice A0_3 l0_3.length c0_3, .slice none 0 0]) ?_ 4 _ rfl; (with_reducible repeat (first | refine blk_drewN ?_ _ | refine blk_drew ?_ | refine blk_alloc ?_ _)); refine blk_put (cs := #[.int .i64 a0_0, .int .i64 a0_1, .int .i64 a0_2, .slice none 0 0, .slice none 0 0]) ?_ 3 _ rfl; (with_reducible repeat (first | refine blk_drewN ?_ _ | refine blk_drew ?_ | refine blk_alloc ?_ _)); refine blk_put (cs := #[.int .i64 a0_0, .int .i64 a0_1, .int .i64 0, .slice none 0 0, .slice none 0 0]) ?_ 2 _ rfl; (with_reducible repeat (first | refine blk_drewN ?_ _ | refine blk_drew ?_ | refine blk_alloc ?_ _)); refine blk_put (cs := #[.int .i64 a0_0, .int .i64 0, .int .i64 0, .slice none 0 0, .slice none 0 0]) ?_ 1 _ rfl; (with_reducible repeat (first | refine blk_drewN ?_ _ | refine blk_drew ?_ | refine blk_alloc ?_ _)); refine blk_put (cs := #[.int .i64 0, .int .i64 0, .int .i64 0, .slice none 0 0, .slice none 0 0]) ?_ 0 _ rfl; (with_reducible repeat (first | refine blk_drewN ?_ _ | refine blk_drew ?_ | refine blk_alloc ?_ _)); exact BK483.out) Try.underlying39 rfl (by kernel_rfl)) rfl ?_
 exact ⟨_, _, by first | rfl | (simp [errW_none, errW_some] <;> rfl) | (simp [*, errW_none, errW_some] <;> rfl), by (with_reducible repeat (first | apply Kd.V_alloc | apply Kd.V_drewN | apply Kd.V_drew)); exact Kd.V_mono (Kd.V_far (p := ⟨gb483, 4, none⟩) (Kd.V_far (p := ⟨gb483, 3, none⟩) (Kd.V_far (p := ⟨gb483, 2, none⟩) (Kd.V_far (p := ⟨gb483, 1, none⟩) (Kd.V_far (p := ⟨gb483, 0, none⟩) (Kd.V_mono HO0_3.out (fun k_ hk => (⟨hk, hk.1.2⟩ : _ ∧ k_ ≠ gb483))) (fun _ hk => hk.2) (.int .i64 a0_0)) (fun _ hk => hk.2) (.int .i64 a0_1)) (fun _ hk => hk.2) (.int .i64 a0_2)) (fun _ hk => hk.2) (.slice A0_3 l0_3.length c0_3)) (fun _ hk => hk.2) (.slice Ao7 t484.length co7)) (fun _ hk => ⟨hk.1.1.1.1, hk.1.2⟩), by (with_reducible repeat (first | apply Kd.R_alloc | apply Kd.R_drewN | apply Kd.R_drew)); exact Kd.R_mono (Kd.R_far (p := ⟨gb483, 4, none⟩) (Kd.R_far (p := ⟨gb483, 3, none⟩) (Kd.R_far (p := ⟨gb483, 2, none⟩) (Kd.R_far (p := ⟨gb483, 1, none⟩) (Kd.R_far (p := ⟨gb483, 0, none⟩) (Kd.R_types HO486.out BK483.out (by decide)) (fun _ hk => hk.2) (.int .i64 a0_0)) (fun _ hk => hk.2) (.int .i64 a0_1)) (fun _ hk => hk.2) (.int .i64 a0_2)) (fun _ hk => hk.2) (.slice A0_3 l0_3.length c0_3)) (fun _ hk => hk.2) (.slice Ao7 t484.length co7)) (fun _ hk => hk.1.1), by repeat (first | (with_reducible first | exact HB.out | apply below_alloc | apply pw_below_drewN | apply below_drew1 | refine below_set ?_ GE482.out | refine below_set ?_ GE483.out) | exact HB.out)⟩

/-! ### handshakerlaw15_Refs: function 16 -/
def handshakerlaw15_Refs.l0 : Nat → List (S39) → List (S26) → Int → Int → Option ((List (S39)))
 | 0, _, _, _, _ => none
 | k + 1, x3, x6, x7, x8 => if x8 < x7 then (if 0 ≤ x8 then (if x8 < (x6.length : Int) then ((handshakerlaw15_Ref.f k ((rd_T26 x6 x8).f0) ((rd_T26 x6 x8).f1) ((rd_T26 x6 x8).f2) ((rd_T26 x6 x8).f3) ((rd_T26 x6 x8).f4)).bind fun bt489 => (if x3.length < 1954687338268 then (handshakerlaw15_Refs.l0 k (x3 ++ [(⟨bt489.1, bt489.2.1, bt489.2.2.1, bt489.2.2.2.1, bt489.2.2.2.2⟩ : S39)]) x6 x7 (wrap64 (x8 + 1))) else (none))) else (none)) else (none)) else (some x3)
def handshakerlaw15_Refs.f (k : Nat) (l0 : List (S26)) : Option ((List (S39))) := handshakerlaw15_Refs.l0 k ([] : List (S39)) l0 (l0.length : Int) 0
theorem handshakerlaw15_Refs.mono_l : ∀ k, (∀ y0 y1 y2 y3, LeO (handshakerlaw15_Refs.l0 k y0 y1 y2 y3) (handshakerlaw15_Refs.l0 (k + 1) y0 y1 y2 y3))
 | 0 => fun _ _ _ _ r h => by simp [handshakerlaw15_Refs.l0] at h
 | k + 1 => by
  have ih0 := handshakerlaw15_Refs.mono_l k
  · intro y0 y1 y2 y3
    unfold handshakerlaw15_Refs.l0
    repeat' first
    | (with_reducible exact ih0 _ _ _ _)
    | (with_reducible exact handshakerlaw15_Ref.mono _ _ _ _ _ _)
    | (with_reducible exact LeO.refl _)
    | (with_reducible exact LeO.none _)
    | (with_reducible refine LeO.ite ?_ ?_)
    | (with_reducible refine LeO.bind ?_ (fun _ => ?_))
    | exact ih0 _ _ _ _
    | exact handshakerlaw15_Ref.mono _ _ _ _ _ _
    | exact LeO.none _
    | refine LeO.ite ?_ ?_
    | refine LeO.bind ?_ (fun _ => ?_)
theorem handshakerlaw15_Refs.mono : ∀ a0 k, LeO (handshakerlaw15_Refs.f k a0) (handshakerlaw15_Refs.f (k + 1) a0) := by
 intro a0 k
 have ih0 := handshakerlaw15_Refs.mono_l k
 unfold handshakerlaw15_Refs.f
 repeat' first
  | (with_reducible exact ih0 _ _ _ _)
  | (with_reducible exact handshakerlaw15_Ref.mono _ _ _ _ _ _)
  | (with_reducible exact LeO.refl _)
  | (with_reducible exact LeO.none _)
  | (with_reducible refine LeO.ite ?_ ?_)
  | (with_reducible refine LeO.bind ?_ (fun _ => ?_))
  | exact ih0 _ _ _ _
  | exact handshakerlaw15_Ref.mono _ _ _ _ _ _
  | exact LeO.none _
  | refine LeO.ite ?_ ?_
  | refine LeO.bind ?_ (fun _ => ?_)
set_option maxHeartbeats 8000000 in
set_option maxRecDepth 100000 in
theorem handshakerlaw15_Refs.calls (k : Nat) (P0_ : Nat → Prop) (A0 : Option Addr) (c0 : Nat) (l0 : List (S26)) (r : List (S39)) (w : World) (hs0 : Kd.V k26 26 w w.heap.size (fun k_ => P0_ k_) (.slice A0 l0.length c0) l0) (h : handshakerlaw15_Refs.f k l0 = some r) :
 Calls Try.prog 16 #[.slice A0 l0.length c0] w fun e w' => ∃ v0_ : Value, e = .returned (v0_) ∧ Kd.N k39 39 w' w.heap.size (fun k_ => (P0_ k_ ∨ w.heap.size ≤ k_)) v0_ r ∧ Below w.heap.size w w' := by
 have hu26 := Try.underlying26
 have HO0 := ak (show Kd.V k26 26 w w.heap.size (fun k_ => (P0_ k_ ∨ w.heap.size ≤ k_)) (.slice A0 l0.length c0) l0 from Kd.V_mono hs0 (fun k_ hk => .inl hk))
 have HB := ak (Below.refl w.heap.size w)
 have H : (handshakerlaw15_Refs.l0 k ([] : List (S39)) l0 (l0.length : Int) 0) = some r := h
 clear h
 have H' := ak H
 clear H
 go_enter Try.func16, Try.ntmps16
 go_wp2
 go_loopg [3, 8] k (fun kq v3 v8 w' => ∃ (x3_1 : List (S39)) (x8_1 : Int), v8 = .int .i64 x8_1 ∧ Aside0 (handshakerlaw15_Refs.l0 kq x3_1 l0 (l0.length : Int) x8_1 = some r) ∧ Aside0 (kq ≤ k) ∧ Aside0 (Kd.N k39 39 w' w.heap.size (fun k_ => (P0_ k_ ∨ w.heap.size ≤ k_)) v3 x3_1) ∧ Aside0 (Kd.V k26 26 w' w.heap.size (fun k_ => (P0_ k_ ∨ w.heap.size ≤ k_) ∧ some k_ ≠ (v3 : Value).ownBlock) (.slice A0 l0.length c0) l0) ∧ Aside0 (Below w.heap.size w w'))
 case atStart => exact ⟨(([] : List (S39))), (0), (by first | rfl | (simp; done) | (simp [*]; done)), H', ⟨Nat.le_refl _⟩, ⟨by first | exact Kd.S_nil _ _ _ _ _ | exact Kd.N_nil _ _ _ _ _ | exact Kd.V_nil _ _ _ _ _ | exact Kd.Q_nil _ _ _ _ _ | exact Kd.R_nil _ _ _ _ _⟩, ⟨Kd.V_mono (vq_ HO0) (fun _ hk => ⟨hk, (by simp [Value.ownBlock])⟩)⟩, ⟨bsv_⟩⟩
 case round =>
  clear H'
  try clear c1
  obtain ⟨x3_1, x8_1, rfl, HA, HK1, HO_3, HO_6, HB⟩ := hrel
  cases gk with
  | zero => exact absurd HA.out (by simp [handshakerlaw15_Refs.l0])
  | succ k1 =>
   have H := HA.out
   clear HA
   simp only [handshakerlaw15_Refs.l0] at H
   by_cases c2 : x8_1 < (l0.length : Int)
   · rw [if_pos c2] at H
     have c2b0 : decide (x8_1 < (l0.length : Int)) = true := decide_eq_true c2
     clear c2
     by_cases c3 : 0 ≤ x8_1
     · rw [if_pos c3] at H
       have c3b0 : decide (0 ≤ x8_1) = true := decide_eq_true c3
       clear c3
       by_cases c4 : x8_1 < (l0.length : Int)
       · rw [if_pos c4] at H
         have c4b0 : decide (x8_1 < (l0.length : Int)) = true := decide_eq_true c4
         clear c4
         replace H := Option.bind_eq_some_iff.mp H
         obtain ⟨⟨t489, t490, t491, t492, t495⟩, A50, H⟩ := H
         have A5 := ak A50
         clear A50
         by_cases c6 : x3_1.length < 1954687338268
         · rw [if_pos c6] at H
           have LMc6 := ak c6
           clear c6
           obtain ⟨y498, hy498⟩ : ∃ y_ : List (S39), y_ = (x3_1 ++ [(⟨t489, t490, t491, t492, t495⟩ : S39)]) := ⟨_, rfl⟩
           replace H : (handshakerlaw15_Refs.l0 k1 y498 l0 (l0.length : Int) (wrap64 (x8_1 + 1))) = some r := by first | (rw [hy498]; with_reducible exact H) | (have H2_ := (Option.bind_some _ _).symm.trans H; rw [hy498]; with_reducible exact H2_) | (have H2_ := (Option.bind_some _ _).symm.trans H; with_reducible exact H2_) | with_reducible exact H | (rw [hy498]; exact H) | exact H
           have Ny498 := ak hy498
           clear hy498
           have H' := ak H
           clear H
           have p487 : 0 ≤ (x8_1 : Int) := oda_
           have q487 : x8_1 < (l0.length : Int) := oda_
           obtain ⟨ad487, A487_3, c487_3, A487_4, c487_4, e487, hx487_0, hx487_1, hx487_2, hx487_3, hx487_4, hl487_3, hi487_3, hl487_4, hi487_4⟩ := at_T26 (Kd.V_reads' HO_6.out).2.2 x8_1 p487 q487
           cases e487
           obtain ⟨ce487, hce487, hMe487, hcc487⟩ := Kd.V_get HO_6.out z26 x8_1 p487 (by first | exact q487 | exact oda_ | (have e_ := (Kd.V_reads' HO_6.out).1; omega))
           obtain ⟨ua487_3, uc487_3, ua487_4, uc487_4, rfl, ul487_3, ge487_3, ul487_4, ge487_4⟩ := k26_openF hMe487
           have hv487_3 := hcc487 3 _ rfl
           rw [add_field _ _ 3 (by omega)] at hv487_3
           replace hv487_3 := Option.some.inj (hv487_3.symm.trans hx487_3)
           injection hv487_3 with hva_ hvn_ hvc_
           rw [hva_] at ge487_3
           rw [hvc_] at ul487_3
           have HL487_3 := ak (show Kd.V k62 62 _ w.heap.size _ _ ((rd_T26 l0 x8_1).f3) from Kd.V_mk ul487_3 ge487_3)
           clear hva_ hvn_ hvc_ ge487_3 ul487_3
           have hv487_4 := hcc487 4 _ rfl
           rw [add_field _ _ 4 (by omega)] at hv487_4
           replace hv487_4 := Option.some.inj (hv487_4.symm.trans hx487_4)
           injection hv487_4 with hva_ hvn_ hvc_
           rw [hva_] at ge487_4
           rw [hvc_] at ul487_4
           have HL487_4 := ak (show Kd.V k80 80 _ w.heap.size _ _ ((rd_T26 l0 x8_1).f4) from Kd.V_mk ul487_4 ge487_4)
           clear hva_ hvn_ hvc_ ge487_4 ul487_4
           clear hcc487 hce487
           have HR487_3 := ak hi487_3
           have HC487_3 := ak hl487_3
           clear hi487_3 hl487_3
           have HR487_4 := ak hi487_4
           have HC487_4 := ak hl487_4
           clear hi487_4 hl487_4
           replace p487 := eq_true p487
           replace q487 := eq_true q487
           go_wp2_with (first | ((with_reducible refine gate_dst (N := 5) rfl ?_); refine box_event ?hg (N := 5) ?hd (cs := #[.int .i64 0, .int .i64 0, .int .i64 0, .slice none 0 0, .slice none 0 0]) (t := 26) ?hr ?_; (case hd => rfl); (case hg => rfl); (case hr => first | (go_simp; done) | (go_simp; rfl)); intro gb488 hg w7 hbox hb; replace HO_3 := ak (Kd.N_below (Kd.N_elderB (nq_ HO_3) gb488 (Nat.le_of_eq hg.symm)) hb); replace HO_6 := ak (Kd.V_below (Kd.V_elderB (vq_ HO_6) gb488 (Nat.le_of_eq hg.symm)) hb); replace HL487_3 := ak (Kd.V_below (Kd.V_elderB (vq_ HL487_3) gb488 (Nat.le_of_eq hg.symm)) hb); replace HL487_4 := ak (Kd.V_below (Kd.V_elderB (vq_ HL487_4) gb488 (Nat.le_of_eq hg.symm)) hb); replace HR487_3 := ak (Kd.V_reads' HL487_3.out).2.2; replace HR487_4 := ak (Kd.V_reads' HL487_4.out).2.2; replace BK488 := ak (hbox); replace GW488 := ak ((by rw [hg]; exact bsz_ : w.heap.size ≤ gb488)); replace HB := ak (bst_ hb); replace GE488 := GW488; clear hb hbox hg; obtain ⟨hcz8_0, hcz8_1, hcz8_2, hcz8_3, hcz8_4, hfz8_0, hfz8_1, hfz8_2, hfz8_3, hfz8_4⟩ := bz5_ BK488) | ((with_reducible refine gate_store (t := 26) (p := 5) rfl ?_); refine store_event (t := 26) (p := 5) (v := ?vo_w9) (w1 := (((((w7.setCell ⟨gb488, 0, none⟩ (.int .i64 ((rd_T26 l0 x8_1).f0))).setCell ⟨gb488, 1, none⟩ (.int .i64 ((rd_T26 l0 x8_1).f1))).setCell ⟨gb488, 2, none⟩ (.int .i64 ((rd_T26 l0 x8_1).f2))).setCell ⟨gb488, 3, none⟩ (.slice A487_3 ((rd_T26 l0 x8_1).f3).length c487_3)).setCell ⟨gb488, 4, none⟩ (.slice A487_4 ((rd_T26 l0 x8_1).f4).length c487_4))) ?hg ?ho ?hn ?hr ?_; (case ho => rfl); (case hg => rfl); (case hn => rfl); (case hr => first | (go_simp; done) | (go_simp; rfl)); intro w9 hw; have n0_ : Aside0 (Kd.N k39 39 w9 w.heap.size (fun k_ => (P0_ k_ ∨ w.heap.size ≤ k_) ∧ k_ ≠ gb488) u3 x3_1) := ⟨(by rw [hw]; exact (by (with_reducible repeat (first | apply Kd.N_alloc | apply Kd.N_drewN | apply Kd.N_drew)); exact Kd.N_mono (Kd.N_far (p := ⟨gb488, 4, none⟩) (Kd.N_far (p := ⟨gb488, 3, none⟩) (Kd.N_far (p := ⟨gb488, 2, none⟩) (Kd.N_far (p := ⟨gb488, 1, none⟩) (Kd.N_far (p := ⟨gb488, 0, none⟩) (Kd.N_mono HO_3.out (fun k_ hk => (⟨hk, hk.2⟩ : _ ∧ k_ ≠ gb488))) (fun _ hk => hk.2) (.int .i64 ((rd_T26 l0 x8_1).f0))) (fun _ hk => hk.2) (.int .i64 ((rd_T26 l0 x8_1).f1))) (fun _ hk => hk.2) (.int .i64 ((rd_T26 l0 x8_1).f2))) (fun _ hk => hk.2) (.slice A487_3 ((rd_T26 l0 x8_1).f3).length c487_3)) (fun _ hk => hk.2) (.slice A487_4 ((rd_T26 l0 x8_1).f4).length c487_4)) (fun _ hk => ⟨hk.1.1, hk.1.2⟩)))⟩; have n1_ : Aside0 (Kd.V k26 26 w9 w.heap.size (fun k_ => (P0_ k_ ∨ w.heap.size ≤ k_) ∧ some k_ ≠ (u3 : Value).ownBlock ∧ k_ ≠ gb488) (.slice (some ad487) l0.length c0) l0) := ⟨(by rw [hw]; exact (by (with_reducible repeat (first | apply Kd.V_alloc | apply Kd.V_drewN | apply Kd.V_drew)); exact Kd.V_mono (Kd.V_far (p := ⟨gb488, 4, none⟩) (Kd.V_far (p := ⟨gb488, 3, none⟩) (Kd.V_far (p := ⟨gb488, 2, none⟩) (Kd.V_far (p := ⟨gb488, 1, none⟩) (Kd.V_far (p := ⟨gb488, 0, none⟩) (Kd.V_mono HO_6.out (fun k_ hk => (⟨hk, hk.2⟩ : _ ∧ k_ ≠ gb488))) (fun _ hk => hk.2) (.int .i64 ((rd_T26 l0 x8_1).f0))) (fun _ hk => hk.2) (.int .i64 ((rd_T26 l0 x8_1).f1))) (fun _ hk => hk.2) (.int .i64 ((rd_T26 l0 x8_1).f2))) (fun _ hk => hk.2) (.slice A487_3 ((rd_T26 l0 x8_1).f3).length c487_3)) (fun _ hk => hk.2) (.slice A487_4 ((rd_T26 l0 x8_1).f4).length c487_4)) (fun _ hk => ⟨hk.1.1.1, ⟨hk.1.1.2, hk.1.2⟩⟩)))⟩; have n2_ : Aside0 (Kd.V k62 62 w9 w.heap.size (fun k_ => (P0_ k_ ∨ w.heap.size ≤ k_) ∧ some k_ ≠ (u3 : Value).ownBlock ∧ k_ ≠ gb488) (.slice A487_3 ((rd_T26 l0 x8_1).f3).length c487_3) ((rd_T26 l0 x8_1).f3)) := ⟨(by rw [hw]; exact (by (with_reducible repeat (first | apply Kd.V_alloc | apply Kd.V_drewN | apply Kd.V_drew)); exact Kd.V_mono (Kd.V_far (p := ⟨gb488, 4, none⟩) (Kd.V_far (p := ⟨gb488, 3, none⟩) (Kd.V_far (p := ⟨gb488, 2, none⟩) (Kd.V_far (p := ⟨gb488, 1, none⟩) (Kd.V_far (p := ⟨gb488, 0, none⟩) (Kd.V_mono HL487_3.out (fun k_ hk => (⟨hk, hk.2⟩ : _ ∧ k_ ≠ gb488))) (fun _ hk => hk.2) (.int .i64 ((rd_T26 l0 x8_1).f0))) (fun _ hk => hk.2) (.int .i64 ((rd_T26 l0 x8_1).f1))) (fun _ hk => hk.2) (.int .i64 ((rd_T26 l0 x8_1).f2))) (fun _ hk => hk.2) (.slice A487_3 ((rd_T26 l0 x8_1).f3).length c487_3)) (fun _ hk => hk.2) (.slice A487_4 ((rd_T26 l0 x8_1).f4).length c487_4)) (fun _ hk => ⟨hk.1.1.1, ⟨hk.1.1.2, hk.1.2⟩⟩)))⟩; have n3_ : Aside0 (Kd.V k80 80 w9 w.heap.size (fun k_ => (P0_ k_ ∨ w.heap.size ≤ k_) ∧ some k_ ≠ (u3 : Value).ownBlock ∧ k_ ≠ gb488) (.slice A487_4 ((rd_T26 l0 x8_1).f4).length c487_4) ((rd_T26 l0 x8_1).f4)) := ⟨(by rw [hw]; exact (by (with_reducible repeat (first | apply Kd.V_alloc | apply Kd.V_drewN | apply Kd.V_drew)); exact Kd.V_mono (Kd.V_far (p := ⟨gb488, 4, none⟩) (Kd.V_far (p := ⟨gb488, 3, none⟩) (Kd.V_far (p := ⟨gb488, 2, none⟩) (Kd.V_far (p := ⟨gb488, 1, none⟩) (Kd.V_far (p := ⟨gb488, 0, none⟩) (Kd.V_mono HL487_4.out (fun k_ hk => (⟨hk, hk.2⟩ : _ ∧ k_ ≠ gb488))) (fun _ hk => hk.2) (.int .i64 ((rd_T26 l0 x8_1).f0))) (fun _ hk => hk.2) (.int .i64 ((rd_T26 l0 x8_1).f1))) (fun _ hk => hk.2) (.int .i64 ((rd_T26 l0 x8_1).f2))) (fun _ hk => hk.2) (.slice A487_3 ((rd_T26 l0 x8_1).f3).length c487_3)) (fun _ hk => hk.2) (.slice A487_4 ((rd_T26 l0 x8_1).f4).length c487_4)) (fun _ hk => ⟨hk.1.1.1, ⟨hk.1.1.2, hk.1.2⟩⟩)))⟩; have n4_ : Aside0 (w9.heap[gb488]? = some (.cells #[.int .i64 ((rd_T26 l0 x8_1).f0), .int .i64 ((rd_T26 l0 x8_1).f1), .int .i64 ((rd_T26 l0 x8_1).f2), .slice A487_3 ((rd_T26 l0 x8_1).f3).length c487_3, .slice A487_4 ((rd_T26 l0 x8_1).f4).length c487_4] 26 (0, 0))) := ⟨(by rw [hw]; exact (by (with_reducible repeat (first | refine blk_drewN ?_ _ | refine blk_drew ?_ | refine blk_alloc ?_ _)); refine blk_put (cs := #[.int .i64 ((rd_T26 l0 x8_1).f0), .int .i64 ((rd_T26 l0 x8_1).f1), .int .i64 ((rd_T26 l0 x8_1).f2), .slice A487_3 ((rd_T26 l0 x8_1).f3).length c487_3, .slice none 0 0]) ?_ 4 _ rfl; (with_reducible repeat (first | refine blk_drewN ?_ _ | refine blk_drew ?_ | refine blk_alloc ?_ _)); refine blk_put (cs := #[.int .i64 ((rd_T26 l0 x8_1).f0), .int .i64 ((rd_T26 l0 x8_1).f1), .int .i64 ((rd_T26 l0 x8_1).f2), .slice none 0 0, .slice none 0 0]) ?_ 3 _ rfl; (with_reducible repeat (first | refine blk_drewN ?_ _ | refine blk_drew ?_ | refine blk_alloc ?_ _)); refine blk_put (cs := #[.int .i64 ((rd_T26 l0 x8_1).f0), .int .i64 ((rd_T26 l0 x8_1).f1), .int .i64 0, .slice none 0 0, .slice none 0 0]) ?_ 2 _ rfl; (with_reducible repeat (first | refine blk_drewN ?_ _ | refine blk_drew ?_ | refine blk_alloc ?_ _)); refine blk_put (cs := #[.int .i64 ((rd_T26 l0 x8_1).f0), .int .i64 0, .int .i64 0, .slice none 0 0, .slice none 0 0]) ?_ 1 _ rfl; (with_reducible repeat (first | refine blk_drewN ?_ _ | refine blk_drew ?_ | refine blk_alloc ?_ _)); refine blk_put (cs := #[.int .i64 0, .int .i64 0, .int .i64 0, .slice none 0 0, .slice none 0 0]) ?_ 0 _ rfl; (with_reducible repeat (first | refine blk_drewN ?_ _ | refine blk_drew ?_ | refine blk_alloc ?_ _)); exact BK488.out))⟩; have n5_ : Aside0 (Below w.heap.size w w9) := ⟨(by rw [hw]; exact bsw_)⟩; clear hw; clear HO_3; clear HO_6; clear HL487_3; clear HL487_4; clear BK488; clear HB; have HO_3 := n0_; have HO_6 := n1_; have HL487_3 := n2_; have HL487_4 := n3_; have BK488 := n4_; have HB := n5_; clear n0_ n1_ n2_ n3_ n4_ n5_; obtain ⟨hcz10_0, hcz10_1, hcz10_2, hcz10_3, hcz10_4, hfz10_0, hfz10_1, hfz10_2, hfz10_3, hfz10_4⟩ := bz5_ BK488) | ((with_reducible refine gate_callee (f := 19) rfl ?_); refine goesL_ (some 14) rfl rfl Try.func19 (by kernel_rfl) rfl #[.agg #[.int .i64 ((rd_T26 l0 x8_1).f0), .int .i64 ((rd_T26 l0 x8_1).f1), .int .i64 ((rd_T26 l0 x8_1).f2), .slice A487_3 ((rd_T26 l0 x8_1).f3).length c487_3, .slice A487_4 ((rd_T26 l0 x8_1).f4).length c487_4]] rfl mp_ ?_; (with_reducible refine (handshakerlaw15_Ref.calls k1 ((rd_T26 l0 x8_1).f0) ((rd_T26 l0 x8_1).f1) ((rd_T26 l0 x8_1).f2) (fun k_ => ((P0_ k_ ∨ w.heap.size ≤ k_) ∧ (some k_ ≠ (u3 : Value).ownBlock ∧ k_ ≠ gb488))) _ _ ((rd_T26 l0 x8_1).f3) _ _ ((rd_T26 l0 x8_1).f4) t489 t490 t491 t492 t495 _ ?side1 ?side2 ?side3 A5.out).mono ?_); (case side1 => exact HL487_3.out); (case side2 => repeat (first | exact (Kd.V_reads' HL487_4.out).2.2 | exact cp_ HR487_4 | with_reducible first | refine Kd.C_alloc ?_ _ | refine Kd.C_drewN ?_ _ | refine Kd.C_drew ?_)); (case side3 => exact HC487_4.out); rintro e w11 ⟨v493, v496, rfl, ho0, ho1, hb⟩; refine ⟨_, rfl, ?_⟩; replace HO_6 := ak (Kd.V_elder' (vq_ HO_6) (Kd.R_base ho1) hb); replace HL487_3 := ak (Kd.V_elder' (vq_ HL487_3) (Kd.R_base ho1) hb); replace HL487_4 := ak (Kd.V_elder' (vq_ HL487_4) (Kd.R_base ho1) hb); replace HO494 := ak (Kd.V_lower (Kd.V_mono (ok' := fun k_ => (P0_ k_ ∨ w.heap.size ≤ k_) ∧ some k_ ≠ (v496 : Value).ownBlock ∧ some k_ ≠ (u3 : Value).ownBlock ∧ k_ ≠ gb488) ho0 (fun k_ hk_ => ⟨Or.elim hk_.1 (fun hs_ => hs_.1) (fun hn_ => (.inr (Nat.le_trans (below_size bsw_) hn_))), hk_.2, Or.elim hk_.1 (fun hs_ => hs_.2.1) (fun hn_ => (Kd.fresh' (Kd.N_lt (nq_ HO_3)) k_ hn_)), Or.elim hk_.1 (fun hs_ => hs_.2.2) (fun hn_ => (Kd.freshB (g := gb488) (o := .cells #[.int .i64 ((rd_T26 l0 x8_1).f0), .int .i64 ((rd_T26 l0 x8_1).f1), .int .i64 ((rd_T26 l0 x8_1).f2), .slice A487_3 ((rd_T26 l0 x8_1).f3).length c487_3, .slice A487_4 ((rd_T26 l0 x8_1).f4).length c487_4] 26 (0, 0)) (bq_ BK488) k_ hn_))⟩)) (below_size bsw_)); replace HO_3 := ak (Kd.N_elder' (nq_ HO_3) (Kd.R_base ho1) hb); replace HO497 := ak (Kd.R_lower (Kd.R_newM (M := fun k_ => (w.heap.size ≤ k_)) (Kd.R_mono (ok' := fun k_ => True) ho1 (fun _ hk_ => trivial)) (below_size bsw_) (fun k_ h_ => h_)) (below_size bsw_)); replace HR487_3 := ak (Kd.V_reads' HL487_3.out).2.2; replace HR487_4 := ak (Kd.V_reads' HL487_4.out).2.2; replace BK488 := bb_ BK488 hb; replace HB := ak (below_step bsw_ hb); (try clear hb); (try clear hb2); (try clear hk); (try clear hi); (try clear ho0); (try clear ho1); obtain ⟨Ao13, co13, eo13⟩ := Kd.V_slice HO494.out; subst eo13; obtain ⟨Ao14, co14, eo14⟩ := Kd.R_slice HO497.out; subst eo14) | ((with_reducible refine gate_builtin (b := .append) (xs := #[.tmp 12, .tmp 15]) rfl ?_); at_builtin; refine Kd.N_append k39 (w0 := w) w.heap.size rfl (.tmp 12) (.tmp 15) 30 39 (.agg #[(.int .i64 0), (.int .i64 0), (.int .i64 0), (.slice none 0 0), (.slice none 0 0)]) 72 rfl Try.underlying30 info39 rfl (by decide) (by omega) u3 x3_1 (⟨t489, t490, t491, t492, t495⟩ : S39) [.int .i64 t489, .int .i64 t490, .int .i64 t491, .slice Ao13 t492.length co13, .slice Ao14 t495.length co14] (fun k_ => (P0_ k_ ∨ w.heap.size ≤ k_) ∧ k_ ≠ gb488) (fun k_ => ((fun k_ => (P0_ k_ ∨ w.heap.size ≤ k_) ∧ k_ ≠ gb488)) k_ ∧ some k_ ≠ (u3 : Value).ownBlock) rfl rfl ?aP (fun _ hk => hk) ?aF ?aO ?aB ?aS ?aL ?_; (case aP => exact (k39_mkF _ _ (⟨t489, t490, t491, t492, t495⟩ : S39) (Kd.V_reads' (Kd.V_mono (ok' := (fun k_ => ((fun k_ => (P0_ k_ ∨ w.heap.size ≤ k_) ∧ k_ ≠ gb488)) k_ ∧ some k_ ≠ (u3 : Value).ownBlock)) (HO494.out) (fun k_ hk => ⟨⟨hk.1, hk.2.2.2⟩, hk.2.2.1⟩))).2.1 (Kd.V_F (Kd.V_mono (ok' := (fun k_ => ((fun k_ => (P0_ k_ ∨ w.heap.size ≤ k_) ∧ k_ ≠ gb488)) k_ ∧ some k_ ≠ (u3 : Value).ownBlock)) (HO494.out) (fun k_ hk => ⟨⟨hk.1, hk.2.2.2⟩, hk.2.2.1⟩))) (Kd.R_reads' (Kd.R_mono (ok' := (fun k_ => ((fun k_ => (P0_ k_ ∨ w.heap.size ≤ k_) ∧ k_ ≠ gb488)) k_ ∧ some k_ ≠ (u3 : Value).ownBlock)) (Kd.R_types (Kd.R_apart' (HO497.out) (Kd.N_typed HO_3.out) (by decide)) BK488.out (by decide)) (fun k_ hk => ⟨⟨(.inr (hk.1.1.1)), hk.2⟩, hk.1.2⟩))).2.1 (Kd.R_F (Kd.R_mono (ok' := (fun k_ => ((fun k_ => (P0_ k_ ∨ w.heap.size ≤ k_) ∧ k_ ≠ gb488)) k_ ∧ some k_ ≠ (u3 : Value).ownBlock)) (Kd.R_types (Kd.R_apart' (HO497.out) (Kd.N_typed HO_3.out) (by decide)) BK488.out (by decide)) (fun k_ hk => ⟨⟨(.inr (hk.1.1.1)), hk.2⟩, hk.1.2⟩))))); (case aB => exact bsw_); (case aF => exact (fun k_ hk => ⟨(.inr (Nat.le_trans (below_size bsw_) hk)), Kd.freshB (g := gb488) (o := .cells #[.int .i64 ((rd_T26 l0 x8_1).f0), .int .i64 ((rd_T26 l0 x8_1).f1), .int .i64 ((rd_T26 l0 x8_1).f2), .slice A487_3 ((rd_T26 l0 x8_1).f3).length c487_3, .slice A487_4 ((rd_T26 l0 x8_1).f4).length c487_4] 26 (0, 0)) (bq_ BK488) k_ hk⟩)); (case aO => exact (Kd.N_mono (nq_ HO_3) (fun _ hk => ⟨hk.1.1, hk.1.2⟩))); (case aS => exact (below_size bsw_)); (case aL => have := LMc6.out; omega); intro v499 w12 ho hb hg hat; rw [← Ny498.out] at ho; replace HO_6 := ak (Kd.V_afterv (ok := (fun k_ => (P0_ k_ ∨ w.heap.size ≤ k_) ∧ some k_ ≠ (.slice Ao14 t495.length co14 : Value).ownBlock ∧ k_ ≠ gb488)) (Kd.V_mono (vq_ HO_6) (fun _ hk => ⟨⟨hk.1.1, ⟨hk.2, hk.1.2.2⟩⟩, hk.1.2.1⟩)) hg hat); replace HL487_3 := ak (Kd.V_afterv (ok := (fun k_ => (P0_ k_ ∨ w.heap.size ≤ k_) ∧ some k_ ≠ (.slice Ao14 t495.length co14 : Value).ownBlock ∧ k_ ≠ gb488)) (Kd.V_mono (vq_ HL487_3) (fun _ hk => ⟨⟨hk.1.1, ⟨hk.2, hk.1.2.2⟩⟩, hk.1.2.1⟩)) hg hat); replace HL487_4 := ak (Kd.V_afterv (ok := (fun k_ => (P0_ k_ ∨ w.heap.size ≤ k_) ∧ some k_ ≠ (.slice Ao14 t495.length co14 : Value).ownBlock ∧ k_ ≠ gb488)) (Kd.V_mono (vq_ HL487_4) (fun _ hk => ⟨⟨hk.1.1, ⟨hk.2, hk.1.2.2⟩⟩, hk.1.2.1⟩)) hg hat); replace BK488 := ak (blk_grown (g := gb488) (o := .cells #[.int .i64 ((rd_T26 l0 x8_1).f0), .int .i64 ((rd_T26 l0 x8_1).f1), .int .i64 ((rd_T26 l0 x8_1).f2), .slice A487_3 ((rd_T26 l0 x8_1).f3).length c487_3, .slice A487_4 ((rd_T26 l0 x8_1).f4).length c487_4] 26 (0, 0)) (bq_ BK488) hg (Kd.N_ne HO_3.out BK488.out (by decide))); replace HO494 := ak (Kd.V_afterv (ok := (fun k_ => (P0_ k_ ∨ w.heap.size ≤ k_) ∧ some k_ ≠ (.slice Ao14 t495.length co14 : Value).ownBlock ∧ k_ ≠ gb488)) (Kd.V_mono (vq_ HO494) (fun _ hk => ⟨⟨hk.1, ⟨hk.2.1, hk.2.2.2⟩⟩, hk.2.2.1⟩)) hg hat); replace HB := ak (hb); replace HO500 := ak (ho); clear HO_3; clear HO497; clear ho hb hg hat))
           go_roundg k1
           case measure => have := HK1.out; omega
           case rel => exact ⟨(y498), (wrap64 (x8_1 + 1)), (by first | rfl | (simp; done) | (simp [*]; done)), H', ⟨by have := HK1.out; omega⟩, ⟨Kd.N_mono (nq_ HO500) (fun _ hk => hk.1)⟩, ⟨Kd.V_mono (vq_ HO_6) (fun _ hk => ⟨hk.1.1, hk.2⟩)⟩, ⟨bsw_⟩⟩
         · rw [if_neg c6] at H
           exact absurd H (by simp)
       · rw [if_neg c4] at H
         exact absurd H (by simp)
     · rw [if_neg c3] at H
       exact absurd H (by simp)
   · rw [if_neg c2] at H
     have c2b0 : decide (x8_1 < (l0.length : Int)) = false := decide_eq_false c2
     clear c2
     obtain rfl := Option.some.inj H
     go_wp2
     go_ret
     exact ⟨_, by first | rfl | (simp [errW_none, errW_some] <;> rfl) | (simp [*, errW_none, errW_some] <;> rfl), nq_ HO_3, bsv_⟩

/-! ### handshakerref07_Same: function 48 -/
def handshakerref07_Same.l0 : Nat → List (S117) → List (S117) → Int → Option (Bool)
 | 0, _, _, _ => none
 | k + 1, x0, x1, x5 => if x5 < (x0.length : Int) then (if 0 ≤ x5 then (if x5 < (x1.length : Int) then (if (!(((rd_T117 x0 x5).f0) == ((rd_T117 x1 x5).f0)) || (!(((rd_T117 x0 x5).f1) == ((rd_T117 x1 x5).f1)))) = true then (some false) else (handshakerref07_Same.l0 k x0 x1 (wrap64 (x5 + 1)))) else (none)) else (none)) else (some true)
def handshakerref07_Same.f (k : Nat) (l0 : List (S117)) (l1 : List (S117)) : Option (Bool) := if (l0.length : Int) = (l1.length : Int) then (handshakerref07_Same.l0 k l0 l1 0) else (some false)
theorem handshakerref07_Same.mono_l : ∀ k, (∀ y0 y1 y2, LeO (handshakerref07_Same.l0 k y0 y1 y2) (handshakerref07_Same.l0 (k + 1) y0 y1 y2))
 | 0 => fun _ _ _ r h => by simp [handshakerref07_Same.l0] at h
 | k + 1 => by
  have ih0 := handshakerref07_Same.mono_l k
  · intro y0 y1 y2
    unfold handshakerref07_Same.l0
    repeat' first
    | (with_reducible exact ih0 _ _ _)
    | (with_reducible exact LeO.refl _)
    | (with_reducible exact LeO.none _)
    | (with_reducible refine LeO.ite ?_ ?_)
    | (with_reducible refine LeO.bind ?_ (fun _ => ?_))
    | exact ih0 _ _ _
    | exact LeO.none _
    | refine LeO.ite ?_ ?_
    | refine LeO.bind ?_ (fun _ => ?_)
theorem handshakerref07_Same.mono : ∀ a0 a1 k, LeO (handshakerref07_Same.f k a0 a1) (handshakerref07_Same.f (k + 1) a0 a1) := by
 intro a0 a1 k
 have ih0 := handshakerref07_Same.mono_l k
 unfold handshakerref07_Same.f
 repeat' first
  | (with_reducible exact ih0 _ _ _)
  | (with_reducible exact LeO.refl _)
  | (with_reducible exact LeO.none _)
  | (with_reducible refine LeO.ite ?_ ?_)
  | (with_reducible refine LeO.bind ?_ (fun _ => ?_))
  | exact ih0 _ _ _
  | exact LeO.none _
  | refine LeO.ite ?_ ?_
  | refine LeO.bind ?_ (fun _ => ?_)
set_option maxHeartbeats 8000000 in
set_option maxRecDepth 100000 in
theorem handshakerref07_Same.calls (k : Nat) (A0 : Option Addr) (c0 : Nat) (l0 : List (S117)) (A1 : Option Addr) (c1 : Nat) (l1 : List (S117)) (r : Bool) (w : World) (hr0 : Kd.C k117 w A0 l0.length l0) (hc0 : l0.length ≤ c0) (hr1 : Kd.C k117 w A1 l1.length l1) (hc1 : l1.length ≤ c1) (h : handshakerref07_Same.f k l0 l1 = some r) :
 Calls Try.prog 48 #[.slice A0 l0.length c0, .slice A1 l1.length c1] w fun e w' => e = .returned (.bool r) ∧ Drawn0 w w' := by
 have hu117 := Try.underlying117
 have HR0 := ak hr0
 have HC0 := ak hc0
 clear hr0 hc0
 have HR1 := ak hr1
 have HC1 := ak hc1
 clear hr1 hc1
 have H : (if (l0.length : Int) = (l1.length : Int) then (handshakerref07_Same.l0 k l0 l1 0) else (some false)) = some r := h
 clear h
 by_cases c3 : (l0.length : Int) = (l1.length : Int)
 · rw [if_pos c3] at H
   have c3b0 : ((l0.length : Int) == (l1.length : Int)) = true := beq_iff_eq.mpr c3
   have c3b1 : ((l0.length : Int) != (l1.length : Int)) = false := bne_eq_false_iff_eq.mpr c3
   have c3b2 : (l0.length == l1.length) = true := by first | simpa using c3 | (simp at c3 ⊢; omega)
   clear c3
   have H' := ak H
   clear H
   go_enter Try.func48, Try.ntmps48
   go_wp2
   repeat (go_quiet (fail); try go_wp2)
   go_loopg [5] k (fun kq v5 w' => ∃ (x5_1 : Int), v5 = .int .i64 x5_1 ∧ Aside0 (handshakerref07_Same.l0 kq l0 l1 x5_1 = some r) ∧ Aside0 (kq ≤ k) ∧ Drawn0 w w')
   case atStart => exact ⟨(0), (by first | rfl | (simp; done) | (simp [*]; done)), H', ⟨Nat.le_refl _⟩, by repeat (first | exact Drawn0.refl _ | apply Drawn0.step)⟩
   case round =>
    clear H'
    try clear c1
    try clear p2
    try clear c3
    try clear c3b0
    try clear c3b1
    try clear c3b2
    obtain ⟨x5_1, rfl, HA, HK1, ⟨m1, rfl⟩⟩ := hrel
    cases gk with
    | zero => exact absurd HA.out (by simp [handshakerref07_Same.l0])
    | succ k1 =>
     have H := HA.out
     clear HA
     simp only [handshakerref07_Same.l0] at H
     by_cases c4 : x5_1 < (l0.length : Int)
     · rw [if_pos c4] at H
       have c4b0 : decide (x5_1 < (l0.length : Int)) = true := decide_eq_true c4
       clear c4
       by_cases c5 : 0 ≤ x5_1
       · rw [if_pos c5] at H
         have c5b0 : decide (0 ≤ x5_1) = true := decide_eq_true c5
         clear c5
         by_cases c6 : x5_1 < (l1.length : Int)
         · rw [if_pos c6] at H
           have c6b0 : decide (x5_1 < (l1.length : Int)) = true := decide_eq_true c6
           clear c6
           by_cases c7 : (!(((rd_T117 l0 x5_1).f0) == ((rd_T117 l1 x5_1).f0)) || (!(((rd_T117 l0 x5_1).f1) == ((rd_T117 l1 x5_1).f1)))) = true
           · rw [if_pos c7] at H
             have c7b0 : (!(((rd_T117 l0 x5_1).f0) == ((rd_T117 l1 x5_1).f0)) || (!(((rd_T117 l0 x5_1).f1) == ((rd_T117 l1 x5_1).f1)))) = true := c7
             clear c7
             obtain rfl := Option.some.inj H
             have p501 : 0 ≤ (x5_1 : Int) := oda_
             have q501 : x5_1 < (l0.length : Int) := oda_
             obtain ⟨ad501, e501, hx501_0, hx501_1⟩ := at_T117 HR0.out x5_1 p501 q501
             cases e501
             replace p501 := eq_true p501
             replace q501 := eq_true q501
             have p502 : 0 ≤ (x5_1 : Int) := oda_
             have q502 : x5_1 < (l1.length : Int) := oda_
             obtain ⟨ad502, e502, hx502_0, hx502_1⟩ := at_T117 HR1.out x5_1 p502 q502
             cases e502
             replace p502 := eq_true p502
             replace q502 := eq_true q502
             go_wp2
             repeat (go_quiet (fail); try go_wp2)
             go_ret
             exact ⟨by first | rfl | (simp; done) | (simp [*]; done), by repeat (first | exact Drawn0.refl _ | apply Drawn0.step)⟩
           · rw [if_neg c7] at H
             have c7b0 : (!(((rd_T117 l0 x5_1).f0) == ((rd_T117 l1 x5_1).f0)) || (!(((rd_T117 l0 x5_1).f1) == ((rd_T117 l1 x5_1).f1)))) = false := by simpa using c7
             clear c7
             have H' := ak H
             clear H
             have p501 : 0 ≤ (x5_1 : Int) := oda_
             have q501 : x5_1 < (l0.length : Int) := oda_
             obtain ⟨ad501, e501, hx501_0, hx501_1⟩ := at_T117 HR0.out x5_1 p501 q501
             cases e501
             replace p501 := eq_true p501
             replace q501 := eq_true q501
             have p502 : 0 ≤ (x5_1 : Int) := oda_
             have q502 : x5_1 < (l1.length : Int) := oda_
             obtain ⟨ad502, e502, hx502_0, hx502_1⟩ := at_T117 HR1.out x5_1 p502 q502
             cases e502
             replace p502 := eq_true p502
             replace q502 := eq_true q502
             go_wp2
             repeat (go_quiet (fail); try go_wp2)
             go_roundg k1
             case measure => have := HK1.out; omega
             case rel => exact ⟨(wrap64 (x5_1 + 1)), (by first | rfl | (simp; done) | (simp [*]; done)), H', ⟨by have := HK1.out; omega⟩, by repeat (first | exact Drawn0.refl _ | apply Drawn0.step)⟩
         · rw [if_neg c6] at H
           exact absurd H (by simp)
       · rw [if_neg c5] at H
         exact absurd H (by simp)
     · rw [if_neg c4] at H
       have c4b0 : decide (x5_1 < (l0.length : Int)) = false := decide_eq_false c4
       clear c4
       obtain rfl := Option.some.inj H
       go_wp2
       repeat (go_quiet (fail); try go_wp2)
       go_ret
       exact ⟨by first | rfl | (simp; done) | (simp [*]; done), by repeat (first | exact Drawn0.refl _ | apply Drawn0.step)⟩
 · rw [if_neg c3] at H
   have c3b0 : ((l0.length : Int) == (l1.length : Int)) = false := beq_eq_false_iff_ne.mpr c3
   have c3b1 : ((l0.length : Int) != (l1.length : Int)) = true := bne_iff_ne.mpr c3
   have c3b2 : (l0.length == l1.length) = false := by first | simpa using c3 | (simp at c3 ⊢; omega)
   obtain rfl := Option.some.inj H
   go_enter Try.func48, Try.ntmps48
   go_wp2
   repeat (go_quiet (fail); try go_wp2)
   go_ret
   exact ⟨by first | rfl | (simp; done) | (simp [*]; done), by repeat (first | exact Drawn0.refl _ | apply Drawn0.step)⟩

end Go.Proofs.Ytjnkpocfmpbpoaa.F
