-- PRINTED by print.py (a twelfth state) out of the translation. Not trusted: Lean checks it.
import Derived.Test.YtjnkpocfmpbpoaaFx0
import Derived.Test.YtjnkpocfmpbpoaaFx7
import Derived.Test.YtjnkpocfmpbpoaaFx8
import Derived.Test.YtjnkpocfmpbpoaaFx10
namespace Go.Proofs.Ytjnkpocfmpbpoaa.F
open Go.Proofs.Ytjnkpocfmpbpoaa.Ho
open Go.RowKit Go.Proofs.YtjnkpocfmpbpoaaW.PrintWords Go.Proofs.YtjnkpocfmpbpoaaW.PrintLast Go.Proofs.YtjnkpocfmpbpoaaW.PrintMore
attribute [local go_sem] max2_int min2_int max_two min_two max_three min_three max_four min_four   -- for this text's walks alone
set_option linter.unusedVariables false
set_option linter.unusedSimpArgs false

/-! ### filter_Woken: function 40 -/
mutual
def filter_Woken.l0 : Nat → List (S26) → List (S98) → List Int → List (S62) → Int → Int → Option (List Int)
 | 0, _, _, _, _, _, _ => none
 | k + 1, x0, x1, x7, x15, x16, x17 => if x17 < x16 then (if 0 ≤ x17 then (if x17 < (x15.length : Int) then (if x7.length < 17592186044416 then (filter_Woken.l0 k x0 x1 (x7 ++ [(rd_T62 x15 x17).f0]) x15 x16 (wrap64 (x17 + 1))) else (none)) else (none)) else (none)) else ((sleep_Of.f k x0 x7).bind fun t286 => (filter_Woken.l1 k x0 x1 ([] : List Int) t286 (t286.length : Int) 0))
def filter_Woken.l1 : Nat → List (S26) → List (S98) → List Int → List Int → Int → Int → Option (List Int)
 | 0, _, _, _, _, _, _ => none
 | k + 1, x0, x1, x8, x29, x30, x31 => if x31 < x30 then (if 0 ≤ x31 then (if x31 < (x29.length : Int) then ((sleep_Find.f k x0 (rd x29 x31)).bind fun bt290 => ((filter_May.f k bt290.1 bt290.2.1 bt290.2.2.1 bt290.2.2.2.1 bt290.2.2.2.2.1 x1).bind fun t301 => (if t301 = true then (if x8.length < 17592186044416 then (filter_Woken.l1 k x0 x1 (x8 ++ [rd x29 x31]) x29 x30 (wrap64 (x31 + 1))) else (none)) else (filter_Woken.l1 k x0 x1 x8 x29 x30 (wrap64 (x31 + 1)))))) else (none)) else (none)) else (some x8)
end
def filter_Woken.f (k : Nat) (l0 : List (S26)) (l1 : List (S98)) (l2 : List (S62)) : Option (List Int) := filter_Woken.l0 k l0 l1 ([] : List Int) l2 (l2.length : Int) 0
theorem filter_Woken.mono_l : ∀ k, (∀ y0 y1 y2 y3 y4 y5, LeO (filter_Woken.l0 k y0 y1 y2 y3 y4 y5) (filter_Woken.l0 (k + 1) y0 y1 y2 y3 y4 y5)) ∧ (∀ y0 y1 y2 y3 y4 y5, LeO (filter_Woken.l1 k y0 y1 y2 y3 y4 y5) (filter_Woken.l1 (k + 1) y0 y1 y2 y3 y4 y5))
 | 0 => ⟨fun _ _ _ _ _ _ r h => by simp [filter_Woken.l0] at h, fun _ _ _ _ _ _ r h => by simp [filter_Woken.l1] at h⟩
 | k + 1 => by
  obtain ⟨ih0, ih1⟩ := filter_Woken.mono_l k
  refine ⟨?_, ?_⟩
  · intro y0 y1 y2 y3 y4 y5
    unfold filter_Woken.l0
    repeat' first
    | (with_reducible exact ih0 _ _ _ _ _ _)
    | (with_reducible exact ih1 _ _ _ _ _ _)
    | (with_reducible exact filter_May.mono _ _ _ _ _ _ _)
    | (with_reducible exact sleep_Find.mono _ _ _)
    | (with_reducible exact sleep_Of.mono _ _ _)
    | (with_reducible exact LeO.refl _)
    | (with_reducible exact LeO.none _)
    | (with_reducible refine LeO.ite ?_ ?_)
    | (with_reducible refine LeO.bind ?_ (fun _ => ?_))
    | exact ih0 _ _ _ _ _ _
    | exact ih1 _ _ _ _ _ _
    | exact filter_May.mono _ _ _ _ _ _ _
    | exact sleep_Find.mono _ _ _
    | exact sleep_Of.mono _ _ _
    | exact LeO.none _
    | refine LeO.ite ?_ ?_
    | refine LeO.bind ?_ (fun _ => ?_)
  · intro y0 y1 y2 y3 y4 y5
    unfold filter_Woken.l1
    repeat' first
    | (with_reducible exact ih0 _ _ _ _ _ _)
    | (with_reducible exact ih1 _ _ _ _ _ _)
    | (with_reducible exact filter_May.mono _ _ _ _ _ _ _)
    | (with_reducible exact sleep_Find.mono _ _ _)
    | (with_reducible exact sleep_Of.mono _ _ _)
    | (with_reducible exact LeO.refl _)
    | (with_reducible exact LeO.none _)
    | (with_reducible refine LeO.ite ?_ ?_)
    | (with_reducible refine LeO.bind ?_ (fun _ => ?_))
    | exact ih0 _ _ _ _ _ _
    | exact ih1 _ _ _ _ _ _
    | exact filter_May.mono _ _ _ _ _ _ _
    | exact sleep_Find.mono _ _ _
    | exact sleep_Of.mono _ _ _
    | exact LeO.none _
    | refine LeO.ite ?_ ?_
    | refine LeO.bind ?_ (fun _ => ?_)
theorem filter_Woken.mono : ∀ a0 a1 a2 k, LeO (filter_Woken.f k a0 a1 a2) (filter_Woken.f (k + 1) a0 a1 a2) := by
 intro a0 a1 a2 k
 obtain ⟨ih0, ih1⟩ := filter_Woken.mono_l k
 unfold filter_Woken.f
 repeat' first
  | (with_reducible exact ih0 _ _ _ _ _ _)
  | (with_reducible exact ih1 _ _ _ _ _ _)
  | (with_reducible exact filter_May.mono _ _ _ _ _ _ _)
  | (with_reducible exact sleep_Find.mono _ _ _)
  | (with_reducible exact sleep_Of.mono _ _ _)
  | (with_reducible exact LeO.refl _)
  | (with_reducible exact LeO.none _)
  | (with_reducible refine LeO.ite ?_ ?_)
  | (with_reducible refine LeO.bind ?_ (fun _ => ?_))
  | exact ih0 _ _ _ _ _ _
  | exact ih1 _ _ _ _ _ _
  | exact filter_May.mono _ _ _ _ _ _ _
  | exact sleep_Find.mono _ _ _
  | exact sleep_Of.mono _ _ _
  | exact LeO.none _
  | refine LeO.ite ?_ ?_
  | refine LeO.bind ?_ (fun _ => ?_)
set_option maxHeartbeats 8000000 in
set_option maxRecDepth 100000 in
theorem filter_Woken.calls (k : Nat) (A0 : Option Addr) (c0 : Nat) (l0 : List (S26)) (A1 : Option Addr) (c1 : Nat) (l1 : List (S98)) (A2 : Option Addr) (c2 : Nat) (l2 : List (S62)) (r : List Int) (w : World) (hr0 : Kd.C k26 w A0 l0.length l0) (hc0 : l0.length ≤ c0) (hr1 : Kd.C k98 w A1 l1.length l1) (hc1 : l1.length ≤ c1) (hr2 : Kd.C k62 w A2 l2.length l2) (hc2 : l2.length ≤ c2) (h : filter_Woken.f k l0 l1 l2 = some r) :
 Calls Try.prog 40 #[.slice A0 l0.length c0, .slice A1 l1.length c1, .slice A2 l2.length c2] w fun e w' => ∃ v0_ : Value, e = .returned (v0_) ∧ Kd.R (Kd.int .i64) 3 w' w.heap.size (fun _ => True) v0_ r ∧ Below w.heap.size w w' := by
 have hu62 := Try.underlying62
 have hu26 := Try.underlying26
 have HR0 := ak hr0
 have HC0 := ak hc0
 clear hr0 hc0
 have HR1 := ak hr1
 have HC1 := ak hc1
 clear hr1 hc1
 have HR2 := ak hr2
 have HC2 := ak hc2
 clear hr2 hc2
 have HB := ak (Below.refl w.heap.size w)
 have H : (filter_Woken.l0 k l0 l1 ([] : List Int) l2 (l2.length : Int) 0) = some r := h
 clear h
 have H' := ak H
 clear H
 go_enter Try.func40, Try.ntmps40
 go_wp2
 go_loopg [7, 17] k (fun kq v7 v17 w' => ∃ (x7_1 : List Int) (x17_1 : Int), v17 = .int .i64 x17_1 ∧ Aside0 (filter_Woken.l0 kq l0 l1 x7_1 l2 (l2.length : Int) x17_1 = some r) ∧ Aside0 (kq ≤ k) ∧ Aside0 (Kd.R (Kd.int .i64) 3 w' w.heap.size (fun _ => True) v7 x7_1) ∧ Aside0 (Below w.heap.size w w'))
 case atStart => exact ⟨(([] : List Int)), (0), (by first | rfl | (simp; done) | (simp [*]; done)), H', ⟨Nat.le_refl _⟩, ⟨by first | exact Kd.R_nil _ _ _ _ _ | exact Kd.N_nil _ _ _ _ _ | exact Kd.V_nil _ _ _ _ _ | exact Kd.Q_nil _ _ _ _ _ | exact Kd.S_nil _ _ _ _ _⟩, ⟨bsv_⟩⟩
 case round =>
  clear H'
  try clear c1
  try clear c2
  try clear p2
  obtain ⟨x7_1, x17_1, rfl, HA, HK1, HO_7, HB⟩ := hrel
  cases gk with
  | zero => exact absurd HA.out (by simp [filter_Woken.l0])
  | succ k1 =>
   have H := HA.out
   clear HA
   simp only [filter_Woken.l0] at H
   by_cases c4 : x17_1 < (l2.length : Int)
   · rw [if_pos c4] at H
     have c4b0 : decide (x17_1 < (l2.length : Int)) = true := decide_eq_true c4
     clear c4
     by_cases c5 : 0 ≤ x17_1
     · rw [if_pos c5] at H
       have c5b0 : decide (0 ≤ x17_1) = true := decide_eq_true c5
       clear c5
       by_cases c6 : x17_1 < (l2.length : Int)
       · rw [if_pos c6] at H
         have c6b0 : decide (x17_1 < (l2.length : Int)) = true := decide_eq_true c6
         clear c6
         by_cases c7 : x7_1.length < 17592186044416
         · rw [if_pos c7] at H
           have LMc7 := ak c7
           clear c7
           obtain ⟨y283, hy283⟩ : ∃ y_ : List Int, y_ = (x7_1 ++ [(rd_T62 l2 x17_1).f0]) := ⟨_, rfl⟩
           replace H : (filter_Woken.l0 k1 l0 l1 y283 l2 (l2.length : Int) (wrap64 (x17_1 + 1))) = some r := by first | (rw [hy283]; with_reducible exact H) | (have H2_ := (Option.bind_some _ _).symm.trans H; rw [hy283]; with_reducible exact H2_) | (have H2_ := (Option.bind_some _ _).symm.trans H; with_reducible exact H2_) | with_reducible exact H | (rw [hy283]; exact H) | exact H
           have Ny283 := ak hy283
           clear hy283
           have H' := ak H
           clear H
           have p281 : 0 ≤ (x17_1 : Int) := oda_
           have q281 : x17_1 < (l2.length : Int) := oda_
           obtain ⟨ad281, e281, hx281_0, hx281_1⟩ := at_T62 HR2.out x17_1 p281 q281
           cases e281
           replace hx281_0 := bl_ HB hx281_0
           replace hx281_1 := bl_ HB hx281_1
           replace p281 := eq_true p281
           replace q281 := eq_true q281
           go_wp2_with (first | ((with_reducible refine gate_dst (N := 10) rfl ?_); refine box_event ?hg (N := 10) ?hd (cs := #[.int .i64 0, .int .i64 0]) (t := 62) ?hr ?_; (case hd => rfl); (case hg => rfl); (case hr => first | (go_simp; done) | (go_simp; rfl)); intro gb282 hg w8 hbox hb; replace HO_7 := rb_ HO_7 hb; replace BK282 := ak (hbox); replace GW282 := ak ((by rw [hg]; exact bsz_ : w.heap.size ≤ gb282)); replace HB := ak (bst_ hb); replace GE282 := GW282; clear hb hbox hg; obtain ⟨hcz9_0, hcz9_1, hfz9_0, hfz9_1⟩ := bz2_ BK282) | ((with_reducible refine gate_builtin (b := .append) (xs := #[.tmp 21, .tmp 24]) rfl ?_); at_builtin; refine Kd.R_append (Kd.int .i64) (w0 := w) w.heap.size rfl (.tmp 21) (.tmp 24) 27 3 (.int .i64 0) 8 rfl Try.underlying27 info3 rfl (by decide) (by omega) u7 x7_1 ((rd_T62 l2 x17_1).f0) [.int .i64 ((rd_T62 l2 x17_1).f0)] (fun _ => True) (fun _ => False) rfl (by first | (go_simp; done) | (go_simp; rfl)) ?aP (fun _ hk => hk.elim) ?aF ?aO ?aB ?aS ?aL ?_; (case aP => exact rfl); (case aB => exact bsw_); (case aF => exact (fun _ _ => trivial)); (case aO => exact (by (with_reducible repeat (first | apply Kd.R_alloc | apply Kd.R_drewN | apply Kd.R_drew)); exact Kd.R_mono (Kd.R_far (p := ⟨gb282, 1, none⟩) (Kd.R_far (p := ⟨gb282, 0, none⟩) (Kd.R_types HO_7.out BK282.out (by decide)) (fun _ hk => hk.2) (.int .i64 ((rd_T62 l2 x17_1).f0))) (fun _ hk => hk.2) (.int .i64 ((rd_T62 l2 x17_1).f1))) (fun _ hk => trivial))); (case aS => exact (below_size bsw_)); (case aL => have := LMc7.out; omega); intro v284 w10 ho hb hg hat; rw [← Ny283.out] at ho; replace BK282 := ak (blk_grown (g := gb282) (o := .cells #[.int .i64 ((rd_T62 l2 x17_1).f0), .int .i64 ((rd_T62 l2 x17_1).f1)] 62 (0, 0)) (by (with_reducible repeat (first | refine blk_drewN ?_ _ | refine blk_drew ?_ | refine blk_alloc ?_ _)); refine blk_put (cs := #[.int .i64 ((rd_T62 l2 x17_1).f0), .int .i64 0]) ?_ 1 _ rfl; (with_reducible repeat (first | refine blk_drewN ?_ _ | refine blk_drew ?_ | refine blk_alloc ?_ _)); refine blk_put (cs := #[.int .i64 0, .int .i64 0]) ?_ 0 _ rfl; (with_reducible repeat (first | refine blk_drewN ?_ _ | refine blk_drew ?_ | refine blk_alloc ?_ _)); exact BK282.out) hg (Kd.R_ne HO_7.out BK282.out (by decide))); replace HB := ak (hb); replace HO285 := ak (ho); clear HO_7; clear ho hb hg hat))
           go_roundg k1
           case measure => have := HK1.out; omega
           case rel => exact ⟨(y283), (wrap64 (x17_1 + 1)), (by first | rfl | (simp; done) | (simp [*]; done)), H', ⟨by have := HK1.out; omega⟩, ⟨rq_ HO285⟩, ⟨bsw_⟩⟩
         · rw [if_neg c7] at H
           exact absurd H (by simp)
       · rw [if_neg c6] at H
         exact absurd H (by simp)
     · rw [if_neg c5] at H
       exact absurd H (by simp)
   · rw [if_neg c4] at H
     have c4b0 : decide (x17_1 < (l2.length : Int)) = false := decide_eq_false c4
     clear c4
     obtain ⟨t286, A11, H⟩ := bd_ H
     have H' := ak H
     clear H
     obtain ⟨Ao12, co12, eo12⟩ := Kd.R_slice HO_7.out
     subst eo12
     go_wp2_with (first | ((with_reducible refine gate_callee (f := 29) rfl ?_); refine goesL_ (some 29) rfl rfl Try.func29 (by kernel_rfl) rfl #[.slice A0 l0.length c0, .slice Ao12 x7_1.length co12] rfl mp_ ?_; (with_reducible refine (sleep_Of.calls k1 _ _ l0 _ _ x7_1 t286 _ ?side1 ?side2 ?side3 ?side4 A11.out).mono ?_); (case side1 => repeat (first | exact (Kd.C_below HR0.out HB.out) | with_reducible first | refine Kd.C_alloc ?_ _ | refine Kd.C_drewN ?_ _ | refine Kd.C_drew ?_)); (case side2 => exact HC0.out); (case side3 => repeat (first | exact (Kd.R_reads' HO_7.out).2.2 | with_reducible first | refine Kd.C_alloc ?_ _ | refine Kd.C_drewN ?_ _ | refine Kd.C_drew ?_)); (case side4 => exact (Kd.R_reads' HO_7.out).2.1); rintro e w13 ⟨v287, rfl, ho0, hb⟩; refine ⟨_, rfl, ?_⟩; replace HO288 := ak (Kd.R_lower (Kd.R_new' ho0 (Kd.R_lt (rq_ HO_7))) bsz_); replace HO_7 := ak (Kd.R_elder' (rq_ HO_7) (Kd.R_base ho0) hb); replace HB := ak (bst_ hb); (try clear hb); (try clear hb2); (try clear hk); (try clear hi); (try clear ho0); obtain ⟨Ao14, co14, eo14⟩ := Kd.R_slice HO288.out; subst eo14))
     go_loopg [8, 31] k1 (fun kq v8 v31 w' => ∃ (x8_2 : List Int) (x31_2 : Int), v31 = .int .i64 x31_2 ∧ Aside0 (filter_Woken.l1 kq l0 l1 x8_2 t286 (t286.length : Int) x31_2 = some r) ∧ Aside0 (kq ≤ k1) ∧ Aside0 (Kd.R (Kd.int .i64) 3 w' w.heap.size (fun k_ => some k_ ≠ ((.slice Ao14 t286.length co14) : Value).ownBlock) v8 x8_2) ∧ Aside0 (Kd.R (Kd.int .i64) 3 w' w.heap.size (fun k_ => some k_ ≠ (v8 : Value).ownBlock) (.slice Ao14 t286.length co14) t286) ∧ Aside0 (Below w.heap.size w w'))
     case atStart => exact ⟨(([] : List Int)), (0), (by first | rfl | (simp; done) | (simp [*]; done)), H', ⟨Nat.le_refl _⟩, ⟨by first | exact Kd.R_nil _ _ _ _ _ | exact Kd.N_nil _ _ _ _ _ | exact Kd.V_nil _ _ _ _ _ | exact Kd.Q_nil _ _ _ _ _ | exact Kd.S_nil _ _ _ _ _⟩, ⟨Kd.R_mono (rq_ HO288) (fun _ hk => (by simp [Value.ownBlock]))⟩, ⟨bsv_⟩⟩
     case round =>
      clear H'
      try clear c1
      try clear c2
      try clear p2
      try clear q2
      try clear hx2
      try clear c4
      try clear c4b0
      try clear c5
      try clear c5b0
      try clear c6
      try clear c6b0
      try clear p6
      try clear c7
      try clear hcz9_0
      try clear hcz9_1
      try clear hfz9_0
      try clear hfz9_1
      try clear hx281_0
      try clear hx281_1
      try clear p2
      try clear p281
      try clear q281
      obtain ⟨x8_2, x31_2, rfl, HA, HK2, HO_8, HO_29, HB⟩ := hrel
      cases gk with
      | zero => exact absurd HA.out (by simp [filter_Woken.l1])
      | succ k2 =>
       have H := HA.out
       clear HA
       simp only [filter_Woken.l1] at H
       by_cases c15 : x31_2 < (t286.length : Int)
       · rw [if_pos c15] at H
         have c15b0 : decide (x31_2 < (t286.length : Int)) = true := decide_eq_true c15
         clear c15
         by_cases c16 : 0 ≤ x31_2
         · rw [if_pos c16] at H
           have c16b0 : decide (0 ≤ x31_2) = true := decide_eq_true c16
           clear c16
           by_cases c17 : x31_2 < (t286.length : Int)
           · rw [if_pos c17] at H
             have c17b0 : decide (x31_2 < (t286.length : Int)) = true := decide_eq_true c17
             clear c17
             replace H := Option.bind_eq_some_iff.mp H
             obtain ⟨⟨t290, t291, t292, t293, t296, t299⟩, A180, H⟩ := H
             have A18 := ak A180
             clear A180
             obtain ⟨t301, A19, H⟩ := bd_ H
             by_cases c20 : t301 = true
             · subst c20
               rw [if_pos rfl] at H
               by_cases c21 : x8_2.length < 17592186044416
               · rw [if_pos c21] at H
                 have LMc21 := ak c21
                 clear c21
                 obtain ⟨y302, hy302⟩ : ∃ y_ : List Int, y_ = (x8_2 ++ [rd t286 x31_2]) := ⟨_, rfl⟩
                 replace H : (filter_Woken.l1 k2 l0 l1 y302 t286 (t286.length : Int) (wrap64 (x31_2 + 1))) = some r := by first | (rw [hy302]; with_reducible exact H) | (have H2_ := (Option.bind_some _ _).symm.trans H; rw [hy302]; with_reducible exact H2_) | (have H2_ := (Option.bind_some _ _).symm.trans H; with_reducible exact H2_) | with_reducible exact H | (rw [hy302]; exact H) | exact H
                 have Ny302 := ak hy302
                 clear hy302
                 have H' := ak H
                 clear H
                 have p289 : 0 ≤ (x31_2 : Int) := oda_
                 have q289 : x31_2 < (t286.length : Int) := oda_
                 obtain ⟨ad289, e289, hx289_0⟩ := Kd.at_int (Kd.R_reads' HO_29.out).2.2 x31_2 p289 q289
                 cases e289
                 replace p289 := eq_true p289
                 replace q289 := eq_true q289
                 go_wp2_with (first | ((with_reducible refine gate_callee (f := 23) rfl ?_); refine goesL_ (some 38) rfl rfl Try.func23 (by kernel_rfl) rfl #[.slice A0 l0.length c0, .int .i64 (rd t286 x31_2)] rfl mp_ ?_; (with_reducible refine (sleep_Find.calls k2 (fun k_ => k_ < w.heap.size) _ _ l0 (rd t286 x31_2) t290 t291 t292 t293 t296 t299 _ ?side1 A18.out).mono ?_); (case side1 => exact Kd.V_mk HC0.out (Kd.F_below (Kd.C_F k26_heap HR0.out) bsv_)); rintro e w22 ⟨v294, v297, rfl, ho0, ho1, hb⟩; refine ⟨_, rfl, ?_⟩; replace HO295 := ak (Kd.V_lower (Kd.V_mono (ok' := fun k_ => some k_ ≠ (u8 : Value).ownBlock ∧ some k_ ≠ (.slice (some ad289) t286.length co14 : Value).ownBlock) ho0 (fun k_ hk_ => ⟨Or.elim hk_ (fun hs_ => fun e_ => Nat.not_le.2 hs_ (Kd.R_base HO_8.out k_ e_.symm)) (fun hn_ => (Kd.fresh' (Kd.R_lt (rq_ HO_8)) k_ hn_)), Or.elim hk_ (fun hs_ => fun e_ => Nat.not_le.2 hs_ (Kd.R_base HO_29.out k_ e_.symm)) (fun hn_ => (Kd.fresh' (Kd.R_lt (rq_ HO_29)) k_ hn_))⟩)) bsz_); replace HO298 := ak (Kd.V_lower (Kd.V_mono (ok' := fun k_ => some k_ ≠ (u8 : Value).ownBlock ∧ some k_ ≠ (.slice (some ad289) t286.length co14 : Value).ownBlock) ho1 (fun k_ hk_ => ⟨Or.elim hk_ (fun hs_ => fun e_ => Nat.not_le.2 hs_ (Kd.R_base HO_8.out k_ e_.symm)) (fun hn_ => (Kd.fresh' (Kd.R_lt (rq_ HO_8)) k_ hn_)), Or.elim hk_ (fun hs_ => fun e_ => Nat.not_le.2 hs_ (Kd.R_base HO_29.out k_ e_.symm)) (fun hn_ => (Kd.fresh' (Kd.R_lt (rq_ HO_29)) k_ hn_))⟩)) bsz_); replace HO_8 := rb_ HO_8 hb; replace HO_29 := rb_ HO_29 hb; replace HB := ak (bst_ hb); (try clear hb); (try clear hb2); (try clear hk); (try clear hi); (try clear ho0); (try clear ho1)) | ((with_reducible refine gate_dst (N := 13) rfl ?_); refine box_event ?hg (N := 13) ?hd (cs := #[.int .i64 0, .int .i64 0, .int .i64 0, .slice none 0 0, .slice none 0 0]) (t := 26) ?hr ?_; (case hd => rfl); (case hg => rfl); (case hr => first | (go_simp; done) | (go_simp; rfl)); intro gb300 hg w23 hbox hb; replace HO_8 := rb_ HO_8 hb; replace HO_29 := rb_ HO_29 hb; replace HO295 := ak (Kd.V_below (Kd.V_elderB (vq_ HO295) gb300 (Nat.le_of_eq hg.symm)) hb); replace HO298 := ak (Kd.V_below (Kd.V_elderB (vq_ HO298) gb300 (Nat.le_of_eq hg.symm)) hb); replace BK300 := ak (hbox); replace GW300 := ak ((by rw [hg]; exact bsz_ : w.heap.size ≤ gb300)); replace HB := ak (bst_ hb); replace GE300 := GW300; clear hb hbox hg; obtain ⟨hcz24_0, hcz24_1, hcz24_2, hcz24_3, hcz24_4, hfz24_0, hfz24_1, hfz24_2, hfz24_3, hfz24_4⟩ := bz5_ BK300; obtain ⟨Ao25, co25, eo25⟩ := Kd.V_slice HO295.out; subst eo25; obtain ⟨Ao26, co26, eo26⟩ := Kd.V_slice HO298.out; subst eo26) | ((with_reducible refine gate_store (t := 26) (p := 13) rfl ?_); refine store_event (t := 26) (p := 13) (v := ?vo_w27) (w1 := (((((w23.setCell ⟨gb300, 0, none⟩ (.int .i64 t290)).setCell ⟨gb300, 1, none⟩ (.int .i64 t291)).setCell ⟨gb300, 2, none⟩ (.int .i64 t292)).setCell ⟨gb300, 3, none⟩ (.slice Ao25 t293.length co25)).setCell ⟨gb300, 4, none⟩ (.slice Ao26 t296.length co26))) ?hg ?ho ?hn ?hr ?_; (case ho => rfl); (case hg => rfl); (case hn => rfl); (case hr => first | (go_simp; done) | (go_simp; rfl)); intro w27 hw; have n0_ : Aside0 (Kd.R (Kd.int .i64) 3 w27 w.heap.size (fun k_ => some k_ ≠ (.slice (some ad289) t286.length co14 : Value).ownBlock) u8 x8_2) := ⟨(by rw [hw]; exact (by (with_reducible repeat (first | apply Kd.R_alloc | apply Kd.R_drewN | apply Kd.R_drew)); exact Kd.R_mono (Kd.R_far (p := ⟨gb300, 4, none⟩) (Kd.R_far (p := ⟨gb300, 3, none⟩) (Kd.R_far (p := ⟨gb300, 2, none⟩) (Kd.R_far (p := ⟨gb300, 1, none⟩) (Kd.R_far (p := ⟨gb300, 0, none⟩) (Kd.R_types HO_8.out BK300.out (by decide)) (fun _ hk => hk.2) (.int .i64 t290)) (fun _ hk => hk.2) (.int .i64 t291)) (fun _ hk => hk.2) (.int .i64 t292)) (fun _ hk => hk.2) (.slice Ao25 t293.length co25)) (fun _ hk => hk.2) (.slice Ao26 t296.length co26)) (fun _ hk => hk.1)))⟩; have n1_ : Aside0 (Kd.R (Kd.int .i64) 3 w27 w.heap.size (fun k_ => some k_ ≠ (u8 : Value).ownBlock) (.slice (some ad289) t286.length co14) t286) := ⟨(by rw [hw]; exact (by (with_reducible repeat (first | apply Kd.R_alloc | apply Kd.R_drewN | apply Kd.R_drew)); exact Kd.R_mono (Kd.R_far (p := ⟨gb300, 4, none⟩) (Kd.R_far (p := ⟨gb300, 3, none⟩) (Kd.R_far (p := ⟨gb300, 2, none⟩) (Kd.R_far (p := ⟨gb300, 1, none⟩) (Kd.R_far (p := ⟨gb300, 0, none⟩) (Kd.R_types HO_29.out BK300.out (by decide)) (fun _ hk => hk.2) (.int .i64 t290)) (fun _ hk => hk.2) (.int .i64 t291)) (fun _ hk => hk.2) (.int .i64 t292)) (fun _ hk => hk.2) (.slice Ao25 t293.length co25)) (fun _ hk => hk.2) (.slice Ao26 t296.length co26)) (fun _ hk => hk.1)))⟩; have n2_ : Aside0 (Kd.V k62 62 w27 w.heap.size (fun k_ => some k_ ≠ (u8 : Value).ownBlock ∧ some k_ ≠ (.slice (some ad289) t286.length co14 : Value).ownBlock ∧ k_ ≠ gb300) (.slice Ao25 t293.length co25) t293) := ⟨(by rw [hw]; exact (by (with_reducible repeat (first | apply Kd.V_alloc | apply Kd.V_drewN | apply Kd.V_drew)); exact Kd.V_mono (Kd.V_far (p := ⟨gb300, 4, none⟩) (Kd.V_far (p := ⟨gb300, 3, none⟩) (Kd.V_far (p := ⟨gb300, 2, none⟩) (Kd.V_far (p := ⟨gb300, 1, none⟩) (Kd.V_far (p := ⟨gb300, 0, none⟩) (Kd.V_mono HO295.out (fun k_ hk => (⟨hk, hk.2⟩ : _ ∧ k_ ≠ gb300))) (fun _ hk => hk.2) (.int .i64 t290)) (fun _ hk => hk.2) (.int .i64 t291)) (fun _ hk => hk.2) (.int .i64 t292)) (fun _ hk => hk.2) (.slice Ao25 t293.length co25)) (fun _ hk => hk.2) (.slice Ao26 t296.length co26)) (fun _ hk => ⟨hk.1.1.1, ⟨hk.1.1.2, hk.1.2⟩⟩)))⟩; have n3_ : Aside0 (Kd.V k80 80 w27 w.heap.size (fun k_ => some k_ ≠ (u8 : Value).ownBlock ∧ some k_ ≠ (.slice (some ad289) t286.length co14 : Value).ownBlock ∧ k_ ≠ gb300) (.slice Ao26 t296.length co26) t296) := ⟨(by rw [hw]; exact (by (with_reducible repeat (first | apply Kd.V_alloc | apply Kd.V_drewN | apply Kd.V_drew)); exact Kd.V_mono (Kd.V_far (p := ⟨gb300, 4, none⟩) (Kd.V_far (p := ⟨gb300, 3, none⟩) (Kd.V_far (p := ⟨gb300, 2, none⟩) (Kd.V_far (p := ⟨gb300, 1, none⟩) (Kd.V_far (p := ⟨gb300, 0, none⟩) (Kd.V_mono HO298.out (fun k_ hk => (⟨hk, hk.2⟩ : _ ∧ k_ ≠ gb300))) (fun _ hk => hk.2) (.int .i64 t290)) (fun _ hk => hk.2) (.int .i64 t291)) (fun _ hk => hk.2) (.int .i64 t292)) (fun _ hk => hk.2) (.slice Ao25 t293.length co25)) (fun _ hk => hk.2) (.slice Ao26 t296.length co26)) (fun _ hk => ⟨hk.1.1.1, ⟨hk.1.1.2, hk.1.2⟩⟩)))⟩; have n4_ : Aside0 (w27.heap[gb300]? = some (.cells #[.int .i64 t290, .int .i64 t291, .int .i64 t292, .slice Ao25 t293.length co25, .slice Ao26 t296.length co26] 26 (0, 0))) := ⟨(by rw [hw]; exact (by (with_reducible repeat (first | refine blk_drewN ?_ _ | refine blk_drew ?_ | refine blk_alloc ?_ _)); refine blk_put (cs := #[.int .i64 t290, .int .i64 t291, .int .i64 t292, .slice Ao25 t293.length co25, .slice none 0 0]) ?_ 4 _ rfl; (with_reducible repeat (first | refine blk_drewN ?_ _ | refine blk_drew ?_ | refine blk_alloc ?_ _)); refine blk_put (cs := #[.int .i64 t290, .int .i64 t291, .int .i64 t292, .slice none 0 0, .slice none 0 0]) ?_ 3 _ rfl; (with_reducible repeat (first | refine blk_drewN ?_ _ | refine blk_drew ?_ | refine blk_alloc ?_ _)); refine blk_put (cs := #[.int .i64 t290, .int .i64 t291, .int .i64 0, .slice none 0 0, .slice none 0 0]) ?_ 2 _ rfl; (with_reducible repeat (first | refine blk_drewN ?_ _ | refine blk_drew ?_ | refine blk_alloc ?_ _)); refine blk_put (cs := #[.int .i64 t290, .int .i64 0, .int .i64 0, .slice none 0 0, .slice none 0 0]) ?_ 1 _ rfl; (with_reducible repeat (first | refine blk_drewN ?_ _ | refine blk_drew ?_ | refine blk_alloc ?_ _)); refine blk_put (cs := #[.int .i64 0, .int .i64 0, .int .i64 0, .slice none 0 0, .slice none 0 0]) ?_ 0 _ rfl; (with_reducible repeat (first | refine blk_drewN ?_ _ | refine blk_drew ?_ | refine blk_alloc ?_ _)); exact BK300.out))⟩; have n5_ : Aside0 (Below w.heap.size w w27) := ⟨(by rw [hw]; exact bsw_)⟩; clear hw; clear HO_8; clear HO_29; clear HO295; clear HO298; clear BK300; clear HB; have HO_8 := n0_; have HO_29 := n1_; have HO295 := n2_; have HO298 := n3_; have BK300 := n4_; have HB := n5_; clear n0_ n1_ n2_ n3_ n4_ n5_; obtain ⟨hcz28_0, hcz28_1, hcz28_2, hcz28_3, hcz28_4, hfz28_0, hfz28_1, hfz28_2, hfz28_3, hfz28_4⟩ := bz5_ BK300) | ((with_reducible refine gate_callee (f := 37) rfl ?_); refine goesL_ (some 43) rfl rfl Try.func37 (by kernel_rfl) rfl #[.agg #[.int .i64 t290, .int .i64 t291, .int .i64 t292, .slice Ao25 t293.length co25, .slice Ao26 t296.length co26], .slice A1 l1.length c1] rfl mp_ ?_; (with_reducible refine (filter_May.calls k2 t290 t291 t292 (fun k_ => (some k_ ≠ (u8 : Value).ownBlock ∧ (some k_ ≠ (.slice (some ad289) t286.length co14 : Value).ownBlock ∧ k_ ≠ gb300))) _ _ t293 (fun k_ => (some k_ ≠ (u8 : Value).ownBlock ∧ (some k_ ≠ (.slice (some ad289) t286.length co14 : Value).ownBlock ∧ k_ ≠ gb300))) _ _ t296 _ _ l1 true _ ?side1 ?side2 ?side3 ?side4 A19.out).mono ?_); (case side1 => exact HO295.out); (case side2 => exact HO298.out); (case side3 => repeat (first | exact (Kd.C_below HR1.out HB.out) | with_reducible first | refine Kd.C_alloc ?_ _ | refine Kd.C_drewN ?_ _ | refine Kd.C_drew ?_)); (case side4 => exact HC1.out); rintro e w29 ⟨rfl, hb⟩; refine ⟨_, rfl, ?_⟩; replace HO_8 := rb_ HO_8 hb; replace HO_29 := rb_ HO_29 hb; replace HO295 := vb_ HO295 hb; replace HO298 := vb_ HO298 hb; replace BK300 := bb_ BK300 hb; replace HB := ak (below_step bsw_ hb); (try clear hb); (try clear hb2); (try clear hk); (try clear hi)) | ((with_reducible refine gate_builtin (b := .append) (xs := #[.tmp 44, .tmp 46]) rfl ?_); at_builtin; refine Kd.R_append (Kd.int .i64) (w0 := w) w.heap.size rfl (.tmp 44) (.tmp 46) 27 3 (.int .i64 0) 8 rfl Try.underlying27 info3 rfl (by decide) (by omega) u8 x8_2 (rd t286 x31_2) [.int .i64 (rd t286 x31_2)] (fun k_ => some k_ ≠ (.slice (some ad289) t286.length co14 : Value).ownBlock) (fun _ => False) rfl rfl ?aP (fun _ hk => hk.elim) ?aF ?aO ?aB ?aS ?aL ?_; (case aP => exact rfl); (case aB => exact bsw_); (case aF => exact (fun k_ hk => Kd.fresh' (Kd.R_lt (rq_ HO_29)) k_ hk)); (case aO => exact (rq_ HO_8)); (case aS => exact (below_size bsw_)); (case aL => have := LMc21.out; omega); intro v303 w30 ho hb hg hat; rw [← Ny302.out] at ho; replace HO_29 := ak (Kd.R_after (ok := (fun _ => True)) (Kd.R_mono (rq_ HO_29) (fun _ hk => ⟨trivial, hk⟩)) hg hat); replace HO295 := ak (Kd.V_afterv (ok := (fun k_ => some k_ ≠ (.slice (some ad289) t286.length co14 : Value).ownBlock ∧ k_ ≠ gb300)) (Kd.V_mono (vq_ HO295) (fun _ hk => ⟨⟨hk.2.1, hk.2.2⟩, hk.1⟩)) hg hat); replace HO298 := ak (Kd.V_afterv (ok := (fun k_ => some k_ ≠ (.slice (some ad289) t286.length co14 : Value).ownBlock ∧ k_ ≠ gb300)) (Kd.V_mono (vq_ HO298) (fun _ hk => ⟨⟨hk.2.1, hk.2.2⟩, hk.1⟩)) hg hat); replace BK300 := ak (blk_grown (g := gb300) (o := .cells #[.int .i64 t290, .int .i64 t291, .int .i64 t292, .slice Ao25 t293.length co25, .slice Ao26 t296.length co26] 26 (0, 0)) (bq_ BK300) hg (Kd.R_ne HO_8.out BK300.out (by decide))); replace HB := ak (hb); replace HO304 := ak (ho); clear HO_8; clear ho hb hg hat))
                 go_roundg k2
                 case measure => have := HK1.out; have := HK2.out; omega
                 case rel => exact ⟨(y302), (wrap64 (x31_2 + 1)), (by first | rfl | (simp; done) | (simp [*]; done)), H', ⟨by have := HK1.out; have := HK2.out; omega⟩, ⟨rq_ HO304⟩, ⟨Kd.R_mono (rq_ HO_29) (fun _ hk => hk.2)⟩, ⟨bsw_⟩⟩
               · rw [if_neg c21] at H
                 exact absurd H (by simp)
             · replace c20 := Bool.eq_false_iff.mpr c20
               subst c20
               rw [if_neg (show ¬ (false = true) by decide)] at H
               have H' := ak H
               clear H
               have p289 : 0 ≤ (x31_2 : Int) := oda_
               have q289 : x31_2 < (t286.length : Int) := oda_
               obtain ⟨ad289, e289, hx289_0⟩ := Kd.at_int (Kd.R_reads' HO_29.out).2.2 x31_2 p289 q289
               cases e289
               replace p289 := eq_true p289
               replace q289 := eq_true q289
               go_wp2_with (first | ((with_reducible refine gate_callee (f := 23) rfl ?_); refine goesL_ (some 38) rfl rfl Try.func23 (by kernel_rfl) rfl #[.slice A0 l0.length c0, .int .i64 (rd t286 x31_2)] rfl mp_ ?_; (with_reducible refine (sleep_Find.calls k2 (fun k_ => k_ < w.heap.size) _ _ l0 (rd t286 x31_2) t290 t291 t292 t293 t296 t299 _ ?side1 A18.out).mono ?_); (case side1 => exact Kd.V_mk HC0.out (Kd.F_below (Kd.C_F k26_heap HR0.out) bsv_)); rintro e w31 ⟨v294, v297, rfl, ho0, ho1, hb⟩; refine ⟨_, rfl, ?_⟩; replace HO295 := ak (Kd.V_lower (Kd.V_mono (ok' := fun k_ => some k_ ≠ (u8 : Value).ownBlock ∧ some k_ ≠ (.slice (some ad289) t286.length co14 : Value).ownBlock) ho0 (fun k_ hk_ => ⟨Or.elim hk_ (fun hs_ => fun e_ => Nat.not_le.2 hs_ (Kd.R_base HO_8.out k_ e_.symm)) (fun hn_ => (Kd.fresh' (Kd.R_lt (rq_ HO_8)) k_ hn_)), Or.elim hk_ (fun hs_ => fun e_ => Nat.not_le.2 hs_ (Kd.R_base HO_29.out k_ e_.symm)) (fun hn_ => (Kd.fresh' (Kd.R_lt (rq_ HO_29)) k_ hn_))⟩)) bsz_); replace HO298 := ak (Kd.V_lower (Kd.V_mono (ok' := fun k_ => some k_ ≠ (u8 : Value).ownBlock ∧ some k_ ≠ (.slice (some ad289) t286.length co14 : Value).ownBlock) ho1 (fun k_ hk_ => ⟨Or.elim hk_ (fun hs_ => fun e_ => Nat.not_le.2 hs_ (Kd.R_base HO_8.out k_ e_.symm)) (fun hn_ => (Kd.fresh' (Kd.R_lt (rq_ HO_8)) k_ hn_)), Or.elim hk_ (fun hs_ => fun e_ => Nat.not_le.2 hs_ (Kd.R_base HO_29.out k_ e_.symm)) (fun hn_ => (Kd.fresh' (Kd.R_lt (rq_ HO_29)) k_ hn_))⟩)) bsz_); replace HO_8 := rb_ HO_8 hb; replace HO_29 := rb_ HO_29 hb; replace HB := ak (bst_ hb); (try clear hb); (try clear hb2); (try clear hk); (try clear hi); (try clear ho0); (try clear ho1)) | ((with_reducible refine gate_dst (N := 13) rfl ?_); refine box_event ?hg (N := 13) ?hd (cs := #[.int .i64 0, .int .i64 0, .int .i64 0, .slice none 0 0, .slice none 0 0]) (t := 26) ?hr ?_; (case hd => rfl); (case hg => rfl); (case hr => first | (go_simp; done) | (go_simp; rfl)); intro gb300 hg w32 hbox hb; replace HO_8 := rb_ HO_8 hb; replace HO_29 := rb_ HO_29 hb; replace HO295 := ak (Kd.V_below (Kd.V_elderB (vq_ HO295) gb300 (Nat.le_of_eq hg.symm)) hb); replace HO298 := ak (Kd.V_below (Kd.V_elderB (vq_ HO298) gb300 (Nat.le_of_eq hg.symm)) hb); replace BK300 := ak (hbox); replace GW300 := ak ((by rw [hg]; exact bsz_ : w.heap.size ≤ gb300)); replace HB := ak (bst_ hb); replace GE300 := GW300; clear hb hbox hg; obtain ⟨hcz33_0, hcz33_1, hcz33_2, hcz33_3, hcz33_4, hfz33_0, hfz33_1, hfz33_2, hfz33_3, hfz33_4⟩ := bz5_ BK300; obtain ⟨Ao34, co34, eo34⟩ := Kd.V_slice HO295.out; subst eo34; obtain ⟨Ao35, co35, eo35⟩ := Kd.V_slice HO298.out; subst eo35) | ((with_reducible refine gate_store (t := 26) (p := 13) rfl ?_); refine store_event (t := 26) (p := 13) (v := ?vo_w36) (w1 := (((((w32.setCell ⟨gb300, 0, none⟩ (.int .i64 t290)).setCell ⟨gb300, 1, none⟩ (.int .i64 t291)).setCell ⟨gb300, 2, none⟩ (.int .i64 t292)).setCell ⟨gb300, 3, none⟩ (.slice Ao34 t293.length co34)).setCell ⟨gb300, 4, none⟩ (.slice Ao35 t296.length co35))) ?hg ?ho ?hn ?hr ?_; (case ho => rfl); (case hg => rfl); (case hn => rfl); (case hr => first | (go_simp; done) | (go_simp; rfl)); intro w36 hw; have n0_ : Aside0 (Kd.R (Kd.int .i64) 3 w36 w.heap.size (fun k_ => some k_ ≠ (.slice (some ad289) t286.length co14 : Value).ownBlock) u8 x8_2) := ⟨(by rw [hw]; exact (by (with_reducible repeat (first | apply Kd.R_alloc | apply Kd.R_drewN | apply Kd.R_drew)); exact Kd.R_mono (Kd.R_far (p := ⟨gb300, 4, none⟩) (Kd.R_far (p := ⟨gb300, 3, none⟩) (Kd.R_far (p := ⟨gb300, 2, none⟩) (Kd.R_far (p := ⟨gb300, 1, none⟩) (Kd.R_far (p := ⟨gb300, 0, none⟩) (Kd.R_types HO_8.out BK300.out (by decide)) (fun _ hk => hk.2) (.int .i64 t290)) (fun _ hk => hk.2) (.int .i64 t291)) (fun _ hk => hk.2) (.int .i64 t292)) (fun _ hk => hk.2) (.slice Ao34 t293.length co34)) (fun _ hk => hk.2) (.slice Ao35 t296.length co35)) (fun _ hk => hk.1)))⟩; have n1_ : Aside0 (Kd.R (Kd.int .i64) 3 w36 w.heap.size (fun k_ => some k_ ≠ (u8 : Value).ownBlock) (.slice (some ad289) t286.length co14) t286) := ⟨(by rw [hw]; exact (by (with_reducible repeat (first | apply Kd.R_alloc | apply Kd.R_drewN | apply Kd.R_drew)); exact Kd.R_mono (Kd.R_far (p := ⟨gb300, 4, none⟩) (Kd.R_far (p := ⟨gb300, 3, none⟩) (Kd.R_far (p := ⟨gb300, 2, none⟩) (Kd.R_far (p := ⟨gb300, 1, none⟩) (Kd.R_far (p := ⟨gb300, 0, none⟩) (Kd.R_types HO_29.out BK300.out (by decide)) (fun _ hk => hk.2) (.int .i64 t290)) (fun _ hk => hk.2) (.int .i64 t291)) (fun _ hk => hk.2) (.int .i64 t292)) (fun _ hk => hk.2) (.slice Ao34 t293.length co34)) (fun _ hk => hk.2) (.slice Ao35 t296.length co35)) (fun _ hk => hk.1)))⟩; have n2_ : Aside0 (Kd.V k62 62 w36 w.heap.size (fun k_ => some k_ ≠ (u8 : Value).ownBlock ∧ some k_ ≠ (.slice (some ad289) t286.length co14 : Value).ownBlock ∧ k_ ≠ gb300) (.slice Ao34 t293.length co34) t293) := ⟨(by rw [hw]; exact (by (with_reducible repeat (first | apply Kd.V_alloc | apply Kd.V_drewN | apply Kd.V_drew)); exact Kd.V_mono (Kd.V_far (p := ⟨gb300, 4, none⟩) (Kd.V_far (p := ⟨gb300, 3, none⟩) (Kd.V_far (p := ⟨gb300, 2, none⟩) (Kd.V_far (p := ⟨gb300, 1, none⟩) (Kd.V_far (p := ⟨gb300, 0, none⟩) (Kd.V_mono HO295.out (fun k_ hk => (⟨hk, hk.2⟩ : _ ∧ k_ ≠ gb300))) (fun _ hk => hk.2) (.int .i64 t290)) (fun _ hk => hk.2) (.int .i64 t291)) (fun _ hk => hk.2) (.int .i64 t292)) (fun _ hk => hk.2) (.slice Ao34 t293.length co34)) (fun _ hk => hk.2) (.slice Ao35 t296.length co35)) (fun _ hk => ⟨hk.1.1.1, ⟨hk.1.1.2, hk.1.2⟩⟩)))⟩; have n3_ : Aside0 (Kd.V k80 80 w36 w.heap.size (fun k_ => some k_ ≠ (u8 : Value).ownBlock ∧ some k_ ≠ (.slice (some ad289) t286.length co14 : Value).ownBlock ∧ k_ ≠ gb300) (.slice Ao35 t296.length co35) t296) := ⟨(by rw [hw]; exact (by (with_reducible repeat (first | apply Kd.V_alloc | apply Kd.V_drewN | apply Kd.V_drew)); exact Kd.V_mono (Kd.V_far (p := ⟨gb300, 4, none⟩) (Kd.V_far (p := ⟨gb300, 3, none⟩) (Kd.V_far (p := ⟨gb300, 2, none⟩) (Kd.V_far (p := ⟨gb300, 1, none⟩) (Kd.V_far (p := ⟨gb300, 0, none⟩) (Kd.V_mono HO298.out (fun k_ hk => (⟨hk, hk.2⟩ : _ ∧ k_ ≠ gb300))) (fun _ hk => hk.2) (.int .i64 t290)) (fun _ hk => hk.2) (.int .i64 t291)) (fun _ hk => hk.2) (.int .i64 t292)) (fun _ hk => hk.2) (.slice Ao34 t293.length co34)) (fun _ hk => hk.2) (.slice Ao35 t296.length co35)) (fun _ hk => ⟨hk.1.1.1, ⟨hk.1.1.2, hk.1.2⟩⟩)))⟩; have n4_ : Aside0 (w36.heap[gb300]? = some (.cells #[.int .i64 t290, .int .i64 t291, .int .i64 t292, .slice Ao34 t293.length co34, .slice Ao35 t296.length co35] 26 (0, 0))) := ⟨(by rw [hw]; exact (by (with_reducible repeat (first | refine blk_drewN ?_ _ | refine blk_drew ?_ | refine blk_alloc ?_ _)); refine blk_put (cs := #[.int .i64 t290, .int .i64 t291, .int .i64 t292, .slice Ao34 t293.length co34, .slice none 0 0]) ?_ 4 _ rfl; (with_reducible repeat (first | refine blk_drewN ?_ _ | refine blk_drew ?_ | refine blk_alloc ?_ _)); refine blk_put (cs := #[.int .i64 t290, .int .i64 t291, .int .i64 t292, .slice none 0 0, .slice none 0 0]) ?_ 3 _ rfl; (with_reducible repeat (first | refine blk_drewN ?_ _ | refine blk_drew ?_ | refine blk_alloc ?_ _)); refine blk_put (cs := #[.int .i64 t290, .int .i64 t291, .int .i64 0, .slice none 0 0, .slice none 0 0]) ?_ 2 _ rfl; (with_reducible repeat (first | refine blk_drewN ?_ _ | refine blk_drew ?_ | refine blk_alloc ?_ _)); refine blk_put (cs := #[.int .i64 t290, .int .i64 0, .int .i64 0, .slice none 0 0, .slice none 0 0]) ?_ 1 _ rfl; (with_reducible repeat (first | refine blk_drewN ?_ _ | refine blk_drew ?_ | refine blk_alloc ?_ _)); refine blk_put (cs := #[.int .i64 0, .int .i64 0, .int .i64 0, .slice none 0 0, .slice none 0 0]) ?_ 0 _ rfl; (with_reducible repeat (first | refine blk_drewN ?_ _ | refine blk_drew ?_ | refine blk_alloc ?_ _)); exact BK300.out))⟩; have n5_ : Aside0 (Below w.heap.size w w36) := ⟨(by rw [hw]; exact bsw_)⟩; clear hw; clear HO_8; clear HO_29; clear HO295; clear HO298; clear BK300; clear HB; have HO_8 := n0_; have HO_29 := n1_; have HO295 := n2_; have HO298 := n3_; have BK300 := n4_; have HB := n5_; clear n0_ n1_ n2_ n3_ n4_ n5_; obtain ⟨hcz37_0, hcz37_1, hcz37_2, hcz37_3, hcz37_4, hfz37_0, hfz37_1, hfz37_2, hfz37_3, hfz37_4⟩ := bz5_ BK300) | ((with_reducible refine gate_callee (f := 37) rfl ?_); refine goesL_ (some 43) rfl rfl Try.func37 (by kernel_rfl) rfl #[.agg #[.int .i64 t290, .int .i64 t291, .int .i64 t292, .slice Ao34 t293.length co34, .slice Ao35 t296.length co35], .slice A1 l1.length c1] rfl mp_ ?_; (with_reducible refine (filter_May.calls k2 t290 t291 t292 (fun k_ => (some k_ ≠ (u8 : Value).ownBlock ∧ (some k_ ≠ (.slice (some ad289) t286.length co14 : Value).ownBlock ∧ k_ ≠ gb300))) _ _ t293 (fun k_ => (some k_ ≠ (u8 : Value).ownBlock ∧ (some k_ ≠ (.slice (some ad289) t286.length co14 : Value).ownBlock ∧ k_ ≠ gb300))) _ _ t296 _ _ l1 false _ ?side1 ?side2 ?side3 ?side4 A19.out).mono ?_); (case side1 => exact HO295.out); (case side2 => exact HO298.out); (case side3 => repeat (first | exact (Kd.C_below HR1.out HB.out) | with_reducible first | refine Kd.C_alloc ?_ _ | refine Kd.C_drewN ?_ _ | refine Kd.C_drew ?_)); (case side4 => exact HC1.out); rintro e w38 ⟨rfl, hb⟩; refine ⟨_, rfl, ?_⟩; replace HO_8 := rb_ HO_8 hb; replace HO_29 := rb_ HO_29 hb; replace HO295 := vb_ HO295 hb; replace HO298 := vb_ HO298 hb; replace BK300 := bb_ BK300 hb; replace HB := ak (below_step bsw_ hb); (try clear hb); (try clear hb2); (try clear hk); (try clear hi)))
               go_roundg k2
               case measure => have := HK1.out; have := HK2.out; omega
               case rel => exact ⟨(x8_2), (wrap64 (x31_2 + 1)), (by first | rfl | (simp; done) | (simp [*]; done)), H', ⟨by have := HK1.out; have := HK2.out; omega⟩, ⟨rq_ HO_8⟩, ⟨rq_ HO_29⟩, ⟨bsw_⟩⟩
           · rw [if_neg c17] at H
             exact absurd H (by simp)
         · rw [if_neg c16] at H
           exact absurd H (by simp)
       · rw [if_neg c15] at H
         have c15b0 : decide (x31_2 < (t286.length : Int)) = false := decide_eq_false c15
         clear c15
         obtain rfl := Option.some.inj H
         go_wp2
         go_ret
         exact ⟨_, by first | rfl | (simp [errW_none, errW_some] <;> rfl) | (simp [*, errW_none, errW_some] <;> rfl), Kd.R_mono (rq_ HO_8) (fun _ hk => trivial), bsv_⟩

/-! ### filter_Wake: function 36 -/
def filter_Wake.f (k : Nat) (l0 : List (S26)) (l1 : List (S98)) (l2 : List (S62)) : Option ((List (S26)) × List Int) := (filter_Woken.f k l0 l1 l2).bind fun t305 => ((sleep_Drop.f k l0 t305).bind fun bt308 => (some (bt308.1, t305)))
theorem filter_Wake.mono : ∀ a0 a1 a2 k, LeO (filter_Wake.f k a0 a1 a2) (filter_Wake.f (k + 1) a0 a1 a2) := by
 intro a0 a1 a2 k
 unfold filter_Wake.f
 repeat' first
  | (with_reducible exact filter_Woken.mono _ _ _ _)
  | (with_reducible exact sleep_Drop.mono _ _ _)
  | (with_reducible exact LeO.refl _)
  | (with_reducible exact LeO.none _)
  | (with_reducible refine LeO.ite ?_ ?_)
  | (with_reducible refine LeO.bind ?_ (fun _ => ?_))
  | exact filter_Woken.mono _ _ _ _
  | exact sleep_Drop.mono _ _ _
  | exact LeO.none _
  | refine LeO.ite ?_ ?_
  | refine LeO.bind ?_ (fun _ => ?_)
set_option maxHeartbeats 8000000 in
set_option maxRecDepth 100000 in
theorem filter_Wake.calls (k : Nat) (P0_ : Nat → Prop) (A0 : Option Addr) (c0 : Nat) (l0 : List (S26)) (A1 : Option Addr) (c1 : Nat) (l1 : List (S98)) (A2 : Option Addr) (c2 : Nat) (l2 : List (S62)) (r1 : List (S26)) (r2 : List Int) (w : World) (hs0 : Kd.V k26 26 w w.heap.size (fun k_ => P0_ k_) (.slice A0 l0.length c0) l0) (hr1 : Kd.C k98 w A1 l1.length l1) (hc1 : l1.length ≤ c1) (hr2 : Kd.C k62 w A2 l2.length l2) (hc2 : l2.length ≤ c2) (h : filter_Wake.f k l0 l1 l2 = some (r1, r2)) :
 Calls Try.prog 36 #[.slice A0 l0.length c0, .slice A1 l1.length c1, .slice A2 l2.length c2] w fun e w' => ∃ v0_ v1_ : Value, e = .returned (.tuple #[v0_, v1_]) ∧ Kd.V k26 26 w' w.heap.size (fun k_ => (P0_ k_ ∨ w.heap.size ≤ k_) ∧ some k_ ≠ (v1_ : Value).ownBlock) v0_ r1 ∧ Kd.R (Kd.int .i64) 3 w' w.heap.size (fun k_ => (w.heap.size ≤ k_)) v1_ r2 ∧ Below w.heap.size w w' := by
 have HO0 := ak (show Kd.V k26 26 w w.heap.size (fun k_ => (P0_ k_ ∨ w.heap.size ≤ k_)) (.slice A0 l0.length c0) l0 from Kd.V_mono hs0 (fun k_ hk => .inl hk))
 have HR1 := ak hr1
 have HC1 := ak hc1
 clear hr1 hc1
 have HR2 := ak hr2
 have HC2 := ak hc2
 clear hr2 hc2
 have HB := ak (Below.refl w.heap.size w)
 have H : ((filter_Woken.f k l0 l1 l2).bind fun t305 => ((sleep_Drop.f k l0 t305).bind fun bt308 => (some (bt308.1, t305)))) = some (r1, r2) := h
 clear h
 obtain ⟨t305, A4, H⟩ := bd_ H
 replace H := Option.bind_eq_some_iff.mp H
 obtain ⟨⟨t308, t311⟩, A50, H⟩ := H
 have A5 := ak A50
 clear A50
 simp only [Option.some.injEq, Prod.mk.injEq] at H
 obtain ⟨rfl, rfl⟩ := H
 go_enter Try.func36, Try.ntmps36
 go_wp2_with (first | ((with_reducible refine gate_callee (f := 40) rfl ?_); refine goesL_ (some 14) rfl rfl Try.func40 (by kernel_rfl) rfl #[.slice A0 l0.length c0, .slice A1 l1.length c1, .slice A2 l2.length c2] rfl mp_ ?_; (with_reducible refine (filter_Woken.calls k _ _ l0 _ _ l1 _ _ l2 t305 _ ?side1 ?side2 ?side3 ?side4 ?side5 ?side6 A4.out).mono ?_); (case side1 => exact vc_ HO0); (case side2 => exact vl_ HO0); (case side3 => repeat (first | exact HR1.out | with_reducible first | refine Kd.C_alloc ?_ _ | refine Kd.C_drewN ?_ _ | refine Kd.C_drew ?_)); (case side4 => exact HC1.out); (case side5 => repeat (first | exact HR2.out | with_reducible first | refine Kd.C_alloc ?_ _ | refine Kd.C_drewN ?_ _ | refine Kd.C_drew ?_)); (case side6 => exact HC2.out); rintro e w6 ⟨v306, rfl, ho0, hb⟩; refine ⟨_, rfl, ?_⟩; replace HO0 := ak (Kd.V_elder' (vq_ HO0) (Kd.R_base ho0) hb); replace HO307 := ak (Kd.R_lower (Kd.R_newM (M := fun k_ => (w.heap.size ≤ k_)) ho0 bsz_ (fun k_ h_ => h_)) bsz_); replace HB := ak (bst_ hb); (try clear hb); (try clear hb2); (try clear hk); (try clear hi); (try clear ho0); obtain ⟨Ao7, co7, eo7⟩ := Kd.R_slice HO307.out; subst eo7) | ((with_reducible refine gate_callee (f := 20) rfl ?_); refine goesL_ (some 18) rfl rfl Try.func20 (by kernel_rfl) rfl #[.slice A0 l0.length c0, .slice Ao7 t305.length co7] rfl mp_ ?_; (with_reducible refine (sleep_Drop.calls k (fun k_ => ((P0_ k_ ∨ w.heap.size ≤ k_) ∧ some k_ ≠ (.slice Ao7 t305.length co7 : Value).ownBlock)) _ _ l0 _ _ t305 t308 t311 _ ?side1 ?side2 ?side3 A5.out).mono ?_); (case side1 => exact HO0.out); (case side2 => repeat (first | exact (Kd.R_reads' HO307.out).2.2 | with_reducible first | refine Kd.C_alloc ?_ _ | refine Kd.C_drewN ?_ _ | refine Kd.C_drew ?_)); (case side3 => exact (Kd.R_reads' HO307.out).2.1); rintro e w8 ⟨v309, rfl, ho0, hb⟩; refine ⟨_, rfl, ?_⟩; replace HO0 := vb_ HO0 hb; replace HO310 := ak (Kd.V_lower (Kd.V_mono (ok' := fun k_ => (P0_ k_ ∨ w.heap.size ≤ k_) ∧ some k_ ≠ (.slice Ao7 t305.length co7 : Value).ownBlock) ho0 (fun k_ hk_ => ⟨Or.elim hk_ (fun hs_ => hs_.1) (fun hn_ => (.inr (Nat.le_trans bsz_ hn_))), Or.elim hk_ (fun hs_ => hs_.2) (fun hn_ => (Kd.fresh' (Kd.R_lt (rq_ HO307)) k_ hn_))⟩)) bsz_); replace HO307 := rb_ HO307 hb; replace HB := ak (bst_ hb); (try clear hb); (try clear hb2); (try clear hk); (try clear hi); (try clear ho0)))
 go_ret2
 exact ⟨_, _, by first | rfl | (simp [errW_none, errW_some] <;> rfl) | (simp [*, errW_none, errW_some] <;> rfl), vq_ HO310, Kd.R_mono (rq_ HO307) (fun _ hk => hk.1), bsv_⟩

/-! ### slices_Insert: function 43: the library's -/
set_option maxHeartbeats 4000000 in
set_option maxRecDepth 100000 in
theorem slices_Insert.shift (g n c i vb vc : Nat) (cs vs : List Value) (w : World) (hi : i < n) (hroom : n + 1 ≤ c) (hc63 : c ≤ 9223372036854775807) (hvb : vb ≠ g) (hcl : cs.length = n * 5) (hvl : vs.length = 5)
 (hcs : ∀ j v, cs[j]? = some v → w.cell? ⟨g, j, none⟩ = some v) (hsp : ∀ j, j < n * 5 + 5 → (w.cell? ⟨g, j, none⟩).isSome = true) (hfz : ∀ j, w.frozen? ⟨g, j, none⟩ = false)
 (hvs : ∀ j v, vs[j]? = some v → w.cell? ⟨vb, j, none⟩ = some v) (h1c : ∀ v ∈ cs, v.oneCell' = true) (h1v : ∀ v ∈ vs, v.oneCell' = true)
 (tA tB : TypeId) (kA kB : Nat) (hsa : w.shape? vb = some (tA, kA)) (hsb : w.shape? g = some (tB, kB)) (hkB : kB ≠ 0) (hfa : ∀ j, w.frozen? ⟨vb, j, none⟩ = false) :
 Calls Try.prog 43 #[.slice (some ⟨g, 0, none⟩) n c, .int .i64 i, .slice (some ⟨vb, 0, none⟩) 1 vc] w fun e w' =>
  e = .returned (.slice (some ⟨g, 0, none⟩) (n + 1) c) ∧ w' = (w.drew.setCells g ((i + 1) * 5) (cs.drop (i * 5))).setCells g (i * 5) vs := by
 have mixed : Try.prog.follows .mixedOrders = true := by kernel_rfl
 have hz2 : ¬ ((i : Int) = (n : Int)) := by omega
 have hsz : (Try.prog.info? 26).map (·.size) = some 5 := by kernel_rfl
 have hov : ∀ lb cb, (callFunc 76 #[.slice (some ⟨vb, 0, none⟩) 1 vc, .slice (some ⟨g, (i + 1) * 5, none⟩) lb cb]).run Try.prog w = .ok (.value (.bool false)) w := fun lb cb => by
  rw [run_callFunc_extern Try.func76 (by kernel_rfl) (by kernel_rfl) (by kernel_rfl) (e := Extern.SlicesOverlaps.overlaps #[22, 22] #[4]) (by kernel_rfl),
   Lib.run_overlaps_apart w 22 4 26 Try.underlying22 5 Try.sizeOf26 ⟨vb, 0, none⟩ ⟨g, (i + 1) * 5, none⟩ 1 vc lb cb hvb tA tB kA kB hsa hsb hkB (hfa _) (hfa _)]
  rfl
 have hdl : (cs.drop (i * 5)).length = (n - i) * 5 := by rw [List.length_drop, hcl]; omega
 have hw1 : IntKind.i64.wrap ((i : Int) + 1) = (i : Int) + 1 := by rw [IntKind.wrap_i64]; omega
 have hw2 : IntKind.i64.wrap ((n : Int) + 1) = (n : Int) + 1 := by rw [IntKind.wrap_i64]; omega
 have hb1 : (0 : Int) ≤ (i : Int) + 1 := by omega
 have hb0 : (0 : Int) ≤ (n : Int) + 1 := by omega
 have hin : i ≤ n := by omega
 have hb2 : ¬ (c = i + 1) := by omega
 have hb3 : (i : Int) ≤ (n : Int) + 1 := by omega
 have hb4 : ¬ (c = i) := by omega
 have hb5 : ¬ ((c : Int) < (n : Int) + 1) := by omega
 have hb6 : (n : Int) + 1 ≤ (c : Int) := by omega
 have hcp1 : ∀ ty dc sc, (Builtin.copy_ #[22, 22] ty #[.slice (some ⟨g, (i + 1) * 5, none⟩) (n - i) dc, .slice (some ⟨g, i * 5, none⟩) (n + 1 - i) sc]).run Try.prog w.drew = .ok (goInt (Nat.min (n + 1 - i) (n - i))) (w.drew.setCells g ((i + 1) * 5) (cs.drop (i * 5))) := fun ty dc sc =>
  Ins.copy_cells w.drew _ _ ty 26 5 g ((i + 1) * 5) (n - i) dc ⟨g, i * 5, none⟩ (n + 1 - i) sc (cs.drop (i * 5)) Try.underlying22 hsz (by rw [hdl]; simp only [Nat.min_def]; split <;> omega)
   (fun j v hj => by rw [Addr.add_lit]; exact hcs (i * 5 + j) v (by rwa [List.getElem?_drop] at hj))
   (fun j hj => hsp _ (by omega)) (fun j hj => hfz _) (fun v hv => h1c v (List.mem_of_mem_drop hv))
 obtain ⟨W1, hW1⟩ : ∃ W1, W1 = w.drew.setCells g ((i + 1) * 5) (cs.drop (i * 5)) := ⟨_, rfl⟩
 have hsp1 : ∀ k, k < n * 5 + 5 → (W1.cell? ⟨g, k, none⟩).isSome = true := fun k hk => by
  rw [hW1]
  exact isSome_setCells g (cs.drop (i * 5)) ((i + 1) * 5) w.drew (fun j hj => hsp _ (by rw [hdl] at hj; omega)) k (hsp k hk)
 have hcp2 : ∀ (W : World), (∀ x, W.cell? x = W1.cell? x) → (∀ x, W.frozen? x = W1.frozen? x) → ∀ ty dc, (Builtin.copy_ #[22, 22] ty #[.slice (some ⟨g, i * 5, none⟩) (n + 1 - i) dc, .slice (some ⟨vb, 0, none⟩) 1 vc]).run Try.prog W = .ok (goInt (Nat.min 1 (n + 1 - i))) (W.setCells g (i * 5) vs) := fun W hWc hWf ty dc =>
  Ins.copy_cells W _ _ ty 26 5 g (i * 5) (n + 1 - i) dc ⟨vb, 0, none⟩ 1 vc vs Try.underlying22 hsz (by rw [hvl]; simp only [Nat.min_def]; split <;> omega)
   (fun j v hj => by
    rw [Addr.add_lit, hWc, hW1, World.cell?_setCells_out g _ _ _ _ (fun h _ => absurd h hvb), Nat.zero_add]
    exact hvs j v hj)
   (fun j hj => by rw [hWc]; exact hsp1 _ (by omega)) (fun j hj => by rw [hWf, hW1, World.frozen?_setCells]; exact hfz _) h1v
 rw [← hW1] at hcp1 ⊢
 go_enter Try.func43, Try.ntmps43
 go_wp2_with (simp only [hov])
 go_region_law_o (refine step_copy_runI rfl _ _ 22 22 rfl _ _ (by simp [Act.eval, Act.put]) (by simp [Act.eval, Act.put]) (hcp1 _ _ _) ?_)
 go_wp2_with (at_builtin; refine wpList_copy_runI _ rfl _ _ 22 22 rfl _ _ rfl rfl (hcp2 _ (fun _ => rfl) (fun _ => rfl) _ _) ?_)
 go_ret
 exact ⟨rfl, by rw [hW1]⟩
set_option maxHeartbeats 4000000 in
set_option maxRecDepth 100000 in
theorem slices_Insert.grow (g n c i vb vc : Nat) (cs vs : List Value) (w : World) (hi : i < n) (hnc : n ≤ c) (hroom : c < n + 1) (hbig : (n + 1) * 72 ≤ 140737488355328) (hcl : cs.length = n * 5) (hvl : vs.length = 5)
 (hcs : ∀ j v, cs[j]? = some v → w.cell? ⟨g, j, none⟩ = some v) (hvs : ∀ j v, vs[j]? = some v → w.cell? ⟨vb, j, none⟩ = some v) (h1c : ∀ v ∈ cs, v.oneCell' = true) (h1v : ∀ v ∈ vs, v.oneCell' = true) :
 Calls Try.prog 43 #[.slice (some ⟨g, 0, none⟩) n c, .int .i64 i, .slice (some ⟨vb, 0, none⟩) 1 vc] w fun e w' =>
  ∃ (G : Nat) (ROW : Array Value), n + 1 ≤ G ∧ G ≤ 9223372036854775807 ∧ ROW.size = G * 5 ∧ ROW.toList.take (i * 5) = cs.take (i * 5) ∧ e = .returned (.slice (some ⟨w.heap.size, 0, none⟩) (n + 1) G) ∧
  w' = (((w.alloc (.cells ROW 26)).drew.setCells w.heap.size (i * 5) vs).drew).setCells w.heap.size ((i + 1) * 5) (cs.drop (i * 5)) := by
 have mixed : Try.prog.follows .mixedOrders = true := by kernel_rfl
 have hz2 : ¬ ((i : Int) = (n : Int)) := by omega
 have hz3 : (c : Int) < (n : Int) + 1 := by omega
 have hinfo : (Try.prog.info? 26).map (fun i => (i.zero, i.size, i.bytes)) = some (some (.agg #[(.int .i64 0), (.int .i64 0), (.int .i64 0), (.slice none 0 0), (.slice none 0 0)]), 5, 72) := by kernel_rfl
 obtain ⟨i0, hi0, hz0, hzs, hzb⟩ := info_parts hinfo
 have hsz : (Try.prog.info? 26).map (·.size) = some 5 := by kernel_rfl
 obtain ⟨Z, hZ⟩ : ∃ Z : Value, Z = (.agg #[(.int .i64 0), (.int .i64 0), (.int .i64 0), (.slice none 0 0), (.slice none 0 0)]) := ⟨_, rfl⟩
 have hZs : Z.cells.size = 5 := by rw [hZ]; rfl
 rw [← hZ] at hz0
 have hbw : g < w.heap.size := block_lt_of_cell (hcs 0 _ (List.getElem?_eq_getElem (by omega)))
 have hvw : vb < w.heap.size := block_lt_of_cell (hvs 0 _ (List.getElem?_eq_getElem (by omega)))
 have hik : i + (n + 1 - i) = n + 1 := by omega
 have hkk : (n : Int) + 1 - (i : Int) = ((n + 1 - i : Nat) : Int) := by omega
 have htl : (cs.take (i * 5)).length = i * 5 := by rw [List.length_take]; omega
 have hold : (Builtin.firstCells i0.size i (.slice (some ⟨g, 0, none⟩) i c)).run Try.prog w.drew = .ok (cs.take (i * 5)).toArray w.drew := by
  rw [hzs]
  exact run_firstCells_some w.drew 5 i ⟨g, 0, none⟩ i c (cs.take (i * 5)) (by rw [htl]) (fun j v hj => by
   rw [Addr.add_lit, Nat.zero_add]
   rw [List.getElem?_take] at hj
   split at hj
   · exact hcs j v hj
   · cases hj)
 have hrz : ∀ ty, (Builtin.append_ #[22, 3] ty #[.slice (some ⟨g, 0, none⟩) i c, .int .i64 ((n : Int) + 1 - (i : Int))]).run Try.prog w =
  .ok (.slice (some ⟨w.heap.size, 0, none⟩) (n + 1) (grownCap w (n + 1) c 26)) (w.drew.alloc (.cells ((cs.take (i * 5)).toArray ++ Builtin.zeroCells Z.cells (n + 1 - i) ++ Builtin.zeroCells Z.cells (grownCap w (n + 1) c 26 - (n + 1))) 26)) := fun ty => by
  have h := Lib.run_append_grow_zeros w 22 3 ty 26 i0 _ .i64 .i64 Try.underlying22 Try.underlying3 hi0 hz0 (some ⟨g, 0, none⟩) i c (cs.take (i * 5)) hold (n + 1 - i) (by omega) (by omega) (by omega) (by omega) (by rw [hzb]; omega) (by rw [hzb, hik]; exact growslice_fits hroom hbig)
  rw [hik] at h
  rw [hkk]
  exact h
 obtain ⟨G, hG⟩ : ∃ G, G = grownCap w (n + 1) c 26 := ⟨_, rfl⟩
 obtain ⟨ROW, hROW⟩ : ∃ ROW : Array Value, ROW = (cs.take (i * 5)).toArray ++ Builtin.zeroCells Z.cells (n + 1 - i) ++ Builtin.zeroCells Z.cells (G - (n + 1)) := ⟨_, rfl⟩
 have hGn : n + 1 ≤ G := by rw [hG]; exact grownCap_ge w _ _ _
 have hG63 : G ≤ 9223372036854775807 := by
  have := grownCap_le_maxLen w (n + 1) c 26 (by unfold maxLen; omega)
  rw [← hG] at this
  unfold maxLen at this
  omega
 rw [← hG] at hrz
 rw [← hROW] at hrz
 have hRs : ROW.size = G * 5 := by
  rw [hROW, Array.size_append, Array.size_append]
  simp only [Builtin.zeroCells, Array.size_map, Array.size_range, hZs, List.size_toArray, htl]
  omega
 have hRt : ROW.toList.take (i * 5) = cs.take (i * 5) := by
  rw [hROW, Array.toList_append, Array.toList_append, List.append_assoc]
  exact List.take_left' htl
 refine Calls.mono (R := fun e w' => e = .returned (.slice (some ⟨w.heap.size, 0, none⟩) (n + 1) G) ∧ w' = (((w.alloc (.cells ROW 26)).drew.setCells w.heap.size (i * 5) vs).drew).setCells w.heap.size ((i + 1) * 5) (cs.drop (i * 5))) ?_ (fun e w' h => ⟨G, ROW, hGn, hG63, hRs, hRt, h.1, h.2⟩)
 clear hinfo hZ hROW hold hRt
 obtain ⟨W1, hW1⟩ : ∃ W1, W1 = w.drew.alloc (.cells ROW 26) := ⟨_, rfl⟩
 rw [← hW1] at hrz
 have hN : ∀ j, j < (n + 1) * 5 → (W1.cell? ⟨w.heap.size, j, none⟩).isSome = true := fun j hj => by
  rw [hW1, World.cell?_alloc_at (w := w.drew) ROW _ w.heap.size j rfl, Array.getElem?_eq_getElem (by omega)]; rfl
 have hNf : ∀ j, W1.frozen? ⟨w.heap.size, j, none⟩ = false := fun j => by rw [hW1]; exact World.frozen?_alloc_at (w := w.drew) ROW _ w.heap.size j rfl
 have hOb : ∀ j v, w.cell? ⟨g, j, none⟩ = some v → W1.cell? ⟨g, j, none⟩ = some v := fun j v h => by rw [hW1, World.cell?_alloc_past (w := w.drew) _ g j hbw]; exact h
 have hOv : ∀ j v, w.cell? ⟨vb, j, none⟩ = some v → W1.cell? ⟨vb, j, none⟩ = some v := fun j v h => by rw [hW1, World.cell?_alloc_past (w := w.drew) _ vb j hvw]; exact h
 have hcpA : ∀ (W : World), (∀ x, W.cell? x = W1.cell? x) → (∀ x, W.frozen? x = W1.frozen? x) → ∀ ty dc, (Builtin.copy_ #[22, 22] ty #[.slice (some ⟨w.heap.size, i * 5, none⟩) (n + 1 - i) dc, .slice (some ⟨vb, 0, none⟩) 1 vc]).run Try.prog W = .ok (goInt (Nat.min 1 (n + 1 - i))) (W.setCells w.heap.size (i * 5) vs) := fun W hWc hWf ty dc =>
  Ins.copy_cells W _ _ ty 26 5 w.heap.size (i * 5) (n + 1 - i) dc ⟨vb, 0, none⟩ 1 vc vs Try.underlying22 hsz (by rw [hvl]; simp only [Nat.min_def]; split <;> omega)
   (fun j v hj => by rw [Addr.add_lit, hWc, Nat.zero_add]; exact hOv _ v (hvs j v hj))
   (fun j hj => by rw [hWc]; exact hN _ (by omega)) (fun j hj => by rw [hWf]; exact hNf _) h1v
 have hGi : ¬ (G = i) := by omega
 have hGim : ¬ (G = i + 1) := by omega
 have hci : ¬ (c = i) := by omega
 have hbN : g ≠ w.heap.size := by omega
 have hdl : (cs.drop (i * 5)).length = (n - i) * 5 := by rw [List.length_drop, hcl]; omega
 have hcpB : ∀ (W : World), (∀ x, W.cell? x = (W1.setCells w.heap.size (i * 5) vs).cell? x) → (∀ x, W.frozen? x = (W1.setCells w.heap.size (i * 5) vs).frozen? x) → ∀ ty dc sc, (Builtin.copy_ #[22, 22] ty #[.slice (some ⟨w.heap.size, (i + 1) * 5, none⟩) (n - i) dc, .slice (some ⟨g, i * 5, none⟩) (n - i) sc]).run Try.prog W = .ok (goInt (Nat.min (n - i) (n - i))) (W.setCells w.heap.size ((i + 1) * 5) (cs.drop (i * 5))) := fun W hWc hWf ty dc sc =>
  Ins.copy_cells W _ _ ty 26 5 w.heap.size ((i + 1) * 5) (n - i) dc ⟨g, i * 5, none⟩ (n - i) sc (cs.drop (i * 5)) Try.underlying22 hsz (by rw [hdl]; simp only [Nat.min_def]; split <;> omega)
   (fun j v hj => by
    rw [Addr.add_lit, hWc, World.cell?_setCells_out _ _ _ _ _ (fun h _ => absurd h hbN)]
    exact hOb _ v (hcs (i * 5 + j) v (by rwa [List.getElem?_drop] at hj)))
   (fun j hj => by rw [hWc]; exact isSome_setCells w.heap.size vs (i * 5) W1 (fun t ht => hN _ (by omega)) _ (hN _ (by omega)))
   (fun j hj => by rw [hWf, World.frozen?_setCells]; exact hNf _) (fun v hv => h1c v (List.mem_of_mem_drop hv))
 subst hW1
 have hE1 : ∀ x, ((w.alloc (.cells ROW 26)).drew).cell? x = (w.drew.alloc (.cells ROW 26)).cell? x := fun x => rfl
 have hE2 : ∀ x, ((w.alloc (.cells ROW 26)).drew).frozen? x = (w.drew.alloc (.cells ROW 26)).frozen? x := fun x => rfl
 have hF1 : ∀ x, (((w.alloc (.cells ROW 26)).drew.setCells w.heap.size (i * 5) vs).drew).cell? x = ((w.drew.alloc (.cells ROW 26)).setCells w.heap.size (i * 5) vs).cell? x := fun x => rfl
 have hF2 : ∀ x, (((w.alloc (.cells ROW 26)).drew.setCells w.heap.size (i * 5) vs).drew).frozen? x = ((w.drew.alloc (.cells ROW 26)).setCells w.heap.size (i * 5) vs).frozen? x := fun x => rfl
 have hw1 : IntKind.i64.wrap ((i : Int) + 1) = (i : Int) + 1 := by rw [IntKind.wrap_i64]; omega
 have hw2 : IntKind.i64.wrap ((n : Int) + 1) = (n : Int) + 1 := by rw [IntKind.wrap_i64]; omega
 have hw3 : IntKind.i64.wrap ((n : Int) + 1 - (i : Int)) = (n : Int) + 1 - (i : Int) := by rw [IntKind.wrap_i64]; omega
 have hb1 : (0 : Int) ≤ (i : Int) + 1 := by omega
 have hin : i ≤ n := by omega
 have hic : i ≤ c := by omega
 have hb3 : (i : Int) ≤ (n : Int) := by omega
 clear hkk hik hG
 go_enter Try.func43, Try.ntmps43
 go_wp2_with (first
  | (at_builtin; refine Lib.wpList_append_run _ rfl _ _ _ _ rfl _ _ rfl rfl _ _ (hrz _) ?_)
  | (at_builtin; refine wpList_copy_runI _ rfl _ _ 22 22 rfl _ _ rfl rfl (hcpA _ hE1 hE2 _ _) ?_)
  | (at_builtin; refine wpList_copy_runI _ rfl _ _ 22 22 rfl _ _ rfl rfl (hcpB _ (fun _ => rfl) (fun _ => rfl) _ _ _) ?_))
 go_region_law_o (refine step_copy_runI rfl _ _ 22 22 rfl (.slice (some ⟨w.heap.size, (i + 1) * 5, none⟩) (n - i) (G - (i + 1))) (.slice (some ⟨g, i * 5, none⟩) (n - i) (c - i)) (by simp [Act.eval, Act.put]) (by simp [Act.eval, Act.put]) (hcpB _ hF1 hF2 3 (G - (i + 1)) (c - i)) ?_)
 go_wp2
 go_ret
 exact ⟨rfl, rfl⟩
set_option maxHeartbeats 4000000 in
set_option maxRecDepth 100000 in
theorem slices_Insert.back (base : Nat) (ok okp : Nat → Prop) (A : Option Addr) (c : Nat) (xs ys : List S26) (A1 : Option Addr) (c1 : Nat) (w0 w : World) (HO : Kd.N k26 26 w base ok (.slice A xs.length c) xs) (HY : Kd.N k26 26 w base okp (.slice A1 1 c1) ys)
 (hokp : ∀ k, okp k → ok k ∧ some k ≠ (Value.slice A xs.length c).ownBlock) (hfresh : ∀ k, w.heap.size ≤ k → ok k) (HB : Below base w0 w) (hbase : base ≤ w.heap.size) (hl : (xs.length + 1) * 72 ≤ 140737488355328) :
 Calls Try.prog 43 #[.slice A xs.length c, .int .i64 (xs.length : Int), .slice A1 1 c1] w fun e w' => ∃ v1 : Value, e = .returned v1 ∧ Kd.N k26 26 w' base ok v1 (xs ++ ys) ∧ Below base w0 w' ∧ w.grownBy w' (Value.slice A xs.length c).ownBlock ∧ (v1.ownBlock = (Value.slice A xs.length c).ownBlock ∨ ∃ b, v1.ownBlock = some b ∧ w.heap.size ≤ b) := by
 have mixed : Try.prog.follows .mixedOrders = true := by kernel_rfl
 have hinfo : (Try.prog.info? 26).map (fun i => (i.zero, i.size, i.bytes)) = some (some (.agg #[(.int .i64 0), (.int .i64 0), (.int .i64 0), (.slice none 0 0), (.slice none 0 0)]), 5, 72) := by kernel_rfl
 have hF := ak (Kd.N_F HY)
 have HO1 := ak HO
 have HB1 := ak HB
 have hq1 := ak hokp
 have hq2 := ak hfresh
 have hnc := (Kd.N_reads' HO).2.1
 clear HO HY HB hokp hfresh
 rcases Nat.eq_or_lt_of_le hnc with he | he
 · subst he
   clear hnc
   go_enter Try.func43, Try.ntmps43
   go_wp2_with (at_builtin; refine Kd.N_append_rows k26 base rfl (.tmp 23) (.tmp 24) 22 26 _ 72 rfl Try.underlying22 hinfo rfl (by decide) (by omega) (.slice A xs.length xs.length) xs ys A1 1 c1 ok okp rfl rfl HO1.out hF.out hq1.out hq2.out HB1.out hbase hl ?_; intro v1 w1 h1 h2 h3 h4)
   go_ret
   exact ⟨_, rfl, h1, h2, h3, h4⟩
 · have hcn : ¬ (c = xs.length) := by omega
   go_enter Try.func43, Try.ntmps43
   go_wp2_with (at_builtin; refine Kd.N_append_rows k26 base rfl (.tmp 23) (.tmp 24) 22 26 _ 72 rfl Try.underlying22 hinfo rfl (by decide) (by omega) (.slice A xs.length c) xs ys A1 1 c1 ok okp rfl rfl HO1.out hF.out hq1.out hq2.out HB1.out hbase hl ?_; intro v1 w1 h1 h2 h3 h4)
   go_ret
   exact ⟨_, rfl, h1, h2, h3, h4⟩
set_option maxHeartbeats 2000000 in
theorem slices_Insert.calls (base : Nat) (ok okp : Nat → Prop) (v : Value) (xs ys : List S26) (v2 : Value) (i : Int) (w0 w : World) (HO : Kd.N k26 26 w base ok v xs) (HY : Kd.N k26 26 w base okp v2 ys) (hy : ys.length = 1)
 (hokp : ∀ k, okp k → ok k ∧ some k ≠ v.ownBlock) (hfresh : ∀ k, w.heap.size ≤ k → ok k) (HB : Below base w0 w) (hbase : base ≤ w.heap.size) (hl : (xs.length + ys.length) * 72 ≤ 140737488355328) (h0 : 0 ≤ i) (h1 : i ≤ (xs.length : Int)) :
 Calls Try.prog 43 #[v, .int .i64 i, v2] w fun e w' => ∃ v1 : Value, e = .returned v1 ∧ Kd.N k26 26 w' base ok v1 (xs.take i.toNat ++ ys ++ xs.drop i.toNat) ∧ Below base w0 w' ∧ w.grownBy w' v.ownBlock ∧ (v1.ownBlock = v.ownBlock ∨ ∃ b, v1.ownBlock = some b ∧ w.heap.size ≤ b) := by
 obtain ⟨y0, rfl⟩ : ∃ y0, ys = [y0] := List.length_eq_one_iff.1 hy
 obtain ⟨i, rfl⟩ := Int.eq_ofNat_of_zero_le h0
 obtain ⟨vb, c1, rfl, hvb1, hvb2, curv, hvh⟩ := Kd.N_form HY (by simp)
 obtain ⟨A, c, rfl⟩ := Kd.N_slice HO
 have hil : i ≤ xs.length := by omega
 rw [show ((i : Int)).toNat = i from rfl]
 rcases Nat.eq_or_lt_of_le hil with he | he
 · subst he
   rw [List.take_length, List.drop_length, List.append_nil]
   exact slices_Insert.back base ok okp A c xs [y0] (some ⟨vb, 0, none⟩) c1 w0 w HO HY hokp hfresh HB hbase (by simpa using hl)
 · obtain ⟨g, cap, e, hg1, hg2, curg, hgh⟩ := Kd.N_form HO (by omega)
   injection e with e1 _ e3
   subst e1
   have hne : vb ≠ g := by
    have := (hokp vb (HY.1 vb (by simp [Value.ownBlock]))).2
    intro e; exact this (by simp [Value.ownBlock, e])
   obtain ⟨hown, rows, hlr, hR, hfk⟩ := HO
   obtain ⟨hownY, rowsY, hlrY, hRY, hfkY⟩ := HY
   obtain ⟨r, rfl⟩ : ∃ r, rowsY = [r] := List.length_eq_one_iff.1 (by rw [hlrY]; rfl)
   have hf2 : Kd.FK k26 w okp y0 r := Kd.FK_mono (hfkY 0 y0 r rfl rfl) (fun k hk => hk.1)
   obtain ⟨cur, hh, hbg, hn, hnc, hcm, hcs, hreps⟩ := Ins.raw_open (sz := 5) hR
   obtain ⟨cury, hhy, hby, hny, hncy, hcmy, hcsy, hrepsy⟩ := Ins.raw_open (sz := 5) hRY
   have hcul : cur.toList.length = c * 5 := (Array.length_toList ..).trans hcs
   have hcyl : cury.toList.length = c1 * 5 := (Array.length_toList ..).trans hcsy
   have hncy1 : 1 ≤ c1 := hncy
   have hcl : (cur.toList.take (xs.length * 5)).length = xs.length * 5 := by rw [List.length_take, hcul]; omega
   have hvl : (cury.toList.take (1 * 5)).length = 5 := by rw [List.length_take, hcyl]; omega
   have hcs1 : ∀ j v, (cur.toList.take (xs.length * 5))[j]? = some v → w.cell? ⟨g, j, none⟩ = some v := fun j v hj => by
    rw [List.getElem?_take] at hj
    split at hj
    · rw [cell_of_row w g _ cur 26 (0, 0) hh, ← Array.getElem?_toList]; exact hj
    · cases hj
   have hvs1 : ∀ j v, (cury.toList.take (1 * 5))[j]? = some v → w.cell? ⟨vb, j, none⟩ = some v := fun j v hj => by
    rw [List.getElem?_take] at hj
    split at hj
    · rw [cell_of_row w vb _ cury 26 (0, 0) hhy, ← Array.getElem?_toList]; exact hj
    · cases hj
   have hir := Ins.reps_ins (i := i) hreps hrepsy (by omega)
   have hrl : xs.length + 1 = (rows.take i ++ [r] ++ rows.drop i).length := by simp; omega
   have hgo : (Value.slice (some ⟨g, 0, none⟩) xs.length c).ownBlock = some g := rfl
   by_cases hroom : xs.length + 1 ≤ c
   · refine (slices_Insert.shift g xs.length c i vb c1 _ _ w he hroom hcm hne hcl hvl hcs1 (fun j hj => by rw [cell_of_row w g _ cur 26 (0, 0) hh, Array.getElem?_eq_getElem (by omega)]; rfl) (fun j => blk_frozen hh _) hvs1 (Ins.reps_one hreps) (Ins.reps_one hrepsy) 26 26 cury.size cur.size (by simp [World.shape?, hhy]) (by simp [World.shape?, hh]) (by omega) (fun j => blk_frozen hhy _)).mono ?_
     rintro e w' ⟨rfl, rfl⟩
     have hgr := Ins.set2_grown w g ((i + 1) * 5) (i * 5) ((cur.toList.take (xs.length * 5)).drop (i * 5)) (cury.toList.take (1 * 5))
     obtain ⟨c2, g1, g2, g3⟩ := Ins.two_sets (W := w.drew) hh (i * 5) 5 (xs.length * 5) (cury.toList.take (1 * 5)) hvl (by omega) (by omega)
     rw [show i * 5 + 5 = (i + 1) * 5 by omega] at g1
     have g4 : c2.toList.take ((xs.length + 1) * 5) = (cur.toList.take (xs.length * 5)).take (i * 5) ++ cury.toList.take (1 * 5) ++ (cur.toList.take (xs.length * 5)).drop (i * 5) := by rw [show (xs.length + 1) * 5 = xs.length * 5 + 5 by omega]; exact g3
     refine ⟨_, rfl, ?_, HB.grown hgr hbase (fun k hk => by injection hk with hk; subst hk; exact hbg), hgr, .inl rfl⟩
     exact Ins.N_inserted hown hlr hfk hf2 hokp hfresh hil (Ins.raw_close (n := xs.length + 1) g1 hbg hrl hroom hcm (by rw [g2]; exact hcs) g4 hir) hgr (.inl rfl)
   · refine (slices_Insert.grow g xs.length c i vb c1 _ _ w he hnc (by omega) (by simpa using hl) hcl hvl hcs1 hvs1 (Ins.reps_one hreps) (Ins.reps_one hrepsy)).mono ?_
     rintro e w' ⟨G, ROW, q1, q2, q3, q4, rfl, rfl⟩
     have hgr := Ins.lay_grown w (.cells ROW 26) (some g) (i * 5) ((i + 1) * 5) (cury.toList.take (1 * 5)) ((cur.toList.take (xs.length * 5)).drop (i * 5))
     have hdl : ((cur.toList.take (xs.length * 5)).drop (i * 5)).length = (xs.length - i) * 5 := by rw [List.length_drop, hcl]; omega
     obtain ⟨c2, g1, g2, g3⟩ := Ins.two_lays (W := (w.alloc (.cells ROW 26)).drew) (g := w.heap.size) (e := 26) (R := ROW) (by show (w.heap.push _)[w.heap.size]? = _; rw [Array.getElem?_push, if_pos rfl]) (i * 5) 5 (cury.toList.take (1 * 5)) ((cur.toList.take (xs.length * 5)).drop (i * 5)) hvl (by rw [hdl]; omega)
     rw [show i * 5 + 5 = (i + 1) * 5 by omega] at g1 g3
     have hat : (Value.slice (some ⟨w.heap.size, 0, none⟩) (xs.length + 1) G).ownBlock = (Value.slice (some ⟨g, 0, none⟩) xs.length c).ownBlock ∨ ∃ b, (Value.slice (some ⟨w.heap.size, 0, none⟩) (xs.length + 1) G).ownBlock = some b ∧ w.heap.size ≤ b := .inr ⟨w.heap.size, rfl, Nat.le_refl _⟩
     refine ⟨_, rfl, ?_, HB.grown hgr hbase (fun k hk => by injection hk with hk; subst hk; exact hbg), hgr, hat⟩
     refine Ins.N_inserted hown hlr hfk hf2 hokp hfresh hil (Ins.raw_close (n := xs.length + 1) g1 hbase hrl q1 q2 (by rw [g2]; exact q3) ?_ hir) hgr hat
     rw [q4, hdl, show (i + 1) * 5 + (xs.length - i) * 5 = (xs.length + 1) * 5 by omega] at g3
     exact g3

end Go.Proofs.Ytjnkpocfmpbpoaa.F
