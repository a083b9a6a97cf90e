-- PRINTED by print.py (a twelfth state) out of the translation. Not trusted: Lean checks it.
import Derived.Test.YtjnkpocfmpbpoaaFx0
namespace Go.Proofs.Ytjnkpocfmpbpoaa.F
open Go.Proofs.Ytjnkpocfmpbpoaa.Ho
open Go.RowKit Go.Proofs.YtjnkpocfmpbpoaaW.PrintWords Go.Proofs.YtjnkpocfmpbpoaaW.PrintLast Go.Proofs.YtjnkpocfmpbpoaaW.PrintMore
attribute [local go_sem] max2_int min2_int max_two min_two max_three min_three max_four min_four   -- for this text's walks alone
set_option linter.unusedVariables false
set_option linter.unusedSimpArgs false

/-! ### handshakerref03_Numbers: function 28 -/
def handshakerref03_Numbers.l0 : Nat → List Int → List Int → Int → Option (Bool)
 | 0, _, _, _ => none
 | k + 1, x0, x1, x5 => if x5 < (x0.length : Int) then (if 0 ≤ x5 then (if x5 < (x1.length : Int) then (if (rd x0 x5) = (rd x1 x5) then (handshakerref03_Numbers.l0 k x0 x1 (wrap64 (x5 + 1))) else (some false)) else (none)) else (none)) else (some true)
def handshakerref03_Numbers.f (k : Nat) (l0 : List Int) (l1 : List Int) : Option (Bool) := if (l0.length : Int) = (l1.length : Int) then (handshakerref03_Numbers.l0 k l0 l1 0) else (some false)
theorem handshakerref03_Numbers.mono_l : ∀ k, (∀ y0 y1 y2, LeO (handshakerref03_Numbers.l0 k y0 y1 y2) (handshakerref03_Numbers.l0 (k + 1) y0 y1 y2))
 | 0 => fun _ _ _ r h => by simp [handshakerref03_Numbers.l0] at h
 | k + 1 => by
  have ih0 := handshakerref03_Numbers.mono_l k
  · intro y0 y1 y2
    unfold handshakerref03_Numbers.l0
    repeat' first
    | (with_reducible exact ih0 _ _ _)
    | (with_reducible exact LeO.refl _)
    | (with_reducible exact LeO.none _)
    | (with_reducible refine LeO.ite ?_ ?_)
    | (with_reducible refine LeO.bind ?_ (fun _ => ?_))
    | exact ih0 _ _ _
    | exact LeO.none _
    | refine LeO.ite ?_ ?_
    | refine LeO.bind ?_ (fun _ => ?_)
theorem handshakerref03_Numbers.mono : ∀ a0 a1 k, LeO (handshakerref03_Numbers.f k a0 a1) (handshakerref03_Numbers.f (k + 1) a0 a1) := by
 intro a0 a1 k
 have ih0 := handshakerref03_Numbers.mono_l k
 unfold handshakerref03_Numbers.f
 repeat' first
  | (with_reducible exact ih0 _ _ _)
  | (with_reducible exact LeO.refl _)
  | (with_reducible exact LeO.none _)
  | (with_reducible refine LeO.ite ?_ ?_)
  | (with_reducible refine LeO.bind ?_ (fun _ => ?_))
  | exact ih0 _ _ _
  | exact LeO.none _
  | refine LeO.ite ?_ ?_
  | refine LeO.bind ?_ (fun _ => ?_)
set_option maxHeartbeats 8000000 in
set_option maxRecDepth 100000 in
theorem handshakerref03_Numbers.calls (k : Nat) (A0 : Option Addr) (c0 : Nat) (l0 : List Int) (A1 : Option Addr) (c1 : Nat) (l1 : List Int) (r : Bool) (w : World) (hr0 : Kd.C (Kd.int .i64) w A0 l0.length l0) (hc0 : l0.length ≤ c0) (hr1 : Kd.C (Kd.int .i64) w A1 l1.length l1) (hc1 : l1.length ≤ c1) (h : handshakerref03_Numbers.f k l0 l1 = some r) :
 Calls Try.prog 28 #[.slice A0 l0.length c0, .slice A1 l1.length c1] w fun e w' => e = .returned (.bool r) ∧ Drawn0 w w' := by
 have HR0 := ak hr0
 have HC0 := ak hc0
 clear hr0 hc0
 have HR1 := ak hr1
 have HC1 := ak hc1
 clear hr1 hc1
 have H : (if (l0.length : Int) = (l1.length : Int) then (handshakerref03_Numbers.l0 k l0 l1 0) else (some false)) = some r := h
 clear h
 by_cases c3 : (l0.length : Int) = (l1.length : Int)
 · rw [if_pos c3] at H
   have c3b0 : ((l0.length : Int) == (l1.length : Int)) = true := beq_iff_eq.mpr c3
   have c3b1 : ((l0.length : Int) != (l1.length : Int)) = false := bne_eq_false_iff_eq.mpr c3
   have c3b2 : (l0.length == l1.length) = true := by first | simpa using c3 | (simp at c3 ⊢; omega)
   clear c3
   have H' := ak H
   clear H
   go_enter Try.func28, Try.ntmps28
   go_wp2
   repeat (go_quiet (fail); try go_wp2)
   go_loopg [5] k (fun kq v5 w' => ∃ (x5_1 : Int), v5 = .int .i64 x5_1 ∧ Aside0 (handshakerref03_Numbers.l0 kq l0 l1 x5_1 = some r) ∧ Aside0 (kq ≤ k) ∧ Drawn0 w w')
   case atStart => exact ⟨(0), (by first | rfl | (simp; done) | (simp [*]; done)), H', ⟨Nat.le_refl _⟩, by repeat (first | exact Drawn0.refl _ | apply Drawn0.step)⟩
   case round =>
    clear H'
    try clear c1
    try clear c2
    try clear p2
    try clear c3
    try clear c3b0
    try clear c3b1
    try clear c3b2
    obtain ⟨x5_1, rfl, HA, HK1, ⟨m1, rfl⟩⟩ := hrel
    cases gk with
    | zero => exact absurd HA.out (by simp [handshakerref03_Numbers.l0])
    | succ k1 =>
     have H := HA.out
     clear HA
     simp only [handshakerref03_Numbers.l0] at H
     by_cases c4 : x5_1 < (l0.length : Int)
     · rw [if_pos c4] at H
       have c4b0 : decide (x5_1 < (l0.length : Int)) = true := decide_eq_true c4
       clear c4
       by_cases c5 : 0 ≤ x5_1
       · rw [if_pos c5] at H
         have c5b0 : decide (0 ≤ x5_1) = true := decide_eq_true c5
         clear c5
         by_cases c6 : x5_1 < (l1.length : Int)
         · rw [if_pos c6] at H
           have c6b0 : decide (x5_1 < (l1.length : Int)) = true := decide_eq_true c6
           clear c6
           by_cases c7 : (rd l0 x5_1) = (rd l1 x5_1)
           · rw [if_pos c7] at H
             have c7b0 : ((rd l0 x5_1) == (rd l1 x5_1)) = true := beq_iff_eq.mpr c7
             have c7b1 : ((rd l0 x5_1) != (rd l1 x5_1)) = false := bne_eq_false_iff_eq.mpr c7
             clear c7
             have H' := ak H
             clear H
             have p101 : 0 ≤ (x5_1 : Int) := oda_
             have q101 : x5_1 < (l0.length : Int) := oda_
             obtain ⟨ad101, e101, hx101_0⟩ := Kd.at_int HR0.out x5_1 p101 q101
             cases e101
             replace p101 := eq_true p101
             replace q101 := eq_true q101
             have p102 : 0 ≤ (x5_1 : Int) := oda_
             have q102 : x5_1 < (l1.length : Int) := oda_
             obtain ⟨ad102, e102, hx102_0⟩ := Kd.at_int HR1.out x5_1 p102 q102
             cases e102
             replace p102 := eq_true p102
             replace q102 := eq_true q102
             go_wp2
             repeat (go_quiet (fail); try go_wp2)
             go_roundg k1
             case measure => have := HK1.out; omega
             case rel => exact ⟨(wrap64 (x5_1 + 1)), (by first | rfl | (simp; done) | (simp [*]; done)), H', ⟨by have := HK1.out; omega⟩, by repeat (first | exact Drawn0.refl _ | apply Drawn0.step)⟩
           · rw [if_neg c7] at H
             have c7b0 : ((rd l0 x5_1) == (rd l1 x5_1)) = false := beq_eq_false_iff_ne.mpr c7
             have c7b1 : ((rd l0 x5_1) != (rd l1 x5_1)) = true := bne_iff_ne.mpr c7
             obtain rfl := Option.some.inj H
             have p101 : 0 ≤ (x5_1 : Int) := oda_
             have q101 : x5_1 < (l0.length : Int) := oda_
             obtain ⟨ad101, e101, hx101_0⟩ := Kd.at_int HR0.out x5_1 p101 q101
             cases e101
             replace p101 := eq_true p101
             replace q101 := eq_true q101
             have p102 : 0 ≤ (x5_1 : Int) := oda_
             have q102 : x5_1 < (l1.length : Int) := oda_
             obtain ⟨ad102, e102, hx102_0⟩ := Kd.at_int HR1.out x5_1 p102 q102
             cases e102
             replace p102 := eq_true p102
             replace q102 := eq_true q102
             go_wp2
             repeat (go_quiet (fail); try go_wp2)
             go_ret
             exact ⟨by first | rfl | (simp; done) | (simp [*]; done), by repeat (first | exact Drawn0.refl _ | apply Drawn0.step)⟩
         · rw [if_neg c6] at H
           exact absurd H (by simp)
       · rw [if_neg c5] at H
         exact absurd H (by simp)
     · rw [if_neg c4] at H
       have c4b0 : decide (x5_1 < (l0.length : Int)) = false := decide_eq_false c4
       clear c4
       obtain rfl := Option.some.inj H
       go_wp2
       repeat (go_quiet (fail); try go_wp2)
       go_ret
       exact ⟨by first | rfl | (simp; done) | (simp [*]; done), by repeat (first | exact Drawn0.refl _ | apply Drawn0.step)⟩
 · rw [if_neg c3] at H
   have c3b0 : ((l0.length : Int) == (l1.length : Int)) = false := beq_eq_false_iff_ne.mpr c3
   have c3b1 : ((l0.length : Int) != (l1.length : Int)) = true := bne_iff_ne.mpr c3
   have c3b2 : (l0.length == l1.length) = false := by first | simpa using c3 | (simp at c3 ⊢; omega)
   obtain rfl := Option.some.inj H
   go_enter Try.func28, Try.ntmps28
   go_wp2
   repeat (go_quiet (fail); try go_wp2)
   go_ret
   exact ⟨by first | rfl | (simp; done) | (simp [*]; done), by repeat (first | exact Drawn0.refl _ | apply Drawn0.step)⟩

/-! ### sleep_Sleeper_cells: function 50 -/
def sleep_Sleeper_cells.l0 : Nat → List Int → List (S62) → Int → Int → Option (List Int)
 | 0, _, _, _, _ => none
 | k + 1, x3, x7, x8, x9 => if x9 < x8 then (if 0 ≤ x9 then (if x9 < (x7.length : Int) then (if x3.length < 17592186044416 then (sleep_Sleeper_cells.l0 k (x3 ++ [(rd_T62 x7 x9).f0]) x7 x8 (wrap64 (x9 + 1))) else (none)) else (none)) else (none)) else (some x3)
def sleep_Sleeper_cells.f (k : Nat) (a0_0 : Int) (a0_1 : Int) (a0_2 : Int) (l0_3 : List (S62)) (l0_4 : List (S80)) : Option (List Int) := sleep_Sleeper_cells.l0 k ([] : List Int) l0_3 (l0_3.length : Int) 0
theorem sleep_Sleeper_cells.mono_l : ∀ k, (∀ y0 y1 y2 y3, LeO (sleep_Sleeper_cells.l0 k y0 y1 y2 y3) (sleep_Sleeper_cells.l0 (k + 1) y0 y1 y2 y3))
 | 0 => fun _ _ _ _ r h => by simp [sleep_Sleeper_cells.l0] at h
 | k + 1 => by
  have ih0 := sleep_Sleeper_cells.mono_l k
  · intro y0 y1 y2 y3
    unfold sleep_Sleeper_cells.l0
    repeat' first
    | (with_reducible exact ih0 _ _ _ _)
    | (with_reducible exact LeO.refl _)
    | (with_reducible exact LeO.none _)
    | (with_reducible refine LeO.ite ?_ ?_)
    | (with_reducible refine LeO.bind ?_ (fun _ => ?_))
    | exact ih0 _ _ _ _
    | exact LeO.none _
    | refine LeO.ite ?_ ?_
    | refine LeO.bind ?_ (fun _ => ?_)
theorem sleep_Sleeper_cells.mono : ∀ a0 a1 a2 a3 a4 k, LeO (sleep_Sleeper_cells.f k a0 a1 a2 a3 a4) (sleep_Sleeper_cells.f (k + 1) a0 a1 a2 a3 a4) := by
 intro a0 a1 a2 a3 a4 k
 have ih0 := sleep_Sleeper_cells.mono_l k
 unfold sleep_Sleeper_cells.f
 repeat' first
  | (with_reducible exact ih0 _ _ _ _)
  | (with_reducible exact LeO.refl _)
  | (with_reducible exact LeO.none _)
  | (with_reducible refine LeO.ite ?_ ?_)
  | (with_reducible refine LeO.bind ?_ (fun _ => ?_))
  | exact ih0 _ _ _ _
  | exact LeO.none _
  | refine LeO.ite ?_ ?_
  | refine LeO.bind ?_ (fun _ => ?_)
set_option maxHeartbeats 8000000 in
set_option maxRecDepth 100000 in
theorem sleep_Sleeper_cells.calls (k : Nat) (a0_0 : Int) (a0_1 : Int) (a0_2 : Int) (A0_3 : Option Addr) (c0_3 : Nat) (l0_3 : List (S62)) (A0_4 : Option Addr) (c0_4 : Nat) (l0_4 : List (S80)) (r : List Int) (w : World) (hr0_3 : Kd.C k62 w A0_3 l0_3.length l0_3) (hc0_3 : l0_3.length ≤ c0_3) (hr0_4 : Kd.C k80 w A0_4 l0_4.length l0_4) (hc0_4 : l0_4.length ≤ c0_4) (h : sleep_Sleeper_cells.f k a0_0 a0_1 a0_2 l0_3 l0_4 = some r) :
 Calls Try.prog 50 #[.agg #[.int .i64 a0_0, .int .i64 a0_1, .int .i64 a0_2, .slice A0_3 l0_3.length c0_3, .slice A0_4 l0_4.length c0_4]] w fun e w' => ∃ v0_ : Value, e = .returned (v0_) ∧ Kd.R (Kd.int .i64) 3 w' w.heap.size (fun _ => True) v0_ r ∧ Below w.heap.size w w' := by
 have hu26 := Try.underlying26
 have hu62 := Try.underlying62
 have HR0_3 := ak hr0_3
 have HC0_3 := ak hc0_3
 clear hr0_3 hc0_3
 have HR0_4 := ak hr0_4
 have HC0_4 := ak hc0_4
 clear hr0_4 hc0_4
 have HB := ak (Below.refl w.heap.size w)
 have H : (sleep_Sleeper_cells.l0 k ([] : List Int) l0_3 (l0_3.length : Int) 0) = some r := h
 clear h
 have H' := ak H
 clear H
 go_enter Try.func50, Try.ntmps50
 go_wp2_with (first | ((with_reducible refine gate_dst (N := 1) rfl ?_); refine box_event ?hg (N := 1) ?hd (cs := #[.int .i64 a0_0, .int .i64 a0_1, .int .i64 a0_2, .slice A0_3 l0_3.length c0_3, .slice A0_4 l0_4.length c0_4]) (t := 26) ?hr ?_; (case hd => rfl); (case hg => rfl); (case hr => first | (go_simp; done) | (go_simp; rfl)); intro gb103 hg w2 hbox hb; replace BK103 := ak (hbox); replace GW103 := ak ((by rw [hg]; exact bsz_ : w.heap.size ≤ gb103)); replace HB := ak (bst_ hb); replace GE103 := GW103; clear hb hbox hg; obtain ⟨hcz3_0, hcz3_1, hcz3_2, hcz3_3, hcz3_4, hfz3_0, hfz3_1, hfz3_2, hfz3_3, hfz3_4⟩ := bz5_ BK103))
 go_loopg [3, 9] k (fun kq v3 v9 w' => ∃ (x3_1 : List Int) (x9_1 : Int), v9 = .int .i64 x9_1 ∧ Aside0 (sleep_Sleeper_cells.l0 kq x3_1 l0_3 (l0_3.length : Int) x9_1 = some r) ∧ Aside0 (kq ≤ k) ∧ Aside0 (Kd.R (Kd.int .i64) 3 w' w.heap.size (fun _ => True) v3 x3_1) ∧ Aside0 (w'.heap[gb103]? = some (.cells #[.int .i64 a0_0, .int .i64 a0_1, .int .i64 a0_2, (.slice A0_3 l0_3.length c0_3), (.slice A0_4 l0_4.length c0_4)] 26 (0, 0))) ∧ Aside0 (Below w.heap.size w w'))
 case atStart => exact ⟨(([] : List Int)), (0), (by first | rfl | (simp; done) | (simp [*]; done)), H', ⟨Nat.le_refl _⟩, ⟨by first | exact Kd.R_nil _ _ _ _ _ | exact Kd.N_nil _ _ _ _ _ | exact Kd.V_nil _ _ _ _ _ | exact Kd.Q_nil _ _ _ _ _ | exact Kd.S_nil _ _ _ _ _⟩, ⟨bq_ BK103⟩, ⟨bsw_⟩⟩
 case round =>
  clear H'
  try clear p2
  try clear hcz3_0
  try clear hcz3_1
  try clear hcz3_2
  try clear hcz3_3
  try clear hcz3_4
  try clear hfz3_0
  try clear hfz3_1
  try clear hfz3_2
  try clear hfz3_3
  try clear hfz3_4
  obtain ⟨x3_1, x9_1, rfl, HA, HK1, HO_3, BK103, HB⟩ := hrel
  cases gk with
  | zero => exact absurd HA.out (by simp [sleep_Sleeper_cells.l0])
  | succ k1 =>
   have H := HA.out
   clear HA
   simp only [sleep_Sleeper_cells.l0] at H
   by_cases c4 : x9_1 < (l0_3.length : Int)
   · rw [if_pos c4] at H
     have c4b0 : decide (x9_1 < (l0_3.length : Int)) = true := decide_eq_true c4
     clear c4
     by_cases c5 : 0 ≤ x9_1
     · rw [if_pos c5] at H
       have c5b0 : decide (0 ≤ x9_1) = true := decide_eq_true c5
       clear c5
       by_cases c6 : x9_1 < (l0_3.length : Int)
       · rw [if_pos c6] at H
         have c6b0 : decide (x9_1 < (l0_3.length : Int)) = true := decide_eq_true c6
         clear c6
         by_cases c7 : x3_1.length < 17592186044416
         · rw [if_pos c7] at H
           have LMc7 := ak c7
           clear c7
           obtain ⟨y106, hy106⟩ : ∃ y_ : List Int, y_ = (x3_1 ++ [(rd_T62 l0_3 x9_1).f0]) := ⟨_, rfl⟩
           replace H : (sleep_Sleeper_cells.l0 k1 y106 l0_3 (l0_3.length : Int) (wrap64 (x9_1 + 1))) = some r := by first | (rw [hy106]; with_reducible exact H) | (have H2_ := (Option.bind_some _ _).symm.trans H; rw [hy106]; with_reducible exact H2_) | (have H2_ := (Option.bind_some _ _).symm.trans H; with_reducible exact H2_) | with_reducible exact H | (rw [hy106]; exact H) | exact H
           have Ny106 := ak hy106
           clear hy106
           have H' := ak H
           clear H
           have p104 : 0 ≤ (x9_1 : Int) := oda_
           have q104 : x9_1 < (l0_3.length : Int) := oda_
           obtain ⟨ad104, e104, hx104_0, hx104_1⟩ := at_T62 HR0_3.out x9_1 p104 q104
           cases e104
           replace hx104_0 := bl_ HB hx104_0
           replace hx104_1 := bl_ HB hx104_1
           replace p104 := eq_true p104
           replace q104 := eq_true q104
           go_wp2_with (first | ((with_reducible refine gate_dst (N := 5) rfl ?_); refine box_event ?hg (N := 5) ?hd (cs := #[.int .i64 0, .int .i64 0]) (t := 62) ?hr ?_; (case hd => rfl); (case hg => rfl); (case hr => first | (go_simp; done) | (go_simp; rfl)); intro gb105 hg w8 hbox hb; replace HO_3 := rb_ HO_3 hb; replace BK105 := ak (hbox); replace GW105 := ak ((by rw [hg]; exact (below_size bsw_) : w.heap.size ≤ gb105)); replace HB := ak (below_step bsw_ hb); replace GE105 := GW105; replace NB103_105 := ak ((by rw [hg]; exact Nat.ne_of_lt (blk_lt (g := gb103) (o := .cells #[.int .i64 a0_0, .int .i64 a0_1, .int .i64 a0_2, .slice (some ad104) l0_3.length c0_3, .slice A0_4 l0_4.length c0_4] 26 (0, 0)) (bq_ BK103)) : gb103 ≠ gb105)); replace NB105_103 := ak ((by rw [hg]; exact Nat.ne_of_gt (blk_lt (g := gb103) (o := .cells #[.int .i64 a0_0, .int .i64 a0_1, .int .i64 a0_2, .slice (some ad104) l0_3.length c0_3, .slice A0_4 l0_4.length c0_4] 26 (0, 0)) (bq_ BK103)) : gb105 ≠ gb103)); replace BK103 := bb_ BK103 hb; clear hb hbox hg; have hnb9 := NB105_103.out; have hnc9 := NB103_105.out; obtain ⟨hcz10_0, hcz10_1, hfz10_0, hfz10_1⟩ := bz2_ BK105) | ((with_reducible refine gate_builtin (b := .append) (xs := #[.tmp 13, .tmp 16]) rfl ?_); at_builtin; refine Kd.R_append (Kd.int .i64) (w0 := w) w.heap.size rfl (.tmp 13) (.tmp 16) 27 3 (.int .i64 0) 8 rfl Try.underlying27 info3 rfl (by decide) (by omega) u3 x3_1 ((rd_T62 l0_3 x9_1).f0) [.int .i64 ((rd_T62 l0_3 x9_1).f0)] (fun _ => True) (fun _ => False) rfl (by first | (go_simp; done) | (go_simp; rfl)) ?aP (fun _ hk => hk.elim) ?aF ?aO ?aB ?aS ?aL ?_; (case aP => exact rfl); (case aB => exact (by repeat (first | (with_reducible first | exact HB.out | apply below_alloc | apply pw_below_drewN | apply below_drew1 | refine below_set ?_ GE103.out | refine below_set ?_ GE105.out) | exact HB.out))); (case aF => exact (fun _ _ => trivial)); (case aO => exact (by (with_reducible repeat (first | apply Kd.R_alloc | apply Kd.R_drewN | apply Kd.R_drew)); exact Kd.R_mono (Kd.R_far (p := ⟨gb105, 1, none⟩) (Kd.R_far (p := ⟨gb105, 0, none⟩) (Kd.R_types HO_3.out BK105.out (by decide)) (fun _ hk => hk.2) (.int .i64 ((rd_T62 l0_3 x9_1).f0))) (fun _ hk => hk.2) (.int .i64 ((rd_T62 l0_3 x9_1).f1))) (fun _ hk => trivial))); (case aS => exact (below_size (by repeat (first | (with_reducible first | exact HB.out | apply below_alloc | apply pw_below_drewN | apply below_drew1 | refine below_set ?_ GE103.out | refine below_set ?_ GE105.out) | exact HB.out)))); (case aL => have := LMc7.out; omega); intro v107 w11 ho hb hg hat; rw [← Ny106.out] at ho; replace BK103 := ak (blk_grown (g := gb103) (o := .cells #[.int .i64 a0_0, .int .i64 a0_1, .int .i64 a0_2, .slice (some ad104) l0_3.length c0_3, .slice A0_4 l0_4.length c0_4] 26 (0, 0)) (by (with_reducible repeat (first | refine blk_drewN ?_ _ | refine blk_drew ?_ | refine blk_alloc ?_ _)); refine blk_far ?_ NB103_105.out _; (with_reducible repeat (first | refine blk_drewN ?_ _ | refine blk_drew ?_ | refine blk_alloc ?_ _)); refine blk_far ?_ NB103_105.out _; (with_reducible repeat (first | refine blk_drewN ?_ _ | refine blk_drew ?_ | refine blk_alloc ?_ _)); exact BK103.out) hg (Kd.R_ne HO_3.out BK103.out (by decide))); replace BK105 := ak (blk_grown (g := gb105) (o := .cells #[.int .i64 ((rd_T62 l0_3 x9_1).f0), .int .i64 ((rd_T62 l0_3 x9_1).f1)] 62 (0, 0)) (by (with_reducible repeat (first | refine blk_drewN ?_ _ | refine blk_drew ?_ | refine blk_alloc ?_ _)); refine blk_put (cs := #[.int .i64 ((rd_T62 l0_3 x9_1).f0), .int .i64 0]) ?_ 1 _ rfl; (with_reducible repeat (first | refine blk_drewN ?_ _ | refine blk_drew ?_ | refine blk_alloc ?_ _)); refine blk_put (cs := #[.int .i64 0, .int .i64 0]) ?_ 0 _ rfl; (with_reducible repeat (first | refine blk_drewN ?_ _ | refine blk_drew ?_ | refine blk_alloc ?_ _)); exact BK105.out) hg (Kd.R_ne HO_3.out BK105.out (by decide))); replace HB := ak (hb); replace HO108 := ak (ho); clear HO_3; clear ho hb hg hat))
           go_roundg k1
           case measure => have := HK1.out; omega
           case rel => exact ⟨(y106), (wrap64 (x9_1 + 1)), (by first | rfl | (simp; done) | (simp [*]; done)), H', ⟨by have := HK1.out; omega⟩, ⟨rq_ HO108⟩, ⟨bq_ BK103⟩, ⟨by repeat (first | (with_reducible first | exact HB.out | apply below_alloc | apply pw_below_drewN | apply below_drew1 | refine below_set ?_ GE103.out | refine below_set ?_ GE105.out) | exact HB.out)⟩⟩
         · rw [if_neg c7] at H
           exact absurd H (by simp)
       · rw [if_neg c6] at H
         exact absurd H (by simp)
     · rw [if_neg c5] at H
       exact absurd H (by simp)
   · rw [if_neg c4] at H
     have c4b0 : decide (x9_1 < (l0_3.length : Int)) = false := decide_eq_false c4
     clear c4
     obtain rfl := Option.some.inj H
     go_wp2
     go_ret
     exact ⟨_, by first | rfl | (simp [errW_none, errW_some] <;> rfl) | (simp [*, errW_none, errW_some] <;> rfl), rq_ HO_3, bsw_⟩

/-! ### tick_Right: function 58 -/
def tick_Right.f (a0 : Int) : Option (Bool) := if a0 ≥ 0 then (some (decide (a0 ≤ 2147483647))) else (some false)
set_option maxHeartbeats 8000000 in
set_option maxRecDepth 100000 in
theorem tick_Right.calls (a0 : Int) (r : Bool) (w : World) (h : tick_Right.f a0 = some r) :
 Calls Try.prog 58 #[.int .i64 a0] w fun e w' => e = .returned (.bool r) ∧ Drawn0 w w' := by
 have H : (if a0 ≥ 0 then (some (decide (a0 ≤ 2147483647))) else (some false)) = some r := h
 clear h
 by_cases c2 : a0 ≥ 0
 · rw [if_pos c2] at H
   have c2b0 : decide (0 ≤ a0) = true := decide_eq_true c2
   clear c2
   obtain rfl := Option.some.inj H
   go_enter Try.func58, Try.ntmps58
   go_wp2
   go_ret
   exact ⟨by first | rfl | (simp; done) | (simp [*]; done), by repeat (first | exact Drawn0.refl _ | apply Drawn0.step)⟩
 · rw [if_neg c2] at H
   have c2b0 : decide (0 ≤ a0) = false := decide_eq_false c2
   clear c2
   obtain rfl := Option.some.inj H
   go_enter Try.func58, Try.ntmps58
   go_wp2
   go_ret
   exact ⟨by first | rfl | (simp; done) | (simp [*]; done), by repeat (first | exact Drawn0.refl _ | apply Drawn0.step)⟩

/-! ### span_Right: function 59 -/
def span_Right.f (a0 : Int) : Option (Bool) := if a0 ≥ (-2147483648) then (some (decide (a0 ≤ 2147483647))) else (some false)
set_option maxHeartbeats 8000000 in
set_option maxRecDepth 100000 in
theorem span_Right.calls (a0 : Int) (r : Bool) (w : World) (h : span_Right.f a0 = some r) :
 Calls Try.prog 59 #[.int .i64 a0] w fun e w' => e = .returned (.bool r) ∧ Drawn0 w w' := by
 have H : (if a0 ≥ (-2147483648) then (some (decide (a0 ≤ 2147483647))) else (some false)) = some r := h
 clear h
 by_cases c2 : a0 ≥ (-2147483648)
 · rw [if_pos c2] at H
   have c2b0 : decide ((-2147483648) ≤ a0) = true := decide_eq_true c2
   clear c2
   obtain rfl := Option.some.inj H
   go_enter Try.func59, Try.ntmps59
   go_wp2
   go_ret
   exact ⟨by first | rfl | (simp; done) | (simp [*]; done), by repeat (first | exact Drawn0.refl _ | apply Drawn0.step)⟩
 · rw [if_neg c2] at H
   have c2b0 : decide ((-2147483648) ≤ a0) = false := decide_eq_false c2
   clear c2
   obtain rfl := Option.some.inj H
   go_enter Try.func59, Try.ntmps59
   go_wp2
   go_ret
   exact ⟨by first | rfl | (simp; done) | (simp [*]; done), by repeat (first | exact Drawn0.refl _ | apply Drawn0.step)⟩

/-! ### sleep_watches: function 67 -/
def sleep_watches.l0 : Nat → List (S62) → List (S62) → Int → Int → Option (Bool)
 | 0, _, _, _, _ => none
 | k + 1, x0, x5, x6, x7 => if x7 < x6 then (if 0 ≤ x7 then (if x7 < (x5.length : Int) then (if ((rd_T62 x5 x7).f0) < 0 then (some false) else (if ((rd_T62 x5 x7).f0) ≥ 64 then (some false) else ((span_Right.f ((rd_T62 x5 x7).f1)).bind fun t111 => (if t111 = true then (if x7 > 0 then (if 0 ≤ (wrap64 (x7 - 1)) then (if (wrap64 (x7 - 1)) < (x0.length : Int) then (if ((rd_T62 x0 (wrap64 (x7 - 1))).f0) ≥ ((rd_T62 x5 x7).f0) then (some false) else (sleep_watches.l0 k x0 x5 x6 (wrap64 (x7 + 1)))) else (none)) else (none)) else (sleep_watches.l0 k x0 x5 x6 (wrap64 (x7 + 1)))) else (some false))))) else (none)) else (none)) else (some (decide ((x0.length : Int) ≤ 24)))
def sleep_watches.f (k : Nat) (l0 : List (S62)) : Option (Bool) := sleep_watches.l0 k l0 l0 (l0.length : Int) 0
theorem sleep_watches.mono_l : ∀ k, (∀ y0 y1 y2 y3, LeO (sleep_watches.l0 k y0 y1 y2 y3) (sleep_watches.l0 (k + 1) y0 y1 y2 y3))
 | 0 => fun _ _ _ _ r h => by simp [sleep_watches.l0] at h
 | k + 1 => by
  have ih0 := sleep_watches.mono_l k
  · intro y0 y1 y2 y3
    unfold sleep_watches.l0
    repeat' first
    | (with_reducible exact ih0 _ _ _ _)
    | (with_reducible exact LeO.refl _)
    | (with_reducible exact LeO.none _)
    | (with_reducible refine LeO.ite ?_ ?_)
    | (with_reducible refine LeO.bind ?_ (fun _ => ?_))
    | exact ih0 _ _ _ _
    | exact LeO.none _
    | refine LeO.ite ?_ ?_
    | refine LeO.bind ?_ (fun _ => ?_)
theorem sleep_watches.mono : ∀ a0 k, LeO (sleep_watches.f k a0) (sleep_watches.f (k + 1) a0) := by
 intro a0 k
 have ih0 := sleep_watches.mono_l k
 unfold sleep_watches.f
 repeat' first
  | (with_reducible exact ih0 _ _ _ _)
  | (with_reducible exact LeO.refl _)
  | (with_reducible exact LeO.none _)
  | (with_reducible refine LeO.ite ?_ ?_)
  | (with_reducible refine LeO.bind ?_ (fun _ => ?_))
  | exact ih0 _ _ _ _
  | exact LeO.none _
  | refine LeO.ite ?_ ?_
  | refine LeO.bind ?_ (fun _ => ?_)
set_option maxHeartbeats 8000000 in
set_option maxRecDepth 100000 in
theorem sleep_watches.calls (k : Nat) (A0 : Option Addr) (c0 : Nat) (l0 : List (S62)) (r : Bool) (w : World) (hr0 : Kd.C k62 w A0 l0.length l0) (hc0 : l0.length ≤ c0) (h : sleep_watches.f k l0 = some r) :
 Calls Try.prog 67 #[.slice A0 l0.length c0] w fun e w' => e = .returned (.bool r) ∧ Below w.heap.size w w' := by
 have hu62 := Try.underlying62
 have HR0 := ak hr0
 have HC0 := ak hc0
 clear hr0 hc0
 have HB := ak (Below.refl w.heap.size w)
 have H : (sleep_watches.l0 k l0 l0 (l0.length : Int) 0) = some r := h
 clear h
 have H' := ak H
 clear H
 go_enter Try.func67, Try.ntmps67
 go_wp2
 repeat (go_quiet (fail); try go_wp2)
 go_loopg [7] k (fun kq v7 w' => ∃ (x7_1 : Int), v7 = .int .i64 x7_1 ∧ Aside0 (sleep_watches.l0 kq l0 l0 (l0.length : Int) x7_1 = some r) ∧ Aside0 (kq ≤ k) ∧ Aside0 (Below w.heap.size w w'))
 case atStart => exact ⟨(0), (by first | rfl | (simp; done) | (simp [*]; done)), H', ⟨Nat.le_refl _⟩, ⟨bsv_⟩⟩
 case round =>
  clear H'
  obtain ⟨x7_1, rfl, HA, HK1, HB⟩ := hrel
  cases gk with
  | zero => exact absurd HA.out (by simp [sleep_watches.l0])
  | succ k1 =>
   have H := HA.out
   clear HA
   simp only [sleep_watches.l0] at H
   by_cases c2 : x7_1 < (l0.length : Int)
   · rw [if_pos c2] at H
     have c2b0 : decide (x7_1 < (l0.length : Int)) = true := decide_eq_true c2
     clear c2
     by_cases c3 : 0 ≤ x7_1
     · rw [if_pos c3] at H
       have c3b0 : decide (0 ≤ x7_1) = true := decide_eq_true c3
       clear c3
       by_cases c4 : x7_1 < (l0.length : Int)
       · rw [if_pos c4] at H
         have c4b0 : decide (x7_1 < (l0.length : Int)) = true := decide_eq_true c4
         clear c4
         by_cases c5 : ((rd_T62 l0 x7_1).f0) < 0
         · rw [if_pos c5] at H
           have c5b0 : decide (((rd_T62 l0 x7_1).f0) < 0) = true := decide_eq_true c5
           clear c5
           obtain rfl := Option.some.inj H
           have p109 : 0 ≤ (x7_1 : Int) := oda_
           have q109 : x7_1 < (l0.length : Int) := oda_
           obtain ⟨ad109, e109, hx109_0, hx109_1⟩ := at_T62 HR0.out x7_1 p109 q109
           cases e109
           replace hx109_0 := bl_ HB hx109_0
           replace hx109_1 := bl_ HB hx109_1
           replace p109 := eq_true p109
           replace q109 := eq_true q109
           go_wp2_with (first | ((with_reducible refine gate_dst (N := 4) rfl ?_); refine box_event ?hg (N := 4) ?hd (cs := #[.int .i64 0, .int .i64 0]) (t := 62) ?hr ?_; (case hd => rfl); (case hg => rfl); (case hr => first | (go_simp; done) | (go_simp; rfl)); intro gb110 hg w6 hbox hb; replace BK110 := ak (hbox); replace GW110 := ak ((by rw [hg]; exact bsz_ : w.heap.size ≤ gb110)); replace HB := ak (bst_ hb); replace GE110 := GW110; clear hb hbox hg; obtain ⟨hcz7_0, hcz7_1, hfz7_0, hfz7_1⟩ := bz2_ BK110))
           repeat (go_quiet (first | ((with_reducible refine gate_dst (N := 4) rfl ?_); refine box_event ?hg (N := 4) ?hd (cs := #[.int .i64 0, .int .i64 0]) (t := 62) ?hr ?_; (case hd => rfl); (case hg => rfl); (case hr => first | (go_simp; done) | (go_simp; rfl)); intro gb110 hg w6 hbox hb; replace BK110 := ak (hbox); replace GW110 := ak ((by rw [hg]; exact bsz_ : w.heap.size ≤ gb110)); replace HB := ak (bst_ hb); replace GE110 := GW110; clear hb hbox hg; obtain ⟨hcz7_0, hcz7_1, hfz7_0, hfz7_1⟩ := bz2_ BK110)); try go_wp2_with (first | ((with_reducible refine gate_dst (N := 4) rfl ?_); refine box_event ?hg (N := 4) ?hd (cs := #[.int .i64 0, .int .i64 0]) (t := 62) ?hr ?_; (case hd => rfl); (case hg => rfl); (case hr => first | (go_simp; done) | (go_simp; rfl)); intro gb110 hg w6 hbox hb; replace BK110 := ak (hbox); replace GW110 := ak ((by rw [hg]; exact bsz_ : w.heap.size ≤ gb110)); replace HB := ak (bst_ hb); replace GE110 := GW110; clear hb hbox hg; obtain ⟨hcz7_0, hcz7_1, hfz7_0, hfz7_1⟩ := bz2_ BK110)))
           go_ret
           exact ⟨by first | rfl | (simp [errW_none, errW_some] <;> rfl) | (simp [*, errW_none, errW_some] <;> rfl), bsw_⟩
         · rw [if_neg c5] at H
           have c5b0 : decide (((rd_T62 l0 x7_1).f0) < 0) = false := decide_eq_false c5
           clear c5
           by_cases c8 : ((rd_T62 l0 x7_1).f0) ≥ 64
           · rw [if_pos c8] at H
             have c8b0 : decide (64 ≤ ((rd_T62 l0 x7_1).f0)) = true := decide_eq_true c8
             clear c8
             obtain rfl := Option.some.inj H
             have p109 : 0 ≤ (x7_1 : Int) := oda_
             have q109 : x7_1 < (l0.length : Int) := oda_
             obtain ⟨ad109, e109, hx109_0, hx109_1⟩ := at_T62 HR0.out x7_1 p109 q109
             cases e109
             replace hx109_0 := bl_ HB hx109_0
             replace hx109_1 := bl_ HB hx109_1
             replace p109 := eq_true p109
             replace q109 := eq_true q109
             go_wp2_with (first | ((with_reducible refine gate_dst (N := 4) rfl ?_); refine box_event ?hg (N := 4) ?hd (cs := #[.int .i64 0, .int .i64 0]) (t := 62) ?hr ?_; (case hd => rfl); (case hg => rfl); (case hr => first | (go_simp; done) | (go_simp; rfl)); intro gb110 hg w9 hbox hb; replace BK110 := ak (hbox); replace GW110 := ak ((by rw [hg]; exact bsz_ : w.heap.size ≤ gb110)); replace HB := ak (bst_ hb); replace GE110 := GW110; clear hb hbox hg; obtain ⟨hcz10_0, hcz10_1, hfz10_0, hfz10_1⟩ := bz2_ BK110))
             repeat (go_quiet (first | ((with_reducible refine gate_dst (N := 4) rfl ?_); refine box_event ?hg (N := 4) ?hd (cs := #[.int .i64 0, .int .i64 0]) (t := 62) ?hr ?_; (case hd => rfl); (case hg => rfl); (case hr => first | (go_simp; done) | (go_simp; rfl)); intro gb110 hg w9 hbox hb; replace BK110 := ak (hbox); replace GW110 := ak ((by rw [hg]; exact bsz_ : w.heap.size ≤ gb110)); replace HB := ak (bst_ hb); replace GE110 := GW110; clear hb hbox hg; obtain ⟨hcz10_0, hcz10_1, hfz10_0, hfz10_1⟩ := bz2_ BK110)); try go_wp2_with (first | ((with_reducible refine gate_dst (N := 4) rfl ?_); refine box_event ?hg (N := 4) ?hd (cs := #[.int .i64 0, .int .i64 0]) (t := 62) ?hr ?_; (case hd => rfl); (case hg => rfl); (case hr => first | (go_simp; done) | (go_simp; rfl)); intro gb110 hg w9 hbox hb; replace BK110 := ak (hbox); replace GW110 := ak ((by rw [hg]; exact bsz_ : w.heap.size ≤ gb110)); replace HB := ak (bst_ hb); replace GE110 := GW110; clear hb hbox hg; obtain ⟨hcz10_0, hcz10_1, hfz10_0, hfz10_1⟩ := bz2_ BK110)))
             go_ret
             exact ⟨by first | rfl | (simp [errW_none, errW_some] <;> rfl) | (simp [*, errW_none, errW_some] <;> rfl), bsw_⟩
           · rw [if_neg c8] at H
             have c8b0 : decide (64 ≤ ((rd_T62 l0 x7_1).f0)) = false := decide_eq_false c8
             clear c8
             obtain ⟨t111, A11, H⟩ := bd_ H
             by_cases c12 : t111 = true
             · subst c12
               rw [if_pos rfl] at H
               by_cases c13 : x7_1 > 0
               · rw [if_pos c13] at H
                 have c13b0 : decide (0 < x7_1) = true := decide_eq_true c13
                 clear c13
                 obtain ⟨ji14, hji14⟩ : ∃ j_ : Int, (wrap64 (x7_1 - 1)) = j_ := ⟨_, rfl⟩
                 replace H : (if 0 ≤ (ji14) then (if (ji14) < (l0.length : Int) then (if ((rd_T62 l0 (ji14)).f0) ≥ ((rd_T62 l0 x7_1).f0) then (some false) else (sleep_watches.l0 k1 l0 l0 (l0.length : Int) (wrap64 (x7_1 + 1)))) else (none)) else (none)) = some r := by first | (rw [hji14] at H; exact H) | (simp only [hji14] at H ⊢; exact H)
                 (try rw [hji14] at A11)
                 have hji14w : (IntKind.i64.wrap (x7_1 - 1)) = ji14 := (i64_w _).trans hji14
                 by_cases c15 : 0 ≤ (ji14)
                 · rw [if_pos c15] at H
                   have c15b0 : decide (0 ≤ (ji14)) = true := decide_eq_true c15
                   clear c15
                   by_cases c16 : (ji14) < (l0.length : Int)
                   · rw [if_pos c16] at H
                     have c16b0 : decide ((ji14) < (l0.length : Int)) = true := decide_eq_true c16
                     clear c16
                     by_cases c17 : ((rd_T62 l0 (ji14)).f0) ≥ ((rd_T62 l0 x7_1).f0)
                     · rw [if_pos c17] at H
                       have c17b0 : decide (((rd_T62 l0 x7_1).f0) ≤ ((rd_T62 l0 (ji14)).f0)) = true := decide_eq_true c17
                       clear c17
                       obtain rfl := Option.some.inj H
                       have p109 : 0 ≤ (x7_1 : Int) := oda_
                       have q109 : x7_1 < (l0.length : Int) := oda_
                       obtain ⟨ad109, e109, hx109_0, hx109_1⟩ := at_T62 HR0.out x7_1 p109 q109
                       cases e109
                       replace hx109_0 := bl_ HB hx109_0
                       replace hx109_1 := bl_ HB hx109_1
                       replace p109 := eq_true p109
                       replace q109 := eq_true q109
                       go_wp2_with (first | ((with_reducible refine gate_dst (N := 4) rfl ?_); refine box_event ?hg (N := 4) ?hd (cs := #[.int .i64 0, .int .i64 0]) (t := 62) ?hr ?_; (case hd => rfl); (case hg => rfl); (case hr => first | (go_simp; done) | (go_simp; rfl)); intro gb110 hg w18 hbox hb; replace BK110 := ak (hbox); replace GW110 := ak ((by rw [hg]; exact bsz_ : w.heap.size ≤ gb110)); replace HB := ak (bst_ hb); replace GE110 := GW110; clear hb hbox hg; obtain ⟨hcz19_0, hcz19_1, hfz19_0, hfz19_1⟩ := bz2_ BK110) | (go_at_call 59; (with_reducible refine (span_Right.calls ((rd_T62 l0 x7_1).f1) true _ A11.out).mono ?_); rintro e w' ⟨rfl, ⟨nd, rfl⟩⟩; (try first | exact ⟨rfl, _, World.drewN_drewN _ _ _⟩ | exact ⟨rfl, _, Eq.trans (World.drewN_drewN _ _ _) (congrArg (World.drewN _) (Nat.add_assoc _ _ _))⟩); have p112 : 0 ≤ ((ji14) : Int) := oda_; have q112 : (ji14) < (l0.length : Int) := oda_; obtain ⟨ad112, e112, hx112_0, hx112_1⟩ := at_T62 HR0.out (ji14) p112 q112; obtain rfl : ad109 = ad112 := (by injection e112); have hn112_0 : ad109.block ≠ gb110 := Nat.ne_of_lt (Nat.lt_of_lt_of_le (by have := World.block_lt_of_cell? _ _ hx112_0; first | rwa [add_block] at this | exact this) GW110.out); have hn112_1 : ad109.block ≠ gb110 := Nat.ne_of_lt (Nat.lt_of_lt_of_le (by have := World.block_lt_of_cell? _ _ hx112_0; first | rwa [add_block] at this | exact this) GW110.out); replace hx112_0 := bl_ HB hx112_0; replace hx112_1 := bl_ HB hx112_1; replace hx112_0 := (cell_far (p := ⟨gb110, 0, none⟩) (by first | (rw [add_block]; exact hn112_0) | (show (Addr.add _ _).block ≠ _; rw [add_block]; exact hn112_0) | exact hn112_0) (.int .i64 ((rd_T62 l0 x7_1).f0))).trans hx112_0; replace hx112_1 := (cell_far (p := ⟨gb110, 0, none⟩) (by first | (rw [add_block]; exact hn112_0) | (show (Addr.add _ _).block ≠ _; rw [add_block]; exact hn112_0) | exact hn112_0) (.int .i64 ((rd_T62 l0 x7_1).f0))).trans hx112_1; replace hx112_0 := (cell_far (p := ⟨gb110, 1, none⟩) (by first | (rw [add_block]; exact hn112_1) | (show (Addr.add _ _).block ≠ _; rw [add_block]; exact hn112_1) | exact hn112_1) (.int .i64 ((rd_T62 l0 x7_1).f1))).trans hx112_0; replace hx112_1 := (cell_far (p := ⟨gb110, 1, none⟩) (by first | (rw [add_block]; exact hn112_1) | (show (Addr.add _ _).block ≠ _; rw [add_block]; exact hn112_1) | exact hn112_1) (.int .i64 ((rd_T62 l0 x7_1).f1))).trans hx112_1; (try have hy112_0 := fun (n_ : Nat) => (show ((((w18.drewN n_).setCell ⟨gb110, 0, none⟩ (.int .i64 ((rd_T62 l0 x7_1).f0))).setCell ⟨gb110, 1, none⟩ (.int .i64 ((rd_T62 l0 x7_1).f1)))).cell? _ = some _ from hx112_0)); (try have hy112_1 := fun (n_ : Nat) => (show ((((w18.drewN n_).setCell ⟨gb110, 0, none⟩ (.int .i64 ((rd_T62 l0 x7_1).f0))).setCell ⟨gb110, 1, none⟩ (.int .i64 ((rd_T62 l0 x7_1).f1)))).cell? _ = some _ from hx112_1)); clear hn112_0; clear hn112_1; replace p112 := eq_true p112; replace q112 := eq_true q112))
                       repeat (go_quiet (first | ((with_reducible refine gate_dst (N := 4) rfl ?_); refine box_event ?hg (N := 4) ?hd (cs := #[.int .i64 0, .int .i64 0]) (t := 62) ?hr ?_; (case hd => rfl); (case hg => rfl); (case hr => first | (go_simp; done) | (go_simp; rfl)); intro gb110 hg w18 hbox hb; replace BK110 := ak (hbox); replace GW110 := ak ((by rw [hg]; exact bsz_ : w.heap.size ≤ gb110)); replace HB := ak (bst_ hb); replace GE110 := GW110; clear hb hbox hg; obtain ⟨hcz19_0, hcz19_1, hfz19_0, hfz19_1⟩ := bz2_ BK110) | (go_at_call 59; (with_reducible refine (span_Right.calls ((rd_T62 l0 x7_1).f1) true _ A11.out).mono ?_); rintro e w' ⟨rfl, ⟨nd, rfl⟩⟩; (try first | exact ⟨rfl, _, World.drewN_drewN _ _ _⟩ | exact ⟨rfl, _, Eq.trans (World.drewN_drewN _ _ _) (congrArg (World.drewN _) (Nat.add_assoc _ _ _))⟩); have p112 : 0 ≤ ((ji14) : Int) := oda_; have q112 : (ji14) < (l0.length : Int) := oda_; obtain ⟨ad112, e112, hx112_0, hx112_1⟩ := at_T62 HR0.out (ji14) p112 q112; obtain rfl : ad109 = ad112 := (by injection e112); have hn112_0 : ad109.block ≠ gb110 := Nat.ne_of_lt (Nat.lt_of_lt_of_le (by have := World.block_lt_of_cell? _ _ hx112_0; first | rwa [add_block] at this | exact this) GW110.out); have hn112_1 : ad109.block ≠ gb110 := Nat.ne_of_lt (Nat.lt_of_lt_of_le (by have := World.block_lt_of_cell? _ _ hx112_0; first | rwa [add_block] at this | exact this) GW110.out); replace hx112_0 := bl_ HB hx112_0; replace hx112_1 := bl_ HB hx112_1; replace hx112_0 := (cell_far (p := ⟨gb110, 0, none⟩) (by first | (rw [add_block]; exact hn112_0) | (show (Addr.add _ _).block ≠ _; rw [add_block]; exact hn112_0) | exact hn112_0) (.int .i64 ((rd_T62 l0 x7_1).f0))).trans hx112_0; replace hx112_1 := (cell_far (p := ⟨gb110, 0, none⟩) (by first | (rw [add_block]; exact hn112_0) | (show (Addr.add _ _).block ≠ _; rw [add_block]; exact hn112_0) | exact hn112_0) (.int .i64 ((rd_T62 l0 x7_1).f0))).trans hx112_1; replace hx112_0 := (cell_far (p := ⟨gb110, 1, none⟩) (by first | (rw [add_block]; exact hn112_1) | (show (Addr.add _ _).block ≠ _; rw [add_block]; exact hn112_1) | exact hn112_1) (.int .i64 ((rd_T62 l0 x7_1).f1))).trans hx112_0; replace hx112_1 := (cell_far (p := ⟨gb110, 1, none⟩) (by first | (rw [add_block]; exact hn112_1) | (show (Addr.add _ _).block ≠ _; rw [add_block]; exact hn112_1) | exact hn112_1) (.int .i64 ((rd_T62 l0 x7_1).f1))).trans hx112_1; (try have hy112_0 := fun (n_ : Nat) => (show ((((w18.drewN n_).setCell ⟨gb110, 0, none⟩ (.int .i64 ((rd_T62 l0 x7_1).f0))).setCell ⟨gb110, 1, none⟩ (.int .i64 ((rd_T62 l0 x7_1).f1)))).cell? _ = some _ from hx112_0)); (try have hy112_1 := fun (n_ : Nat) => (show ((((w18.drewN n_).setCell ⟨gb110, 0, none⟩ (.int .i64 ((rd_T62 l0 x7_1).f0))).setCell ⟨gb110, 1, none⟩ (.int .i64 ((rd_T62 l0 x7_1).f1)))).cell? _ = some _ from hx112_1)); clear hn112_0; clear hn112_1; replace p112 := eq_true p112; replace q112 := eq_true q112)); try go_wp2_with (first | ((with_reducible refine gate_dst (N := 4) rfl ?_); refine box_event ?hg (N := 4) ?hd (cs := #[.int .i64 0, .int .i64 0]) (t := 62) ?hr ?_; (case hd => rfl); (case hg => rfl); (case hr => first | (go_simp; done) | (go_simp; rfl)); intro gb110 hg w18 hbox hb; replace BK110 := ak (hbox); replace GW110 := ak ((by rw [hg]; exact bsz_ : w.heap.size ≤ gb110)); replace HB := ak (bst_ hb); replace GE110 := GW110; clear hb hbox hg; obtain ⟨hcz19_0, hcz19_1, hfz19_0, hfz19_1⟩ := bz2_ BK110) | (go_at_call 59; (with_reducible refine (span_Right.calls ((rd_T62 l0 x7_1).f1) true _ A11.out).mono ?_); rintro e w' ⟨rfl, ⟨nd, rfl⟩⟩; (try first | exact ⟨rfl, _, World.drewN_drewN _ _ _⟩ | exact ⟨rfl, _, Eq.trans (World.drewN_drewN _ _ _) (congrArg (World.drewN _) (Nat.add_assoc _ _ _))⟩); have p112 : 0 ≤ ((ji14) : Int) := oda_; have q112 : (ji14) < (l0.length : Int) := oda_; obtain ⟨ad112, e112, hx112_0, hx112_1⟩ := at_T62 HR0.out (ji14) p112 q112; obtain rfl : ad109 = ad112 := (by injection e112); have hn112_0 : ad109.block ≠ gb110 := Nat.ne_of_lt (Nat.lt_of_lt_of_le (by have := World.block_lt_of_cell? _ _ hx112_0; first | rwa [add_block] at this | exact this) GW110.out); have hn112_1 : ad109.block ≠ gb110 := Nat.ne_of_lt (Nat.lt_of_lt_of_le (by have := World.block_lt_of_cell? _ _ hx112_0; first | rwa [add_block] at this | exact this) GW110.out); replace hx112_0 := bl_ HB hx112_0; replace hx112_1 := bl_ HB hx112_1; replace hx112_0 := (cell_far (p := ⟨gb110, 0, none⟩) (by first | (rw [add_block]; exact hn112_0) | (show (Addr.add _ _).block ≠ _; rw [add_block]; exact hn112_0) | exact hn112_0) (.int .i64 ((rd_T62 l0 x7_1).f0))).trans hx112_0; replace hx112_1 := (cell_far (p := ⟨gb110, 0, none⟩) (by first | (rw [add_block]; exact hn112_0) | (show (Addr.add _ _).block ≠ _; rw [add_block]; exact hn112_0) | exact hn112_0) (.int .i64 ((rd_T62 l0 x7_1).f0))).trans hx112_1; replace hx112_0 := (cell_far (p := ⟨gb110, 1, none⟩) (by first | (rw [add_block]; exact hn112_1) | (show (Addr.add _ _).block ≠ _; rw [add_block]; exact hn112_1) | exact hn112_1) (.int .i64 ((rd_T62 l0 x7_1).f1))).trans hx112_0; replace hx112_1 := (cell_far (p := ⟨gb110, 1, none⟩) (by first | (rw [add_block]; exact hn112_1) | (show (Addr.add _ _).block ≠ _; rw [add_block]; exact hn112_1) | exact hn112_1) (.int .i64 ((rd_T62 l0 x7_1).f1))).trans hx112_1; (try have hy112_0 := fun (n_ : Nat) => (show ((((w18.drewN n_).setCell ⟨gb110, 0, none⟩ (.int .i64 ((rd_T62 l0 x7_1).f0))).setCell ⟨gb110, 1, none⟩ (.int .i64 ((rd_T62 l0 x7_1).f1)))).cell? _ = some _ from hx112_0)); (try have hy112_1 := fun (n_ : Nat) => (show ((((w18.drewN n_).setCell ⟨gb110, 0, none⟩ (.int .i64 ((rd_T62 l0 x7_1).f0))).setCell ⟨gb110, 1, none⟩ (.int .i64 ((rd_T62 l0 x7_1).f1)))).cell? _ = some _ from hx112_1)); clear hn112_0; clear hn112_1; replace p112 := eq_true p112; replace q112 := eq_true q112)))
                       go_ret
                       exact ⟨by first | rfl | (simp [errW_none, errW_some] <;> rfl) | (simp only [← hji14]; first | rfl | (simp [errW_none, errW_some] <;> rfl)) | (simp [*, errW_none, errW_some] <;> rfl), bsw_⟩
                     · rw [if_neg c17] at H
                       have c17b0 : decide (((rd_T62 l0 x7_1).f0) ≤ ((rd_T62 l0 (ji14)).f0)) = false := decide_eq_false c17
                       clear c17
                       have H' := ak H
                       clear H
                       have p109 : 0 ≤ (x7_1 : Int) := oda_
                       have q109 : x7_1 < (l0.length : Int) := oda_
                       obtain ⟨ad109, e109, hx109_0, hx109_1⟩ := at_T62 HR0.out x7_1 p109 q109
                       cases e109
                       replace hx109_0 := bl_ HB hx109_0
                       replace hx109_1 := bl_ HB hx109_1
                       replace p109 := eq_true p109
                       replace q109 := eq_true q109
                       go_wp2_with (first | ((with_reducible refine gate_dst (N := 4) rfl ?_); refine box_event ?hg (N := 4) ?hd (cs := #[.int .i64 0, .int .i64 0]) (t := 62) ?hr ?_; (case hd => rfl); (case hg => rfl); (case hr => first | (go_simp; done) | (go_simp; rfl)); intro gb110 hg w20 hbox hb; replace BK110 := ak (hbox); replace GW110 := ak ((by rw [hg]; exact bsz_ : w.heap.size ≤ gb110)); replace HB := ak (bst_ hb); replace GE110 := GW110; clear hb hbox hg; obtain ⟨hcz21_0, hcz21_1, hfz21_0, hfz21_1⟩ := bz2_ BK110) | (go_at_call 59; (with_reducible refine (span_Right.calls ((rd_T62 l0 x7_1).f1) true _ A11.out).mono ?_); rintro e w' ⟨rfl, ⟨nd, rfl⟩⟩; (try first | exact ⟨rfl, _, World.drewN_drewN _ _ _⟩ | exact ⟨rfl, _, Eq.trans (World.drewN_drewN _ _ _) (congrArg (World.drewN _) (Nat.add_assoc _ _ _))⟩); have p112 : 0 ≤ ((ji14) : Int) := oda_; have q112 : (ji14) < (l0.length : Int) := oda_; obtain ⟨ad112, e112, hx112_0, hx112_1⟩ := at_T62 HR0.out (ji14) p112 q112; obtain rfl : ad109 = ad112 := (by injection e112); have hn112_0 : ad109.block ≠ gb110 := Nat.ne_of_lt (Nat.lt_of_lt_of_le (by have := World.block_lt_of_cell? _ _ hx112_0; first | rwa [add_block] at this | exact this) GW110.out); have hn112_1 : ad109.block ≠ gb110 := Nat.ne_of_lt (Nat.lt_of_lt_of_le (by have := World.block_lt_of_cell? _ _ hx112_0; first | rwa [add_block] at this | exact this) GW110.out); replace hx112_0 := bl_ HB hx112_0; replace hx112_1 := bl_ HB hx112_1; replace hx112_0 := (cell_far (p := ⟨gb110, 0, none⟩) (by first | (rw [add_block]; exact hn112_0) | (show (Addr.add _ _).block ≠ _; rw [add_block]; exact hn112_0) | exact hn112_0) (.int .i64 ((rd_T62 l0 x7_1).f0))).trans hx112_0; replace hx112_1 := (cell_far (p := ⟨gb110, 0, none⟩) (by first | (rw [add_block]; exact hn112_0) | (show (Addr.add _ _).block ≠ _; rw [add_block]; exact hn112_0) | exact hn112_0) (.int .i64 ((rd_T62 l0 x7_1).f0))).trans hx112_1; replace hx112_0 := (cell_far (p := ⟨gb110, 1, none⟩) (by first | (rw [add_block]; exact hn112_1) | (show (Addr.add _ _).block ≠ _; rw [add_block]; exact hn112_1) | exact hn112_1) (.int .i64 ((rd_T62 l0 x7_1).f1))).trans hx112_0; replace hx112_1 := (cell_far (p := ⟨gb110, 1, none⟩) (by first | (rw [add_block]; exact hn112_1) | (show (Addr.add _ _).block ≠ _; rw [add_block]; exact hn112_1) | exact hn112_1) (.int .i64 ((rd_T62 l0 x7_1).f1))).trans hx112_1; (try have hy112_0 := fun (n_ : Nat) => (show ((((w20.drewN n_).setCell ⟨gb110, 0, none⟩ (.int .i64 ((rd_T62 l0 x7_1).f0))).setCell ⟨gb110, 1, none⟩ (.int .i64 ((rd_T62 l0 x7_1).f1)))).cell? _ = some _ from hx112_0)); (try have hy112_1 := fun (n_ : Nat) => (show ((((w20.drewN n_).setCell ⟨gb110, 0, none⟩ (.int .i64 ((rd_T62 l0 x7_1).f0))).setCell ⟨gb110, 1, none⟩ (.int .i64 ((rd_T62 l0 x7_1).f1)))).cell? _ = some _ from hx112_1)); clear hn112_0; clear hn112_1; replace p112 := eq_true p112; replace q112 := eq_true q112))
                       repeat (go_quiet (first | ((with_reducible refine gate_dst (N := 4) rfl ?_); refine box_event ?hg (N := 4) ?hd (cs := #[.int .i64 0, .int .i64 0]) (t := 62) ?hr ?_; (case hd => rfl); (case hg => rfl); (case hr => first | (go_simp; done) | (go_simp; rfl)); intro gb110 hg w20 hbox hb; replace BK110 := ak (hbox); replace GW110 := ak ((by rw [hg]; exact bsz_ : w.heap.size ≤ gb110)); replace HB := ak (bst_ hb); replace GE110 := GW110; clear hb hbox hg; obtain ⟨hcz21_0, hcz21_1, hfz21_0, hfz21_1⟩ := bz2_ BK110) | (go_at_call 59; (with_reducible refine (span_Right.calls ((rd_T62 l0 x7_1).f1) true _ A11.out).mono ?_); rintro e w' ⟨rfl, ⟨nd, rfl⟩⟩; (try first | exact ⟨rfl, _, World.drewN_drewN _ _ _⟩ | exact ⟨rfl, _, Eq.trans (World.drewN_drewN _ _ _) (congrArg (World.drewN _) (Nat.add_assoc _ _ _))⟩); have p112 : 0 ≤ ((ji14) : Int) := oda_; have q112 : (ji14) < (l0.length : Int) := oda_; obtain ⟨ad112, e112, hx112_0, hx112_1⟩ := at_T62 HR0.out (ji14) p112 q112; obtain rfl : ad109 = ad112 := (by injection e112); have hn112_0 : ad109.block ≠ gb110 := Nat.ne_of_lt (Nat.lt_of_lt_of_le (by have := World.block_lt_of_cell? _ _ hx112_0; first | rwa [add_block] at this | exact this) GW110.out); have hn112_1 : ad109.block ≠ gb110 := Nat.ne_of_lt (Nat.lt_of_lt_of_le (by have := World.block_lt_of_cell? _ _ hx112_0; first | rwa [add_block] at this | exact this) GW110.out); replace hx112_0 := bl_ HB hx112_0; replace hx112_1 := bl_ HB hx112_1; replace hx112_0 := (cell_far (p := ⟨gb110, 0, none⟩) (by first | (rw [add_block]; exact hn112_0) | (show (Addr.add _ _).block ≠ _; rw [add_block]; exact hn112_0) | exact hn112_0) (.int .i64 ((rd_T62 l0 x7_1).f0))).trans hx112_0; replace hx112_1 := (cell_far (p := ⟨gb110, 0, none⟩) (by first | (rw [add_block]; exact hn112_0) | (show (Addr.add _ _).block ≠ _; rw [add_block]; exact hn112_0) | exact hn112_0) (.int .i64 ((rd_T62 l0 x7_1).f0))).trans hx112_1; replace hx112_0 := (cell_far (p := ⟨gb110, 1, none⟩) (by first | (rw [add_block]; exact hn112_1) | (show (Addr.add _ _).block ≠ _; rw [add_block]; exact hn112_1) | exact hn112_1) (.int .i64 ((rd_T62 l0 x7_1).f1))).trans hx112_0; replace hx112_1 := (cell_far (p := ⟨gb110, 1, none⟩) (by first | (rw [add_block]; exact hn112_1) | (show (Addr.add _ _).block ≠ _; rw [add_block]; exact hn112_1) | exact hn112_1) (.int .i64 ((rd_T62 l0 x7_1).f1))).trans hx112_1; (try have hy112_0 := fun (n_ : Nat) => (show ((((w20.drewN n_).setCell ⟨gb110, 0, none⟩ (.int .i64 ((rd_T62 l0 x7_1).f0))).setCell ⟨gb110, 1, none⟩ (.int .i64 ((rd_T62 l0 x7_1).f1)))).cell? _ = some _ from hx112_0)); (try have hy112_1 := fun (n_ : Nat) => (show ((((w20.drewN n_).setCell ⟨gb110, 0, none⟩ (.int .i64 ((rd_T62 l0 x7_1).f0))).setCell ⟨gb110, 1, none⟩ (.int .i64 ((rd_T62 l0 x7_1).f1)))).cell? _ = some _ from hx112_1)); clear hn112_0; clear hn112_1; replace p112 := eq_true p112; replace q112 := eq_true q112)); try go_wp2_with (first | ((with_reducible refine gate_dst (N := 4) rfl ?_); refine box_event ?hg (N := 4) ?hd (cs := #[.int .i64 0, .int .i64 0]) (t := 62) ?hr ?_; (case hd => rfl); (case hg => rfl); (case hr => first | (go_simp; done) | (go_simp; rfl)); intro gb110 hg w20 hbox hb; replace BK110 := ak (hbox); replace GW110 := ak ((by rw [hg]; exact bsz_ : w.heap.size ≤ gb110)); replace HB := ak (bst_ hb); replace GE110 := GW110; clear hb hbox hg; obtain ⟨hcz21_0, hcz21_1, hfz21_0, hfz21_1⟩ := bz2_ BK110) | (go_at_call 59; (with_reducible refine (span_Right.calls ((rd_T62 l0 x7_1).f1) true _ A11.out).mono ?_); rintro e w' ⟨rfl, ⟨nd, rfl⟩⟩; (try first | exact ⟨rfl, _, World.drewN_drewN _ _ _⟩ | exact ⟨rfl, _, Eq.trans (World.drewN_drewN _ _ _) (congrArg (World.drewN _) (Nat.add_assoc _ _ _))⟩); have p112 : 0 ≤ ((ji14) : Int) := oda_; have q112 : (ji14) < (l0.length : Int) := oda_; obtain ⟨ad112, e112, hx112_0, hx112_1⟩ := at_T62 HR0.out (ji14) p112 q112; obtain rfl : ad109 = ad112 := (by injection e112); have hn112_0 : ad109.block ≠ gb110 := Nat.ne_of_lt (Nat.lt_of_lt_of_le (by have := World.block_lt_of_cell? _ _ hx112_0; first | rwa [add_block] at this | exact this) GW110.out); have hn112_1 : ad109.block ≠ gb110 := Nat.ne_of_lt (Nat.lt_of_lt_of_le (by have := World.block_lt_of_cell? _ _ hx112_0; first | rwa [add_block] at this | exact this) GW110.out); replace hx112_0 := bl_ HB hx112_0; replace hx112_1 := bl_ HB hx112_1; replace hx112_0 := (cell_far (p := ⟨gb110, 0, none⟩) (by first | (rw [add_block]; exact hn112_0) | (show (Addr.add _ _).block ≠ _; rw [add_block]; exact hn112_0) | exact hn112_0) (.int .i64 ((rd_T62 l0 x7_1).f0))).trans hx112_0; replace hx112_1 := (cell_far (p := ⟨gb110, 0, none⟩) (by first | (rw [add_block]; exact hn112_0) | (show (Addr.add _ _).block ≠ _; rw [add_block]; exact hn112_0) | exact hn112_0) (.int .i64 ((rd_T62 l0 x7_1).f0))).trans hx112_1; replace hx112_0 := (cell_far (p := ⟨gb110, 1, none⟩) (by first | (rw [add_block]; exact hn112_1) | (show (Addr.add _ _).block ≠ _; rw [add_block]; exact hn112_1) | exact hn112_1) (.int .i64 ((rd_T62 l0 x7_1).f1))).trans hx112_0; replace hx112_1 := (cell_far (p := ⟨gb110, 1, none⟩) (by first | (rw [add_block]; exact hn112_1) | (show (Addr.add _ _).block ≠ _; rw [add_block]; exact hn112_1) | exact hn112_1) (.int .i64 ((rd_T62 l0 x7_1).f1))).trans hx112_1; (try have hy112_0 := fun (n_ : Nat) => (show ((((w20.drewN n_).setCell ⟨gb110, 0, none⟩ (.int .i64 ((rd_T62 l0 x7_1).f0))).setCell ⟨gb110, 1, none⟩ (.int .i64 ((rd_T62 l0 x7_1).f1)))).cell? _ = some _ from hx112_0)); (try have hy112_1 := fun (n_ : Nat) => (show ((((w20.drewN n_).setCell ⟨gb110, 0, none⟩ (.int .i64 ((rd_T62 l0 x7_1).f0))).setCell ⟨gb110, 1, none⟩ (.int .i64 ((rd_T62 l0 x7_1).f1)))).cell? _ = some _ from hx112_1)); clear hn112_0; clear hn112_1; replace p112 := eq_true p112; replace q112 := eq_true q112)))
                       go_roundg k1
                       case measure => have := HK1.out; omega
                       case rel => exact ⟨(wrap64 (x7_1 + 1)), (by first | rfl | (simp; done) | (simp [*]; done)), H', ⟨by have := HK1.out; omega⟩, ⟨bsw_⟩⟩
                   · rw [if_neg c16] at H
                     exact absurd H (by simp)
                 · rw [if_neg c15] at H
                   exact absurd H (by simp)
               · rw [if_neg c13] at H
                 have c13b0 : decide (0 < x7_1) = false := decide_eq_false c13
                 clear c13
                 have H' := ak H
                 clear H
                 have p109 : 0 ≤ (x7_1 : Int) := oda_
                 have q109 : x7_1 < (l0.length : Int) := oda_
                 obtain ⟨ad109, e109, hx109_0, hx109_1⟩ := at_T62 HR0.out x7_1 p109 q109
                 cases e109
                 replace hx109_0 := bl_ HB hx109_0
                 replace hx109_1 := bl_ HB hx109_1
                 replace p109 := eq_true p109
                 replace q109 := eq_true q109
                 go_wp2_with (first | ((with_reducible refine gate_dst (N := 4) rfl ?_); refine box_event ?hg (N := 4) ?hd (cs := #[.int .i64 0, .int .i64 0]) (t := 62) ?hr ?_; (case hd => rfl); (case hg => rfl); (case hr => first | (go_simp; done) | (go_simp; rfl)); intro gb110 hg w22 hbox hb; replace BK110 := ak (hbox); replace GW110 := ak ((by rw [hg]; exact bsz_ : w.heap.size ≤ gb110)); replace HB := ak (bst_ hb); replace GE110 := GW110; clear hb hbox hg; obtain ⟨hcz23_0, hcz23_1, hfz23_0, hfz23_1⟩ := bz2_ BK110) | (go_at_call 59; (with_reducible refine (span_Right.calls ((rd_T62 l0 x7_1).f1) true _ A11.out).mono ?_); rintro e w' ⟨rfl, ⟨nd, rfl⟩⟩; (try first | exact ⟨rfl, _, World.drewN_drewN _ _ _⟩ | exact ⟨rfl, _, Eq.trans (World.drewN_drewN _ _ _) (congrArg (World.drewN _) (Nat.add_assoc _ _ _))⟩)))
                 repeat (go_quiet (first | ((with_reducible refine gate_dst (N := 4) rfl ?_); refine box_event ?hg (N := 4) ?hd (cs := #[.int .i64 0, .int .i64 0]) (t := 62) ?hr ?_; (case hd => rfl); (case hg => rfl); (case hr => first | (go_simp; done) | (go_simp; rfl)); intro gb110 hg w22 hbox hb; replace BK110 := ak (hbox); replace GW110 := ak ((by rw [hg]; exact bsz_ : w.heap.size ≤ gb110)); replace HB := ak (bst_ hb); replace GE110 := GW110; clear hb hbox hg; obtain ⟨hcz23_0, hcz23_1, hfz23_0, hfz23_1⟩ := bz2_ BK110) | (go_at_call 59; (with_reducible refine (span_Right.calls ((rd_T62 l0 x7_1).f1) true _ A11.out).mono ?_); rintro e w' ⟨rfl, ⟨nd, rfl⟩⟩; (try first | exact ⟨rfl, _, World.drewN_drewN _ _ _⟩ | exact ⟨rfl, _, Eq.trans (World.drewN_drewN _ _ _) (congrArg (World.drewN _) (Nat.add_assoc _ _ _))⟩))); try go_wp2_with (first | ((with_reducible refine gate_dst (N := 4) rfl ?_); refine box_event ?hg (N := 4) ?hd (cs := #[.int .i64 0, .int .i64 0]) (t := 62) ?hr ?_; (case hd => rfl); (case hg => rfl); (case hr => first | (go_simp; done) | (go_simp; rfl)); intro gb110 hg w22 hbox hb; replace BK110 := ak (hbox); replace GW110 := ak ((by rw [hg]; exact bsz_ : w.heap.size ≤ gb110)); replace HB := ak (bst_ hb); replace GE110 := GW110; clear hb hbox hg; obtain ⟨hcz23_0, hcz23_1, hfz23_0, hfz23_1⟩ := bz2_ BK110) | (go_at_call 59; (with_reducible refine (span_Right.calls ((rd_T62 l0 x7_1).f1) true _ A11.out).mono ?_); rintro e w' ⟨rfl, ⟨nd, rfl⟩⟩; (try first | exact ⟨rfl, _, World.drewN_drewN _ _ _⟩ | exact ⟨rfl, _, Eq.trans (World.drewN_drewN _ _ _) (congrArg (World.drewN _) (Nat.add_assoc _ _ _))⟩))))
                 go_roundg k1
                 case measure => have := HK1.out; omega
                 case rel => exact ⟨(wrap64 (x7_1 + 1)), (by first | rfl | (simp; done) | (simp [*]; done)), H', ⟨by have := HK1.out; omega⟩, ⟨bsw_⟩⟩
             · replace c12 := Bool.eq_false_iff.mpr c12
               subst c12
               rw [if_neg (show ¬ (false = true) by decide)] at H
               obtain rfl := Option.some.inj H
               have p109 : 0 ≤ (x7_1 : Int) := oda_
               have q109 : x7_1 < (l0.length : Int) := oda_
               obtain ⟨ad109, e109, hx109_0, hx109_1⟩ := at_T62 HR0.out x7_1 p109 q109
               cases e109
               replace hx109_0 := bl_ HB hx109_0
               replace hx109_1 := bl_ HB hx109_1
               replace p109 := eq_true p109
               replace q109 := eq_true q109
               go_wp2_with (first | ((with_reducible refine gate_dst (N := 4) rfl ?_); refine box_event ?hg (N := 4) ?hd (cs := #[.int .i64 0, .int .i64 0]) (t := 62) ?hr ?_; (case hd => rfl); (case hg => rfl); (case hr => first | (go_simp; done) | (go_simp; rfl)); intro gb110 hg w24 hbox hb; replace BK110 := ak (hbox); replace GW110 := ak ((by rw [hg]; exact bsz_ : w.heap.size ≤ gb110)); replace HB := ak (bst_ hb); replace GE110 := GW110; clear hb hbox hg; obtain ⟨hcz25_0, hcz25_1, hfz25_0, hfz25_1⟩ := bz2_ BK110) | (go_at_call 59; (with_reducible refine (span_Right.calls ((rd_T62 l0 x7_1).f1) false _ A11.out).mono ?_); rintro e w' ⟨rfl, ⟨nd, rfl⟩⟩; (try first | exact ⟨rfl, _, World.drewN_drewN _ _ _⟩ | exact ⟨rfl, _, Eq.trans (World.drewN_drewN _ _ _) (congrArg (World.drewN _) (Nat.add_assoc _ _ _))⟩)))
               repeat (go_quiet (first | ((with_reducible refine gate_dst (N := 4) rfl ?_); refine box_event ?hg (N := 4) ?hd (cs := #[.int .i64 0, .int .i64 0]) (t := 62) ?hr ?_; (case hd => rfl); (case hg => rfl); (case hr => first | (go_simp; done) | (go_simp; rfl)); intro gb110 hg w24 hbox hb; replace BK110 := ak (hbox); replace GW110 := ak ((by rw [hg]; exact bsz_ : w.heap.size ≤ gb110)); replace HB := ak (bst_ hb); replace GE110 := GW110; clear hb hbox hg; obtain ⟨hcz25_0, hcz25_1, hfz25_0, hfz25_1⟩ := bz2_ BK110) | (go_at_call 59; (with_reducible refine (span_Right.calls ((rd_T62 l0 x7_1).f1) false _ A11.out).mono ?_); rintro e w' ⟨rfl, ⟨nd, rfl⟩⟩; (try first | exact ⟨rfl, _, World.drewN_drewN _ _ _⟩ | exact ⟨rfl, _, Eq.trans (World.drewN_drewN _ _ _) (congrArg (World.drewN _) (Nat.add_assoc _ _ _))⟩))); try go_wp2_with (first | ((with_reducible refine gate_dst (N := 4) rfl ?_); refine box_event ?hg (N := 4) ?hd (cs := #[.int .i64 0, .int .i64 0]) (t := 62) ?hr ?_; (case hd => rfl); (case hg => rfl); (case hr => first | (go_simp; done) | (go_simp; rfl)); intro gb110 hg w24 hbox hb; replace BK110 := ak (hbox); replace GW110 := ak ((by rw [hg]; exact bsz_ : w.heap.size ≤ gb110)); replace HB := ak (bst_ hb); replace GE110 := GW110; clear hb hbox hg; obtain ⟨hcz25_0, hcz25_1, hfz25_0, hfz25_1⟩ := bz2_ BK110) | (go_at_call 59; (with_reducible refine (span_Right.calls ((rd_T62 l0 x7_1).f1) false _ A11.out).mono ?_); rintro e w' ⟨rfl, ⟨nd, rfl⟩⟩; (try first | exact ⟨rfl, _, World.drewN_drewN _ _ _⟩ | exact ⟨rfl, _, Eq.trans (World.drewN_drewN _ _ _) (congrArg (World.drewN _) (Nat.add_assoc _ _ _))⟩))))
               go_ret
               exact ⟨by first | rfl | (simp [errW_none, errW_some] <;> rfl) | (simp [*, errW_none, errW_some] <;> rfl), bsw_⟩
       · rw [if_neg c4] at H
         exact absurd H (by simp)
     · rw [if_neg c3] at H
       exact absurd H (by simp)
   · rw [if_neg c2] at H
     have c2b0 : decide (x7_1 < (l0.length : Int)) = false := decide_eq_false c2
     clear c2
     obtain rfl := Option.some.inj H
     go_wp2
     repeat (go_quiet (fail); try go_wp2)
     go_ret
     exact ⟨by first | rfl | (simp [errW_none, errW_some] <;> rfl) | (simp [*, errW_none, errW_some] <;> rfl), bsv_⟩

-- NOT PRINTED: function 94 (slices_IndexFunc_94)

-- NOT PRINTED: function 68 (slices_ContainsFunc_68)

/-! ### sleep_Sleeper_may_1: function 69 -/
def sleep_Sleeper_may_1.f (a0_0 : Int) (a0_1 : Int) : Option (Bool) := some (a0_0 == 3)
set_option maxHeartbeats 8000000 in
set_option maxRecDepth 100000 in
theorem sleep_Sleeper_may_1.calls (a0_0 : Int) (a0_1 : Int) (r : Bool) (w : World) (h : sleep_Sleeper_may_1.f a0_0 a0_1 = some r) :
 Calls Try.prog 69 #[.agg #[.int .i64 a0_0, .int .i64 a0_1]] w fun e w' => e = .returned (.bool r) ∧ Below w.heap.size w w' := by
 have hu80 := Try.underlying80
 have HB := ak (Below.refl w.heap.size w)
 have H : (some (a0_0 == 3)) = some r := h
 clear h
 obtain rfl := Option.some.inj H
 go_enter Try.func69, Try.ntmps69
 go_wp2_with (first | ((with_reducible refine gate_dst (N := 1) rfl ?_); refine box_event ?hg (N := 1) ?hd (cs := #[.int .i64 a0_0, .int .i64 a0_1]) (t := 80) ?hr ?_; (case hd => rfl); (case hg => rfl); (case hr => first | (go_simp; done) | (go_simp; rfl)); intro gb113 hg w2 hbox hb; replace BK113 := ak (hbox); replace GW113 := ak ((by rw [hg]; exact bsz_ : w.heap.size ≤ gb113)); replace HB := ak (bst_ hb); replace GE113 := GW113; clear hb hbox hg; obtain ⟨hcz3_0, hcz3_1, hfz3_0, hfz3_1⟩ := bz2_ BK113))
 go_ret
 exact ⟨by first | rfl | (simp [errW_none, errW_some] <;> rfl) | (simp [*, errW_none, errW_some] <;> rfl), bsw_⟩

/-! ### term_Op_takes: function 109 -/
def term_Op_takes.j0 : Nat → Bool → Int → Int → Option (Int)
 | 0, _, _, _ => none
 | k + 1, x3, x115000, x115001 => if x3 = true then (some 2) else (if x115000 = 11 then (some 1) else (some 0))
def term_Op_takes.f (k : Nat) (a0_0 : Int) (a0_1 : Int) : Option (Int) := if a0_0 ≥ 4 then (term_Op_takes.j0 k (decide (a0_0 ≤ 10)) a0_0 a0_1) else (term_Op_takes.j0 k false a0_0 a0_1)
theorem term_Op_takes.mono_l : ∀ k, (∀ y0 y1 y2, LeO (term_Op_takes.j0 k y0 y1 y2) (term_Op_takes.j0 (k + 1) y0 y1 y2))
 | 0 => fun _ _ _ r h => by simp [term_Op_takes.j0] at h
 | k + 1 => by
  have ih0 := term_Op_takes.mono_l k
  · intro y0 y1 y2
    unfold term_Op_takes.j0
    repeat' first
    | (with_reducible exact ih0 _ _ _)
    | (with_reducible exact LeO.refl _)
    | (with_reducible exact LeO.none _)
    | (with_reducible refine LeO.ite ?_ ?_)
    | (with_reducible refine LeO.bind ?_ (fun _ => ?_))
    | exact ih0 _ _ _
    | exact LeO.none _
    | refine LeO.ite ?_ ?_
    | refine LeO.bind ?_ (fun _ => ?_)
theorem term_Op_takes.mono : ∀ a0 a1 k, LeO (term_Op_takes.f k a0 a1) (term_Op_takes.f (k + 1) a0 a1) := by
 intro a0 a1 k
 have ih0 := term_Op_takes.mono_l k
 unfold term_Op_takes.f
 repeat' first
  | (with_reducible exact ih0 _ _ _)
  | (with_reducible exact LeO.refl _)
  | (with_reducible exact LeO.none _)
  | (with_reducible refine LeO.ite ?_ ?_)
  | (with_reducible refine LeO.bind ?_ (fun _ => ?_))
  | exact ih0 _ _ _
  | exact LeO.none _
  | refine LeO.ite ?_ ?_
  | refine LeO.bind ?_ (fun _ => ?_)
set_option maxHeartbeats 8000000 in
set_option maxRecDepth 100000 in
theorem term_Op_takes.calls (k : Nat) (a0_0 : Int) (a0_1 : Int) (r : Int) (w : World) (h : term_Op_takes.f k a0_0 a0_1 = some r) :
 Calls Try.prog 109 #[.agg #[.int .i64 a0_0, .int .i64 a0_1]] w fun e w' => e = .returned (.int .i64 r) ∧ Below w.heap.size w w' := by
 have hu80 := Try.underlying80
 have HB := ak (Below.refl w.heap.size w)
 have H : (if a0_0 ≥ 4 then (term_Op_takes.j0 k (decide (a0_0 ≤ 10)) a0_0 a0_1) else (term_Op_takes.j0 k false a0_0 a0_1)) = some r := h
 clear h
 have HC2 := ak H
 clear H
 go_enter Try.func109, Try.ntmps109
 go_upto_region 1 with (first | ((with_reducible refine gate_dst (N := 1) rfl ?_); refine box_event ?hg (N := 1) ?hd (cs := #[.int .i64 a0_0, .int .i64 a0_1]) (t := 80) ?hr ?_; (case hd => rfl); (case hg => rfl); (case hr => first | (go_simp; done) | (go_simp; rfl)); intro gb114 hg w3 hbox hb; replace BK114 := ak (hbox); replace GW114 := ak ((by rw [hg]; exact bsz_ : w.heap.size ≤ gb114)); replace HB := ak (bst_ hb); replace GE114 := GW114; clear hb hbox hg))
 (try simp only [Act.put, List.setIfInBounds_toArray, List.set_cons_zero, List.set_cons_succ])
 go_cut [3] (fun v3 wc => ∃ (kq : Nat) (x3_1 : Bool), v3 = .bool x3_1 ∧ Aside0 (term_Op_takes.j0 kq x3_1 a0_0 a0_1 = some r) ∧ Aside0 (kq ≤ k) ∧ Aside0 (wc.heap[gb114]? = some (.cells #[.int .i64 a0_0, .int .i64 a0_1] 80 (0, 0))) ∧ Aside0 (Below w.heap.size w wc))
 case first =>
  have H := HC2.out
  clear HC2
  by_cases c4 : a0_0 ≥ 4
  · rw [if_pos c4] at H
    have c4b0 : decide (4 ≤ a0_0) = true := decide_eq_true c4
    clear c4
    (first | rw [c4b0] | (simp only [i64_w, i32_w]; rw [c4b0]) | skip)
    have H' := ak H
    clear H
    obtain ⟨hcz5_0, hcz5_1, hfz5_0, hfz5_1⟩ := bz2_ BK114
    go_wp2
    go_meet
    case rel => exact ⟨_, (decide (a0_0 ≤ 10)), (by first | rfl | (simp; done) | (simp [*]; done)), H', ⟨by first | omega | exact Nat.le_refl _⟩, ⟨bq_ BK114⟩, ⟨bsw_⟩⟩
  · rw [if_neg c4] at H
    have c4b0 : decide (4 ≤ a0_0) = false := decide_eq_false c4
    clear c4
    (first | rw [c4b0] | (simp only [i64_w, i32_w]; rw [c4b0]) | skip)
    have H' := ak H
    clear H
    obtain ⟨hcz6_0, hcz6_1, hfz6_0, hfz6_1⟩ := bz2_ BK114
    go_wp2
    go_meet
    case rel => exact ⟨_, (false), (by first | rfl | (simp; done) | (simp [*]; done)), H', ⟨by first | omega | exact Nat.le_refl _⟩, ⟨bq_ BK114⟩, ⟨bsw_⟩⟩
 case rest =>
  clear HC2
  try clear c1
  try clear p2
  try clear c4
  try clear c4b0
  try clear hcz5_0
  try clear hcz5_1
  try clear hcz6_0
  try clear hcz6_1
  try clear hfz5_0
  try clear hfz5_1
  try clear hfz6_0
  try clear hfz6_1
  obtain ⟨kq, x3_1, rfl, HA, HJ1, BK114, HB⟩ := hcut
  cases kq with
  | zero => exact absurd HA.out (by simp [term_Op_takes.j0])
  | succ kj1 =>
   have H := HA.out
   clear HA
   simp only [term_Op_takes.j0] at H
   by_cases c7 : x3_1 = true
   · subst c7
     rw [if_pos rfl] at H
     obtain rfl := Option.some.inj H
     go_wp2
     go_ret
     exact ⟨by first | rfl | (simp [errW_none, errW_some] <;> rfl) | (simp [*, errW_none, errW_some] <;> rfl), bsw_⟩
   · replace c7 := Bool.eq_false_iff.mpr c7
     subst c7
     rw [if_neg (show ¬ (false = true) by decide)] at H
     by_cases c8 : a0_0 = 11
     · rw [if_pos c8] at H
       have c8b0 : (a0_0 == 11) = true := beq_iff_eq.mpr c8
       have c8b1 : (a0_0 != 11) = false := bne_eq_false_iff_eq.mpr c8
       clear c8
       obtain rfl := Option.some.inj H
       obtain ⟨hcz9_0, hcz9_1, hfz9_0, hfz9_1⟩ := bz2_ BK114
       go_wp2
       go_ret
       exact ⟨by first | rfl | (simp [errW_none, errW_some] <;> rfl) | (simp [*, errW_none, errW_some] <;> rfl), bsw_⟩
     · rw [if_neg c8] at H
       have c8b0 : (a0_0 == 11) = false := beq_eq_false_iff_ne.mpr c8
       have c8b1 : (a0_0 != 11) = true := bne_iff_ne.mpr c8
       obtain rfl := Option.some.inj H
       obtain ⟨hcz10_0, hcz10_1, hfz10_0, hfz10_1⟩ := bz2_ BK114
       go_wp2
       go_ret
       exact ⟨by first | rfl | (simp [errW_none, errW_some] <;> rfl) | (simp [*, errW_none, errW_some] <;> rfl), bsw_⟩

/-! ### term_Op_may: function 96 -/
def term_Op_may.f (k : Nat) (a0_0 : Int) (a0_1 : Int) : Option (Bool) := if a0_0 = 1 then ((span_Right.f a0_1).bind fun t116 => (some t116)) else (if a0_0 = 2 then (if a0_1 ≥ 0 then (some (decide (a0_1 < 64))) else (some false)) else (if a0_0 = 3 then (if a0_1 ≥ 0 then (some (decide (a0_1 < 8))) else (some false)) else ((term_Op_takes.f k a0_0 a0_1).bind fun t117 => (if t117 > 0 then (some (a0_1 == 0)) else (some false)))))
theorem term_Op_may.mono : ∀ a0 a1 k, LeO (term_Op_may.f k a0 a1) (term_Op_may.f (k + 1) a0 a1) := by
 intro a0 a1 k
 unfold term_Op_may.f
 repeat' first
  | (with_reducible exact term_Op_takes.mono _ _ _)
  | (with_reducible exact LeO.refl _)
  | (with_reducible exact LeO.none _)
  | (with_reducible refine LeO.ite ?_ ?_)
  | (with_reducible refine LeO.bind ?_ (fun _ => ?_))
  | exact term_Op_takes.mono _ _ _
  | exact LeO.none _
  | refine LeO.ite ?_ ?_
  | refine LeO.bind ?_ (fun _ => ?_)
set_option maxHeartbeats 8000000 in
set_option maxRecDepth 100000 in
theorem term_Op_may.calls (k : Nat) (a0_0 : Int) (a0_1 : Int) (r : Bool) (w : World) (h : term_Op_may.f k a0_0 a0_1 = some r) :
 Calls Try.prog 96 #[.agg #[.int .i64 a0_0, .int .i64 a0_1]] w fun e w' => e = .returned (.bool r) ∧ Below w.heap.size w w' := by
 have hu80 := Try.underlying80
 have HB := ak (Below.refl w.heap.size w)
 have H : (if a0_0 = 1 then ((span_Right.f a0_1).bind fun t116 => (some t116)) else (if a0_0 = 2 then (if a0_1 ≥ 0 then (some (decide (a0_1 < 64))) else (some false)) else (if a0_0 = 3 then (if a0_1 ≥ 0 then (some (decide (a0_1 < 8))) else (some false)) else ((term_Op_takes.f k a0_0 a0_1).bind fun t117 => (if t117 > 0 then (some (a0_1 == 0)) else (some false)))))) = some r := h
 clear h
 by_cases c2 : a0_0 = 1
 · rw [if_pos c2] at H
   have c2b0 : (a0_0 == 1) = true := beq_iff_eq.mpr c2
   have c2b1 : (a0_0 != 1) = false := bne_eq_false_iff_eq.mpr c2
   clear c2
   obtain ⟨t116, A3, H⟩ := bd_ H
   obtain rfl := Option.some.inj H
   go_enter Try.func96, Try.ntmps96
   go_wp2_with (first | ((with_reducible refine gate_dst (N := 1) rfl ?_); refine box_event ?hg (N := 1) ?hd (cs := #[.int .i64 a0_0, .int .i64 a0_1]) (t := 80) ?hr ?_; (case hd => rfl); (case hg => rfl); (case hr => first | (go_simp; done) | (go_simp; rfl)); intro gb115 hg w4 hbox hb; replace BK115 := ak (hbox); replace GW115 := ak ((by rw [hg]; exact bsz_ : w.heap.size ≤ gb115)); replace HB := ak (bst_ hb); replace GE115 := GW115; clear hb hbox hg; obtain ⟨hcz5_0, hcz5_1, hfz5_0, hfz5_1⟩ := bz2_ BK115) | ((with_reducible refine gate_callee (f := 59) rfl ?_); refine goesL_ (some 9) rfl rfl Try.func59 (by kernel_rfl) rfl #[.int .i64 a0_1] rfl mp_ ?_; (with_reducible refine (span_Right.calls a0_1 t116 _ A3.out).mono ?_); rintro e w' ⟨rfl, ⟨nd, rfl⟩⟩; refine ⟨_, rfl, ?_⟩))
   go_ret
   exact ⟨by first | rfl | (simp [errW_none, errW_some] <;> rfl) | (simp [*, errW_none, errW_some] <;> rfl), bsw_⟩
 · rw [if_neg c2] at H
   have c2b0 : (a0_0 == 1) = false := beq_eq_false_iff_ne.mpr c2
   have c2b1 : (a0_0 != 1) = true := bne_iff_ne.mpr c2
   by_cases c6 : a0_0 = 2
   · rw [if_pos c6] at H
     have c6b0 : (a0_0 == 2) = true := beq_iff_eq.mpr c6
     have c6b1 : (a0_0 != 2) = false := bne_eq_false_iff_eq.mpr c6
     clear c6
     by_cases c7 : a0_1 ≥ 0
     · rw [if_pos c7] at H
       have c7b0 : decide (0 ≤ a0_1) = true := decide_eq_true c7
       clear c7
       obtain rfl := Option.some.inj H
       go_enter Try.func96, Try.ntmps96
       go_wp2_with (first | ((with_reducible refine gate_dst (N := 1) rfl ?_); refine box_event ?hg (N := 1) ?hd (cs := #[.int .i64 a0_0, .int .i64 a0_1]) (t := 80) ?hr ?_; (case hd => rfl); (case hg => rfl); (case hr => first | (go_simp; done) | (go_simp; rfl)); intro gb115 hg w8 hbox hb; replace BK115 := ak (hbox); replace GW115 := ak ((by rw [hg]; exact bsz_ : w.heap.size ≤ gb115)); replace HB := ak (bst_ hb); replace GE115 := GW115; clear hb hbox hg; obtain ⟨hcz9_0, hcz9_1, hfz9_0, hfz9_1⟩ := bz2_ BK115))
       go_ret
       exact ⟨by first | rfl | (simp [errW_none, errW_some] <;> rfl) | (simp [*, errW_none, errW_some] <;> rfl), bsw_⟩
     · rw [if_neg c7] at H
       have c7b0 : decide (0 ≤ a0_1) = false := decide_eq_false c7
       clear c7
       obtain rfl := Option.some.inj H
       go_enter Try.func96, Try.ntmps96
       go_wp2_with (first | ((with_reducible refine gate_dst (N := 1) rfl ?_); refine box_event ?hg (N := 1) ?hd (cs := #[.int .i64 a0_0, .int .i64 a0_1]) (t := 80) ?hr ?_; (case hd => rfl); (case hg => rfl); (case hr => first | (go_simp; done) | (go_simp; rfl)); intro gb115 hg w10 hbox hb; replace BK115 := ak (hbox); replace GW115 := ak ((by rw [hg]; exact bsz_ : w.heap.size ≤ gb115)); replace HB := ak (bst_ hb); replace GE115 := GW115; clear hb hbox hg; obtain ⟨hcz11_0, hcz11_1, hfz11_0, hfz11_1⟩ := bz2_ BK115))
       go_ret
       exact ⟨by first | rfl | (simp [errW_none, errW_some] <;> rfl) | (simp [*, errW_none, errW_some] <;> rfl), bsw_⟩
   · rw [if_neg c6] at H
     have c6b0 : (a0_0 == 2) = false := beq_eq_false_iff_ne.mpr c6
     have c6b1 : (a0_0 != 2) = true := bne_iff_ne.mpr c6
     by_cases c12 : a0_0 = 3
     · rw [if_pos c12] at H
       have c12b0 : (a0_0 == 3) = true := beq_iff_eq.mpr c12
       have c12b1 : (a0_0 != 3) = false := bne_eq_false_iff_eq.mpr c12
       clear c12
       by_cases c13 : a0_1 ≥ 0
       · rw [if_pos c13] at H
         have c13b0 : decide (0 ≤ a0_1) = true := decide_eq_true c13
         clear c13
         obtain rfl := Option.some.inj H
         go_enter Try.func96, Try.ntmps96
         go_wp2_with (first | ((with_reducible refine gate_dst (N := 1) rfl ?_); refine box_event ?hg (N := 1) ?hd (cs := #[.int .i64 a0_0, .int .i64 a0_1]) (t := 80) ?hr ?_; (case hd => rfl); (case hg => rfl); (case hr => first | (go_simp; done) | (go_simp; rfl)); intro gb115 hg w14 hbox hb; replace BK115 := ak (hbox); replace GW115 := ak ((by rw [hg]; exact bsz_ : w.heap.size ≤ gb115)); replace HB := ak (bst_ hb); replace GE115 := GW115; clear hb hbox hg; obtain ⟨hcz15_0, hcz15_1, hfz15_0, hfz15_1⟩ := bz2_ BK115))
         go_ret
         exact ⟨by first | rfl | (simp [errW_none, errW_some] <;> rfl) | (simp [*, errW_none, errW_some] <;> rfl), bsw_⟩
       · rw [if_neg c13] at H
         have c13b0 : decide (0 ≤ a0_1) = false := decide_eq_false c13
         clear c13
         obtain rfl := Option.some.inj H
         go_enter Try.func96, Try.ntmps96
         go_wp2_with (first | ((with_reducible refine gate_dst (N := 1) rfl ?_); refine box_event ?hg (N := 1) ?hd (cs := #[.int .i64 a0_0, .int .i64 a0_1]) (t := 80) ?hr ?_; (case hd => rfl); (case hg => rfl); (case hr => first | (go_simp; done) | (go_simp; rfl)); intro gb115 hg w16 hbox hb; replace BK115 := ak (hbox); replace GW115 := ak ((by rw [hg]; exact bsz_ : w.heap.size ≤ gb115)); replace HB := ak (bst_ hb); replace GE115 := GW115; clear hb hbox hg; obtain ⟨hcz17_0, hcz17_1, hfz17_0, hfz17_1⟩ := bz2_ BK115))
         go_ret
         exact ⟨by first | rfl | (simp [errW_none, errW_some] <;> rfl) | (simp [*, errW_none, errW_some] <;> rfl), bsw_⟩
     · rw [if_neg c12] at H
       have c12b0 : (a0_0 == 3) = false := beq_eq_false_iff_ne.mpr c12
       have c12b1 : (a0_0 != 3) = true := bne_iff_ne.mpr c12
       obtain ⟨t117, A18, H⟩ := bd_ H
       by_cases c19 : t117 > 0
       · rw [if_pos c19] at H
         have c19b0 : decide (0 < t117) = true := decide_eq_true c19
         clear c19
         obtain rfl := Option.some.inj H
         go_enter Try.func96, Try.ntmps96
         go_wp2_with (first | ((with_reducible refine gate_dst (N := 1) rfl ?_); refine box_event ?hg (N := 1) ?hd (cs := #[.int .i64 a0_0, .int .i64 a0_1]) (t := 80) ?hr ?_; (case hd => rfl); (case hg => rfl); (case hr => first | (go_simp; done) | (go_simp; rfl)); intro gb115 hg w20 hbox hb; replace BK115 := ak (hbox); replace GW115 := ak ((by rw [hg]; exact bsz_ : w.heap.size ≤ gb115)); replace HB := ak (bst_ hb); replace GE115 := GW115; clear hb hbox hg; obtain ⟨hcz21_0, hcz21_1, hfz21_0, hfz21_1⟩ := bz2_ BK115) | ((with_reducible refine gate_callee (f := 109) rfl ?_); refine goesL_ (some 31) rfl rfl Try.func109 (by kernel_rfl) rfl #[.agg #[.int .i64 a0_0, .int .i64 a0_1]] rfl mp_ ?_; (with_reducible refine (term_Op_takes.calls k a0_0 a0_1 t117 _ A18.out).mono ?_); rintro e w22 ⟨rfl, hb⟩; refine ⟨_, rfl, ?_⟩; replace BK115 := bb_ BK115 hb; replace HB := ak (below_step bsw_ hb); (try clear hb); (try clear hb2); (try clear hk); (try clear hi); obtain ⟨hcz23_0, hcz23_1, hfz23_0, hfz23_1⟩ := bz2_ BK115))
         go_ret
         exact ⟨by first | rfl | (simp [errW_none, errW_some] <;> rfl) | (simp [*, errW_none, errW_some] <;> rfl), bsw_⟩
       · rw [if_neg c19] at H
         have c19b0 : decide (0 < t117) = false := decide_eq_false c19
         clear c19
         obtain rfl := Option.some.inj H
         go_enter Try.func96, Try.ntmps96
         go_wp2_with (first | ((with_reducible refine gate_dst (N := 1) rfl ?_); refine box_event ?hg (N := 1) ?hd (cs := #[.int .i64 a0_0, .int .i64 a0_1]) (t := 80) ?hr ?_; (case hd => rfl); (case hg => rfl); (case hr => first | (go_simp; done) | (go_simp; rfl)); intro gb115 hg w24 hbox hb; replace BK115 := ak (hbox); replace GW115 := ak ((by rw [hg]; exact bsz_ : w.heap.size ≤ gb115)); replace HB := ak (bst_ hb); replace GE115 := GW115; clear hb hbox hg; obtain ⟨hcz25_0, hcz25_1, hfz25_0, hfz25_1⟩ := bz2_ BK115) | ((with_reducible refine gate_callee (f := 109) rfl ?_); refine goesL_ (some 31) rfl rfl Try.func109 (by kernel_rfl) rfl #[.agg #[.int .i64 a0_0, .int .i64 a0_1]] rfl mp_ ?_; (with_reducible refine (term_Op_takes.calls k a0_0 a0_1 t117 _ A18.out).mono ?_); rintro e w26 ⟨rfl, hb⟩; refine ⟨_, rfl, ?_⟩; replace BK115 := bb_ BK115 hb; replace HB := ak (below_step bsw_ hb); (try clear hb); (try clear hb2); (try clear hk); (try clear hi)))
         go_ret
         exact ⟨by first | rfl | (simp [errW_none, errW_some] <;> rfl) | (simp [*, errW_none, errW_some] <;> rfl), bsw_⟩

/-! ### term_Check_1: function 95 -/
def term_Check_1.f (k : Nat) (a0_0 : Int) (a0_1 : Int) : Option (Bool) := (term_Op_may.f k a0_0 a0_1).bind fun t119 => (some (!t119))
theorem term_Check_1.mono : ∀ a0 a1 k, LeO (term_Check_1.f k a0 a1) (term_Check_1.f (k + 1) a0 a1) := by
 intro a0 a1 k
 unfold term_Check_1.f
 repeat' first
  | (with_reducible exact term_Op_may.mono _ _ _)
  | (with_reducible exact LeO.refl _)
  | (with_reducible exact LeO.none _)
  | (with_reducible refine LeO.ite ?_ ?_)
  | (with_reducible refine LeO.bind ?_ (fun _ => ?_))
  | exact term_Op_may.mono _ _ _
  | exact LeO.none _
  | refine LeO.ite ?_ ?_
  | refine LeO.bind ?_ (fun _ => ?_)
set_option maxHeartbeats 8000000 in
set_option maxRecDepth 100000 in
theorem term_Check_1.calls (k : Nat) (a0_0 : Int) (a0_1 : Int) (r : Bool) (w : World) (h : term_Check_1.f k a0_0 a0_1 = some r) :
 Calls Try.prog 95 #[.agg #[.int .i64 a0_0, .int .i64 a0_1]] w fun e w' => e = .returned (.bool r) ∧ Below w.heap.size w w' := by
 have hu80 := Try.underlying80
 have HB := ak (Below.refl w.heap.size w)
 have H : ((term_Op_may.f k a0_0 a0_1).bind fun t119 => (some (!t119))) = some r := h
 clear h
 obtain ⟨t119, A2, H⟩ := bd_ H
 obtain rfl := Option.some.inj H
 go_enter Try.func95, Try.ntmps95
 go_wp2_with (first | ((with_reducible refine gate_dst (N := 1) rfl ?_); refine box_event ?hg (N := 1) ?hd (cs := #[.int .i64 a0_0, .int .i64 a0_1]) (t := 80) ?hr ?_; (case hd => rfl); (case hg => rfl); (case hr => first | (go_simp; done) | (go_simp; rfl)); intro gb118 hg w3 hbox hb; replace BK118 := ak (hbox); replace GW118 := ak ((by rw [hg]; exact bsz_ : w.heap.size ≤ gb118)); replace HB := ak (bst_ hb); replace GE118 := GW118; clear hb hbox hg; obtain ⟨hcz4_0, hcz4_1, hfz4_0, hfz4_1⟩ := bz2_ BK118) | ((with_reducible refine gate_callee (f := 96) rfl ?_); refine goesL_ (some 4) rfl rfl Try.func96 (by kernel_rfl) rfl #[.agg #[.int .i64 a0_0, .int .i64 a0_1]] rfl mp_ ?_; (with_reducible refine (term_Op_may.calls k a0_0 a0_1 t119 _ A2.out).mono ?_); rintro e w5 ⟨rfl, hb⟩; refine ⟨_, rfl, ?_⟩; replace BK118 := bb_ BK118 hb; replace HB := ak (below_step bsw_ hb); (try clear hb); (try clear hb2); (try clear hk); (try clear hi)))
 go_ret
 exact ⟨by first | rfl | (simp [errW_none, errW_some] <;> rfl) | (simp [*, errW_none, errW_some] <;> rfl), bsw_⟩

end Go.Proofs.Ytjnkpocfmpbpoaa.F
