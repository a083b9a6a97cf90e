-- PRINTED by print.py (a twelfth state) out of the translation. Not trusted: Lean checks it.
import Derived.Test.YtlfmobnmohnjmaaRsx0
import Derived.Test.YtlfmobnmohnjmaaRsx2
namespace Go.Proofs.Ytlfmobnmohnjmaa.Rs
open Go.Proofs.Ytlfmobnmohnjmaa.Ho
open Go.RowKit Go.Proofs.YtlfmobnmohnjmaaW.PrintWords Go.Proofs.YtlfmobnmohnjmaaW.PrintLast Go.Proofs.YtlfmobnmohnjmaaW.PrintMore
attribute [local go_sem] max2_int min2_int max_two min_two max_three min_three max_four min_four   -- for this text's walks alone
set_option linter.unusedVariables false
set_option linter.unusedSimpArgs false

/-! ### handshakerref03_Numbers: function 24 -/
def handshakerref03_Numbers.l0 : Nat → List Int → List Int → Int → Option (Bool)
 | 0, _, _, _ => none
 | k + 1, x0, x1, x5 => if x5 < (x0.length : Int) then (if 0 ≤ x5 then (if x5 < (x1.length : Int) then (if (rd x0 x5) = (rd x1 x5) then (handshakerref03_Numbers.l0 k x0 x1 (wrap64 (x5 + 1))) else (some false)) else (none)) else (none)) else (some true)
def handshakerref03_Numbers.f (k : Nat) (l0 : List Int) (l1 : List Int) : Option (Bool) := if (l0.length : Int) = (l1.length : Int) then (handshakerref03_Numbers.l0 k l0 l1 0) else (some false)
theorem handshakerref03_Numbers.mono_l : ∀ k, (∀ y0 y1 y2, LeO (handshakerref03_Numbers.l0 k y0 y1 y2) (handshakerref03_Numbers.l0 (k + 1) y0 y1 y2))
 | 0 => fun _ _ _ r h => by simp [handshakerref03_Numbers.l0] at h
 | k + 1 => by
  have ih0 := handshakerref03_Numbers.mono_l k
  · intro y0 y1 y2
    unfold handshakerref03_Numbers.l0
    repeat' first
    | (with_reducible exact ih0 _ _ _)
    | (with_reducible exact LeO.refl _)
    | (with_reducible exact LeO.none _)
    | (with_reducible refine LeO.ite ?_ ?_)
    | (with_reducible refine LeO.bind ?_ (fun _ => ?_))
    | exact ih0 _ _ _
    | exact LeO.none _
    | refine LeO.ite ?_ ?_
    | refine LeO.bind ?_ (fun _ => ?_)
theorem handshakerref03_Numbers.mono : ∀ a0 a1 k, LeO (handshakerref03_Numbers.f k a0 a1) (handshakerref03_Numbers.f (k + 1) a0 a1) := by
 intro a0 a1 k
 have ih0 := handshakerref03_Numbers.mono_l k
 unfold handshakerref03_Numbers.f
 repeat' first
  | (with_reducible exact ih0 _ _ _)
  | (with_reducible exact LeO.refl _)
  | (with_reducible exact LeO.none _)
  | (with_reducible refine LeO.ite ?_ ?_)
  | (with_reducible refine LeO.bind ?_ (fun _ => ?_))
  | exact ih0 _ _ _
  | exact LeO.none _
  | refine LeO.ite ?_ ?_
  | refine LeO.bind ?_ (fun _ => ?_)
set_option maxHeartbeats 8000000 in
set_option maxRecDepth 100000 in
theorem handshakerref03_Numbers.calls (k : Nat) (A0 : Option Addr) (c0 : Nat) (l0 : List Int) (A1 : Option Addr) (c1 : Nat) (l1 : List Int) (r : Bool) (w : World) (hr0 : Kd.C (Kd.int .i64) w A0 l0.length l0) (hc0 : l0.length ≤ c0) (hr1 : Kd.C (Kd.int .i64) w A1 l1.length l1) (hc1 : l1.length ≤ c1) (h : handshakerref03_Numbers.f k l0 l1 = some r) :
 Calls Try.prog 24 #[.slice A0 l0.length c0, .slice A1 l1.length c1] w fun e w' => e = .returned (.bool r) ∧ Drawn0 w w' := by
 have HR0 := Aside0.mk hr0
 have HC0 := Aside0.mk hc0
 clear hr0 hc0
 have HR1 := Aside0.mk hr1
 have HC1 := Aside0.mk hc1
 clear hr1 hc1
 have H : (if (l0.length : Int) = (l1.length : Int) then (handshakerref03_Numbers.l0 k l0 l1 0) else (some false)) = some r := h
 clear h
 by_cases c3 : (l0.length : Int) = (l1.length : Int)
 · rw [if_pos c3] at H
   have c3b0 : ((l0.length : Int) == (l1.length : Int)) = true := beq_iff_eq.mpr c3
   have c3b1 : ((l0.length : Int) != (l1.length : Int)) = false := bne_eq_false_iff_eq.mpr c3
   have c3b2 : (l0.length == l1.length) = true := by first | simpa using c3 | (simp at c3 ⊢; omega)
   clear c3
   have H' := Aside0.mk H
   clear H
   go_enter Try.func24, Try.ntmps24
   go_wp2
   repeat (go_quiet (fail); try go_wp2)
   go_loopg [5] k (fun kq v5 w' => ∃ (x5_1 : Int), v5 = .int .i64 x5_1 ∧ Aside0 (handshakerref03_Numbers.l0 kq l0 l1 x5_1 = some r) ∧ Aside0 (kq ≤ k) ∧ Drawn0 w w')
   case atStart => exact ⟨(0), (by first | rfl | (simp; done) | (simp [*]; done)), H', ⟨Nat.le_refl _⟩, by repeat (first | exact Drawn0.refl _ | apply Drawn0.step)⟩
   case round =>
    clear H'
    try clear c1
    try clear c2
    try clear p2
    try clear c3
    try clear c3b0
    try clear c3b1
    try clear c3b2
    obtain ⟨x5_1, rfl, HA, HK1, ⟨m1, rfl⟩⟩ := hrel
    cases gk with
    | zero => exact absurd HA.out (by simp [handshakerref03_Numbers.l0])
    | succ k1 =>
     have H := HA.out
     clear HA
     simp only [handshakerref03_Numbers.l0] at H
     by_cases c4 : x5_1 < (l0.length : Int)
     · rw [if_pos c4] at H
       have c4b0 : decide (x5_1 < (l0.length : Int)) = true := decide_eq_true c4
       clear c4
       by_cases c5 : 0 ≤ x5_1
       · rw [if_pos c5] at H
         have c5b0 : decide (0 ≤ x5_1) = true := decide_eq_true c5
         clear c5
         by_cases c6 : x5_1 < (l1.length : Int)
         · rw [if_pos c6] at H
           have c6b0 : decide (x5_1 < (l1.length : Int)) = true := decide_eq_true c6
           clear c6
           by_cases c7 : (rd l0 x5_1) = (rd l1 x5_1)
           · rw [if_pos c7] at H
             have c7b0 : ((rd l0 x5_1) == (rd l1 x5_1)) = true := beq_iff_eq.mpr c7
             have c7b1 : ((rd l0 x5_1) != (rd l1 x5_1)) = false := bne_eq_false_iff_eq.mpr c7
             clear c7
             have H' := Aside0.mk H
             clear H
             have p136 : 0 ≤ (x5_1 : Int) := of_decide_eq_true (by first | (with_reducible assumption) | assumption)
             have q136 : x5_1 < (l0.length : Int) := of_decide_eq_true (by first | (with_reducible assumption) | assumption)
             obtain ⟨ad136, e136, hx136_0⟩ := Kd.at_int HR0.out x5_1 p136 q136
             cases e136
             replace p136 := eq_true p136
             replace q136 := eq_true q136
             have p137 : 0 ≤ (x5_1 : Int) := of_decide_eq_true (by first | (with_reducible assumption) | assumption)
             have q137 : x5_1 < (l1.length : Int) := of_decide_eq_true (by first | (with_reducible assumption) | assumption)
             obtain ⟨ad137, e137, hx137_0⟩ := Kd.at_int HR1.out x5_1 p137 q137
             cases e137
             replace p137 := eq_true p137
             replace q137 := eq_true q137
             go_wp2
             repeat (go_quiet (fail); try go_wp2)
             go_roundg k1
             case measure => have := HK1.out; omega
             case rel => exact ⟨(wrap64 (x5_1 + 1)), (by first | rfl | (simp; done) | (simp [*]; done)), H', ⟨by have := HK1.out; omega⟩, by repeat (first | exact Drawn0.refl _ | apply Drawn0.step)⟩
           · rw [if_neg c7] at H
             have c7b0 : ((rd l0 x5_1) == (rd l1 x5_1)) = false := beq_eq_false_iff_ne.mpr c7
             have c7b1 : ((rd l0 x5_1) != (rd l1 x5_1)) = true := bne_iff_ne.mpr c7
             obtain rfl := Option.some.inj H
             have p136 : 0 ≤ (x5_1 : Int) := of_decide_eq_true (by first | (with_reducible assumption) | assumption)
             have q136 : x5_1 < (l0.length : Int) := of_decide_eq_true (by first | (with_reducible assumption) | assumption)
             obtain ⟨ad136, e136, hx136_0⟩ := Kd.at_int HR0.out x5_1 p136 q136
             cases e136
             replace p136 := eq_true p136
             replace q136 := eq_true q136
             have p137 : 0 ≤ (x5_1 : Int) := of_decide_eq_true (by first | (with_reducible assumption) | assumption)
             have q137 : x5_1 < (l1.length : Int) := of_decide_eq_true (by first | (with_reducible assumption) | assumption)
             obtain ⟨ad137, e137, hx137_0⟩ := Kd.at_int HR1.out x5_1 p137 q137
             cases e137
             replace p137 := eq_true p137
             replace q137 := eq_true q137
             go_wp2
             repeat (go_quiet (fail); try go_wp2)
             go_ret
             exact ⟨by first | rfl | (simp; done) | (simp [*]; done), by repeat (first | exact Drawn0.refl _ | apply Drawn0.step)⟩
         · rw [if_neg c6] at H
           exact absurd H (by simp)
       · rw [if_neg c5] at H
         exact absurd H (by simp)
     · rw [if_neg c4] at H
       have c4b0 : decide (x5_1 < (l0.length : Int)) = false := decide_eq_false c4
       clear c4
       obtain rfl := Option.some.inj H
       go_wp2
       repeat (go_quiet (fail); try go_wp2)
       go_ret
       exact ⟨by first | rfl | (simp; done) | (simp [*]; done), by repeat (first | exact Drawn0.refl _ | apply Drawn0.step)⟩
 · rw [if_neg c3] at H
   have c3b0 : ((l0.length : Int) == (l1.length : Int)) = false := beq_eq_false_iff_ne.mpr c3
   have c3b1 : ((l0.length : Int) != (l1.length : Int)) = true := bne_iff_ne.mpr c3
   have c3b2 : (l0.length == l1.length) = false := by first | simpa using c3 | (simp at c3 ⊢; omega)
   obtain rfl := Option.some.inj H
   go_enter Try.func24, Try.ntmps24
   go_wp2
   repeat (go_quiet (fail); try go_wp2)
   go_ret
   exact ⟨by first | rfl | (simp; done) | (simp [*]; done), by repeat (first | exact Drawn0.refl _ | apply Drawn0.step)⟩

/-! ### slices_Sort: function 50: the library's, by its contract -/
def slices_Sort.f (l0 : List Int) : Option (List Int) := if l0.length < 4611686018427387904 then some (l0.mergeSort fun x y => decide (x ≤ y)) else none
set_option maxHeartbeats 2000000 in
theorem slices_Sort.calls (P0_ : Nat → Prop) (u9000_ : Value) (l0 : List Int) (r : List Int) (w0 w : World) (hB : Below w0.heap.size w0 w) (ho0 : Kd.R (Kd.int .i64) 3 w w0.heap.size P0_ u9000_ l0) (h : slices_Sort.f l0 = some r) :
 Calls Try.prog 50 #[u9000_] w fun e w' => e = .returned (.tuple #[]) ∧ Kd.R (Kd.int .i64) 3 w' w0.heap.size (fun k_ => (P0_ k_ ∨ w.heap.size ≤ k_)) u9000_ r ∧ Below w0.heap.size w0 w' ∧ Kept w w' (fun k_ => P0_ k_) := by
 unfold slices_Sort.f at h
 split at h
 case isFalse => exact absurd h (by simp)
 rename_i hlen
 obtain rfl := Option.some.inj h
 rcases Nat.eq_zero_or_pos l0.length with h0 | h0
 · obtain rfl : l0 = [] := List.length_eq_zero_iff.1 h0
   obtain ⟨_, ho⟩ := Kd.R_own ho0
   obtain ⟨A, c, rfl⟩ := own_slice ho
   refine (Try.slices_Sort_int_none A c w).mono ?_
   rintro e w' ⟨rfl, rfl⟩
   exact ⟨rfl, Kd.R_mono (by simpa using ho0) (fun k hk => .inl hk), hB, Kept.refl _ _⟩
 · obtain ⟨g, cap, rfl, hbg, hgl, _⟩ := Kd.R_form ho0 h0
   refine (Try.slices_Sort_int g 0 cap l0 w (So.holds_of ho0) hgl hlen).mono ?_
   rintro e w' ⟨rfl, n, os, rfl⟩
   have hl : (l0.mergeSort fun x y => decide (x ≤ y)).length = l0.length := List.length_mergeSort _
   have hr := So.put_row ho0 n _ (l0.mergeSort fun x y => decide (x ≤ y)) os hl (by rw [List.take_length]) h0
   rw [hl] at hr
   exact ⟨rfl, Kd.R_mono hr (fun k hk => .inl hk), So.put_below hB n g _ os hgl hbg, So.put_kept n g _ os hgl (ho0.1 g rfl)⟩

/-! ### reads_Cells: function 25 -/
def reads_Cells.l0 : Nat → List (S24) → List Int → List (S24) → Int → Int → Option (List Int)
 | 0, _, _, _, _, _ => none
 | k + 1, x0, x3, x6, x7, x8 => if x8 < x7 then (if 0 ≤ x8 then (if x8 < (x6.length : Int) then (if x3.length < 17592186044416 then (reads_Cells.l0 k x0 (x3 ++ [(rd_T24 x6 x8).f0]) x6 x7 (wrap64 (x8 + 1))) else (none)) else (none)) else (none)) else ((reads_Right.f k x0).bind fun t143 => (if t143 = true then ((slices_Sort.f x3).bind fun t144 => (some t144)) else (some ([] : List Int))))
def reads_Cells.f (k : Nat) (l0 : List (S24)) : Option (List Int) := reads_Cells.l0 k l0 ([] : List Int) l0 (l0.length : Int) 0
theorem reads_Cells.mono_l : ∀ k, (∀ y0 y1 y2 y3 y4, LeO (reads_Cells.l0 k y0 y1 y2 y3 y4) (reads_Cells.l0 (k + 1) y0 y1 y2 y3 y4))
 | 0 => fun _ _ _ _ _ r h => by simp [reads_Cells.l0] at h
 | k + 1 => by
  have ih0 := reads_Cells.mono_l k
  · intro y0 y1 y2 y3 y4
    unfold reads_Cells.l0
    repeat' first
    | (with_reducible exact ih0 _ _ _ _ _)
    | (with_reducible exact reads_Right.mono _ _)
    | (with_reducible exact LeO.refl _)
    | (with_reducible exact LeO.none _)
    | (with_reducible refine LeO.ite ?_ ?_)
    | (with_reducible refine LeO.bind ?_ (fun _ => ?_))
    | exact ih0 _ _ _ _ _
    | exact reads_Right.mono _ _
    | exact LeO.none _
    | refine LeO.ite ?_ ?_
    | refine LeO.bind ?_ (fun _ => ?_)
theorem reads_Cells.mono : ∀ a0 k, LeO (reads_Cells.f k a0) (reads_Cells.f (k + 1) a0) := by
 intro a0 k
 have ih0 := reads_Cells.mono_l k
 unfold reads_Cells.f
 repeat' first
  | (with_reducible exact ih0 _ _ _ _ _)
  | (with_reducible exact reads_Right.mono _ _)
  | (with_reducible exact LeO.refl _)
  | (with_reducible exact LeO.none _)
  | (with_reducible refine LeO.ite ?_ ?_)
  | (with_reducible refine LeO.bind ?_ (fun _ => ?_))
  | exact ih0 _ _ _ _ _
  | exact reads_Right.mono _ _
  | exact LeO.none _
  | refine LeO.ite ?_ ?_
  | refine LeO.bind ?_ (fun _ => ?_)
set_option maxHeartbeats 8000000 in
set_option maxRecDepth 100000 in
theorem reads_Cells.calls (k : Nat) (A0 : Option Addr) (c0 : Nat) (l0 : List (S24)) (r : List Int) (w : World) (hr0 : Kd.C k24 w A0 l0.length l0) (hc0 : l0.length ≤ c0) (h : reads_Cells.f k l0 = some r) :
 Calls Try.prog 25 #[.slice A0 l0.length c0] w fun e w' => ∃ v0_ : Value, e = .returned (v0_) ∧ Kd.R (Kd.int .i64) 3 w' w.heap.size (fun _ => True) v0_ r ∧ Below w.heap.size w w' := by
 have hu24 := Try.underlying24
 have HR0 := Aside0.mk hr0
 have HC0 := Aside0.mk hc0
 clear hr0 hc0
 have HB := Aside0.mk (Below.refl w.heap.size w)
 have H : (reads_Cells.l0 k l0 ([] : List Int) l0 (l0.length : Int) 0) = some r := h
 clear h
 have H' := Aside0.mk H
 clear H
 go_enter Try.func25, Try.ntmps25
 go_wp2
 go_loopg [3, 8] k (fun kq v3 v8 w' => ∃ (x3_1 : List Int) (x8_1 : Int), v8 = .int .i64 x8_1 ∧ Aside0 (reads_Cells.l0 kq l0 x3_1 l0 (l0.length : Int) x8_1 = some r) ∧ Aside0 (kq ≤ k) ∧ Aside0 (Kd.R (Kd.int .i64) 3 w' w.heap.size (fun _ => True) v3 x3_1) ∧ Aside0 (Below w.heap.size w w'))
 case atStart => exact ⟨(([] : List Int)), (0), (by first | rfl | (simp; done) | (simp [*]; done)), H', ⟨Nat.le_refl _⟩, ⟨by first | exact Kd.R_nil _ _ _ _ _ | exact Kd.N_nil _ _ _ _ _ | exact Kd.V_nil _ _ _ _ _ | exact Kd.Q_nil _ _ _ _ _ | exact Kd.S_nil _ _ _ _ _⟩, ⟨by repeat (with_reducible first | exact HB.out | apply below_alloc | apply pw_below_drewN | apply below_drew1)⟩⟩
 case round =>
  clear H'
  obtain ⟨x3_1, x8_1, rfl, HA, HK1, HO_3, HB⟩ := hrel
  cases gk with
  | zero => exact absurd HA.out (by simp [reads_Cells.l0])
  | succ k1 =>
   have H := HA.out
   clear HA
   simp only [reads_Cells.l0] at H
   by_cases c2 : x8_1 < (l0.length : Int)
   · rw [if_pos c2] at H
     have c2b0 : decide (x8_1 < (l0.length : Int)) = true := decide_eq_true c2
     clear c2
     by_cases c3 : 0 ≤ x8_1
     · rw [if_pos c3] at H
       have c3b0 : decide (0 ≤ x8_1) = true := decide_eq_true c3
       clear c3
       by_cases c4 : x8_1 < (l0.length : Int)
       · rw [if_pos c4] at H
         have c4b0 : decide (x8_1 < (l0.length : Int)) = true := decide_eq_true c4
         clear c4
         by_cases c5 : x3_1.length < 17592186044416
         · rw [if_pos c5] at H
           have LMc5 := Aside0.mk c5
           clear c5
           obtain ⟨y140, hy140⟩ : ∃ y_ : List Int, y_ = (x3_1 ++ [(rd_T24 l0 x8_1).f0]) := ⟨_, rfl⟩
           replace H : (reads_Cells.l0 k1 l0 y140 l0 (l0.length : Int) (wrap64 (x8_1 + 1))) = some r := by first | (rw [hy140]; with_reducible exact H) | (have H2_ := (Option.bind_some _ _).symm.trans H; rw [hy140]; with_reducible exact H2_) | (have H2_ := (Option.bind_some _ _).symm.trans H; with_reducible exact H2_) | with_reducible exact H | (rw [hy140]; exact H) | exact H
           have Ny140 := Aside0.mk hy140
           clear hy140
           have H' := Aside0.mk H
           clear H
           have p138 : 0 ≤ (x8_1 : Int) := of_decide_eq_true (by first | (with_reducible assumption) | assumption)
           have q138 : x8_1 < (l0.length : Int) := of_decide_eq_true (by first | (with_reducible assumption) | assumption)
           obtain ⟨ad138, e138, hx138_0, hx138_1, hx138_2⟩ := at_T24 HR0.out x8_1 p138 q138
           cases e138
           replace hx138_0 := (HB.out.cell (World.block_lt_of_cell? w _ hx138_0)).trans hx138_0
           replace hx138_1 := (HB.out.cell (World.block_lt_of_cell? w _ hx138_1)).trans hx138_1
           replace hx138_2 := (HB.out.cell (World.block_lt_of_cell? w _ hx138_2)).trans hx138_2
           replace p138 := eq_true p138
           replace q138 := eq_true q138
           go_wp2_with (first | ((with_reducible refine gate_dst (N := 5) rfl ?_); refine box_event ?hg (N := 5) ?hd (cs := #[.int .i64 0, .int .i64 0, .int .i64 0]) (t := 24) ?hr ?_; (case hd => rfl); (case hg => rfl); (case hr => first | (go_simp; done) | (go_simp; rfl)); intro gb139 hg w6 hbox hb; have n0_ := Aside0.mk (Kd.R_below (by (with_reducible repeat (first | apply Kd.R_alloc | apply Kd.R_drewN | apply Kd.R_drew)); exact HO_3.out) hb); have n1_ := Aside0.mk (bst_ hb); have n2_ := Aside0.mk (hbox); have n3_ := Aside0.mk ((by rw [hg]; exact bsz_ : w.heap.size ≤ gb139)); have n4_ := n3_; clear HO_3; clear HB; have HO_3 := n0_; have HB := n1_; have BK139 := n2_; have GW139 := n3_; have GE139 := n4_; clear n0_ n1_ n2_ n3_ n4_; clear hb hbox hg; have hcz7_0 : w6.cell? ⟨gb139, 0, none⟩ = some (.int .i64 0) := (blk_cell BK139.out 0).trans rfl; have hcz7_1 : w6.cell? ⟨gb139, 1, none⟩ = some (.int .i64 0) := (blk_cell BK139.out 1).trans rfl; have hcz7_2 : w6.cell? ⟨gb139, 2, none⟩ = some (.int .i64 0) := (blk_cell BK139.out 2).trans rfl; have hfz7_0 := blk_frozen BK139.out 0; have hfz7_1 := blk_frozen BK139.out 1; have hfz7_2 := blk_frozen BK139.out 2) | ((with_reducible refine gate_builtin (b := .append) (xs := #[.tmp 12, .tmp 15]) rfl ?_); at_builtin; refine Kd.R_append (Kd.int .i64) (w0 := w) w.heap.size rfl (.tmp 12) (.tmp 15) 35 3 (.int .i64 0) 8 rfl Try.underlying35 info3 rfl (by decide) (by omega) u3 x3_1 ((rd_T24 l0 x8_1).f0) [.int .i64 ((rd_T24 l0 x8_1).f0)] (fun _ => True) (fun _ => False) rfl (by first | (go_simp; done) | (go_simp; rfl)) ?aP (fun _ hk => hk.elim) ?aF ?aO ?aB ?aS ?aL ?_; (case aP => exact rfl); (case aB => exact (by repeat (with_reducible first | exact HB.out | apply below_alloc | apply pw_below_drewN | apply below_drew1 | refine below_set ?_ GE139.out))); (case aF => exact (fun _ _ => trivial)); (case aO => exact (by (with_reducible repeat (first | apply Kd.R_alloc | apply Kd.R_drewN | apply Kd.R_drew)); exact Kd.R_mono (Kd.R_far (p := ⟨gb139, 2, none⟩) (Kd.R_far (p := ⟨gb139, 1, none⟩) (Kd.R_far (p := ⟨gb139, 0, none⟩) (Kd.R_types HO_3.out BK139.out (by decide)) (fun _ hk => hk.2) (.int .i64 ((rd_T24 l0 x8_1).f0))) (fun _ hk => hk.2) (.int .i64 ((rd_T24 l0 x8_1).f1))) (fun _ hk => hk.2) (.int .i64 ((rd_T24 l0 x8_1).f2))) (fun _ hk => trivial))); (case aS => exact (below_size (by repeat (with_reducible first | exact HB.out | apply below_alloc | apply pw_below_drewN | apply below_drew1 | refine below_set ?_ GE139.out)))); (case aL => have := LMc5.out; omega); intro v141 w8 ho hb hg hat; rw [← Ny140.out] at ho; have n0_ := Aside0.mk (blk_grown (g := gb139) (o := .cells #[.int .i64 ((rd_T24 l0 x8_1).f0), .int .i64 ((rd_T24 l0 x8_1).f1), .int .i64 ((rd_T24 l0 x8_1).f2)] 24 (0, 0)) (by (with_reducible repeat (first | refine blk_drewN ?_ _ | refine blk_drew ?_ | refine blk_alloc ?_ _)); refine blk_put (cs := #[.int .i64 ((rd_T24 l0 x8_1).f0), .int .i64 ((rd_T24 l0 x8_1).f1), .int .i64 0]) ?_ 2 _ rfl; (with_reducible repeat (first | refine blk_drewN ?_ _ | refine blk_drew ?_ | refine blk_alloc ?_ _)); refine blk_put (cs := #[.int .i64 ((rd_T24 l0 x8_1).f0), .int .i64 0, .int .i64 0]) ?_ 1 _ rfl; (with_reducible repeat (first | refine blk_drewN ?_ _ | refine blk_drew ?_ | refine blk_alloc ?_ _)); refine blk_put (cs := #[.int .i64 0, .int .i64 0, .int .i64 0]) ?_ 0 _ rfl; (with_reducible repeat (first | refine blk_drewN ?_ _ | refine blk_drew ?_ | refine blk_alloc ?_ _)); exact BK139.out) hg (Kd.R_ne HO_3.out BK139.out (by decide))); have n1_ := Aside0.mk (hb); have n2_ := Aside0.mk (ho); clear BK139; clear HB; clear HO_3; have BK139 := n0_; have HB := n1_; have HO142 := n2_; clear n0_ n1_ n2_; clear ho hb hg hat))
           go_roundg k1
           case measure => have := HK1.out; omega
           case rel => exact ⟨(y140), (wrap64 (x8_1 + 1)), (by first | rfl | (simp; done) | (simp [*]; done)), H', ⟨by have := HK1.out; omega⟩, ⟨by (with_reducible repeat (first | apply Kd.R_alloc | apply Kd.R_drewN | apply Kd.R_drew)); exact HO142.out⟩, ⟨by repeat (with_reducible first | exact HB.out | apply below_alloc | apply pw_below_drewN | apply below_drew1 | refine below_set ?_ GE139.out)⟩⟩
         · rw [if_neg c5] at H
           exact absurd H (by simp)
       · rw [if_neg c4] at H
         exact absurd H (by simp)
     · rw [if_neg c3] at H
       exact absurd H (by simp)
   · rw [if_neg c2] at H
     have c2b0 : decide (x8_1 < (l0.length : Int)) = false := decide_eq_false c2
     clear c2
     replace H := Option.bind_eq_some_iff.mp H
     obtain ⟨t143, A90, H⟩ := H
     replace H : (if t143 = true then ((slices_Sort.f x3_1).bind fun t144 => (some t144)) else (some ([] : List Int))) = some r := H
     have A9 := Aside0.mk A90
     clear A90
     by_cases c10 : t143 = true
     · subst c10
       have H1 : ((slices_Sort.f x3_1).bind fun t144 => (some t144)) = some r := by rw [if_pos rfl] at H; exact H
       clear H
       have H := H1
       clear H1
       replace H := Option.bind_eq_some_iff.mp H
       obtain ⟨t144, A110, H⟩ := H
       replace H : (some t144) = some r := H
       have A11 := Aside0.mk A110
       clear A110
       obtain rfl := Option.some.inj H
       go_wp2_with (first | ((with_reducible refine gate_callee (f := 22) rfl ?_); refine goesL_ (some 19) rfl rfl Try.func22 (by kernel_rfl) rfl #[.slice A0 l0.length c0] rfl (by (try simp only [List.map_toArray, List.map_cons, List.map_nil]); first | done | rfl) ?_; (with_reducible refine (reads_Right.calls k1 _ _ l0 true _ ?side1 ?side2 A9.out).mono ?_); (case side1 => repeat (first | exact (Kd.C_below HR0.out HB.out) | with_reducible first | refine Kd.C_alloc ?_ _ | refine Kd.C_drewN ?_ _ | refine Kd.C_drew ?_)); (case side2 => exact HC0.out); rintro e w12 ⟨rfl, hb⟩; refine ⟨_, rfl, ?_⟩; have n0_ := Aside0.mk (Kd.R_below (by (with_reducible repeat (first | apply Kd.R_alloc | apply Kd.R_drewN | apply Kd.R_drew)); exact HO_3.out) hb); have n1_ := Aside0.mk (bst_ hb); clear HO_3; clear HB; have HO_3 := n0_; have HB := n1_; clear n0_ n1_; (try clear hb); (try clear hb2); (try clear hk); (try clear hi); obtain ⟨Ao13, co13, eo13⟩ := Kd.R_slice HO_3.out; subst eo13) | ((with_reducible refine gate_callee (f := 50) rfl ?_); refine goesL_ (some 22) rfl rfl Try.func50 (by kernel_rfl) rfl #[.slice Ao13 x3_1.length co13] rfl (by (try simp only [List.map_toArray, List.map_cons, List.map_nil]); first | done | rfl) ?_; (with_reducible refine (slices_Sort.calls (fun k_ => some k_ = (.slice Ao13 x3_1.length co13 : Value).ownBlock) (.slice Ao13 x3_1.length co13) x3_1 t144 w _ ?side1 ?side2 A11.out).mono ?_); (case side1 => repeat (with_reducible first | exact HB.out | apply below_alloc | apply pw_below_drewN | apply below_drew1)); (case side2 => exact Kd.R_tight rfl HO_3.out); rintro e w14 ⟨rfl, hy0, hb, hkp⟩; refine ⟨_, rfl, ?_⟩; have n0_ := Aside0.mk (Kd.R_reok rfl hy0 (fun k_ e_ => HO_3.out.1 k_ e_)); have n1_ := Aside0.mk (hb); clear HO_3; clear HB; have HO_3 := n0_; have HB := n1_; clear n0_ n1_; (try clear hb); (try clear hkp); (try clear hy0)))
       go_ret
       exact ⟨_, by first | rfl | (simp [errW_none, errW_some] <;> rfl) | (simp [*, errW_none, errW_some] <;> rfl), by (with_reducible repeat (first | apply Kd.R_alloc | apply Kd.R_drewN | apply Kd.R_drew)); exact HO_3.out, by repeat (with_reducible first | exact HB.out | apply below_alloc | apply pw_below_drewN | apply below_drew1)⟩
     · replace c10 := Bool.eq_false_iff.mpr c10
       subst c10
       have H1 : (some ([] : List Int)) = some r := by rw [if_neg (show ¬ (false = true) by decide)] at H; exact H
       clear H
       have H := H1
       clear H1
       obtain rfl := Option.some.inj H
       go_wp2_with (first | ((with_reducible refine gate_callee (f := 22) rfl ?_); refine goesL_ (some 19) rfl rfl Try.func22 (by kernel_rfl) rfl #[.slice A0 l0.length c0] rfl (by (try simp only [List.map_toArray, List.map_cons, List.map_nil]); first | done | rfl) ?_; (with_reducible refine (reads_Right.calls k1 _ _ l0 false _ ?side1 ?side2 A9.out).mono ?_); (case side1 => repeat (first | exact (Kd.C_below HR0.out HB.out) | with_reducible first | refine Kd.C_alloc ?_ _ | refine Kd.C_drewN ?_ _ | refine Kd.C_drew ?_)); (case side2 => exact HC0.out); rintro e w15 ⟨rfl, hb⟩; refine ⟨_, rfl, ?_⟩; have n0_ := Aside0.mk (Kd.R_below (by (with_reducible repeat (first | apply Kd.R_alloc | apply Kd.R_drewN | apply Kd.R_drew)); exact HO_3.out) hb); have n1_ := Aside0.mk (bst_ hb); clear HO_3; clear HB; have HO_3 := n0_; have HB := n1_; clear n0_ n1_; (try clear hb); (try clear hb2); (try clear hk); (try clear hi)))
       go_ret
       exact ⟨_, by first | rfl | (simp [errW_none, errW_some] <;> rfl) | (simp [*, errW_none, errW_some] <;> rfl), by first | exact Kd.R_nil _ _ _ _ _ | exact Kd.N_nil _ _ _ _ _ | exact Kd.V_nil _ _ _ _ _ | exact Kd.Q_nil _ _ _ _ _ | exact Kd.S_nil _ _ _ _ _, by repeat (with_reducible first | exact HB.out | apply below_alloc | apply pw_below_drewN | apply below_drew1)⟩

-- NOT PRINTED: function 78 (slices_IndexFunc_78)

-- NOT PRINTED: function 66 (slices_ContainsFunc_66)

/-! ### stripe_somebody: function 58 -/
def stripe_somebody.f (a0 : Int) : Option (Bool) := if a0 ≥ 1 then (some (decide (a0 ≤ 8))) else (some false)
set_option maxHeartbeats 8000000 in
set_option maxRecDepth 100000 in
theorem stripe_somebody.calls (a0 : Int) (r : Bool) (w : World) (h : stripe_somebody.f a0 = some r) :
 Calls Try.prog 58 #[.int .i64 a0] w fun e w' => e = .returned (.bool r) ∧ Drawn0 w w' := by
 have H : (if a0 ≥ 1 then (some (decide (a0 ≤ 8))) else (some false)) = some r := h
 clear h
 by_cases c2 : a0 ≥ 1
 · rw [if_pos c2] at H
   have c2b0 : decide (1 ≤ a0) = true := decide_eq_true c2
   clear c2
   obtain rfl := Option.some.inj H
   go_enter Try.func58, Try.ntmps58
   go_wp2
   go_ret
   exact ⟨by first | rfl | (simp; done) | (simp [*]; done), by repeat (first | exact Drawn0.refl _ | apply Drawn0.step)⟩
 · rw [if_neg c2] at H
   have c2b0 : decide (1 ≤ a0) = false := decide_eq_false c2
   clear c2
   obtain rfl := Option.some.inj H
   go_enter Try.func58, Try.ntmps58
   go_wp2
   go_ret
   exact ⟨by first | rfl | (simp; done) | (simp [*]; done), by repeat (first | exact Drawn0.refl _ | apply Drawn0.step)⟩

/-! ### stripe_wrong: function 67 -/
def stripe_wrong.f (a0_0 : Int) (a0_1 : Int) : Option (Bool) := if a0_0 < 0 then (some true) else (if a0_0 > 2147483647 then (some true) else (if a0_1 = 0 then (some false) else ((stripe_somebody.f a0_1).bind fun t146 => (some (!t146)))))
set_option maxHeartbeats 8000000 in
set_option maxRecDepth 100000 in
theorem stripe_wrong.calls (a0_0 : Int) (a0_1 : Int) (r : Bool) (w : World) (h : stripe_wrong.f a0_0 a0_1 = some r) :
 Calls Try.prog 67 #[.agg #[.int .i64 a0_0, .int .i64 a0_1]] w fun e w' => e = .returned (.bool r) ∧ Below w.heap.size w w' := by
 have hu67 := Try.underlying67
 have HB := Aside0.mk (Below.refl w.heap.size w)
 have H : (if a0_0 < 0 then (some true) else (if a0_0 > 2147483647 then (some true) else (if a0_1 = 0 then (some false) else ((stripe_somebody.f a0_1).bind fun t146 => (some (!t146)))))) = some r := h
 clear h
 by_cases c2 : a0_0 < 0
 · rw [if_pos c2] at H
   have c2b0 : decide (a0_0 < 0) = true := decide_eq_true c2
   clear c2
   obtain rfl := Option.some.inj H
   go_enter Try.func67, Try.ntmps67
   go_wp2_with (first | ((with_reducible refine gate_dst (N := 1) rfl ?_); refine box_event ?hg (N := 1) ?hd (cs := #[.int .i64 a0_0, .int .i64 a0_1]) (t := 67) ?hr ?_; (case hd => rfl); (case hg => rfl); (case hr => first | (go_simp; done) | (go_simp; rfl)); intro gb145 hg w3 hbox hb; have n0_ := Aside0.mk (bst_ hb); have n1_ := Aside0.mk (hbox); have n2_ := Aside0.mk ((by rw [hg]; exact bsz_ : w.heap.size ≤ gb145)); have n3_ := n2_; clear HB; have HB := n0_; have BK145 := n1_; have GW145 := n2_; have GE145 := n3_; clear n0_ n1_ n2_ n3_; clear hb hbox hg; have hcz4_0 : w3.cell? ⟨gb145, 0, none⟩ = some (.int .i64 a0_0) := (blk_cell BK145.out 0).trans rfl; have hcz4_1 : w3.cell? ⟨gb145, 1, none⟩ = some (.int .i64 a0_1) := (blk_cell BK145.out 1).trans rfl; have hfz4_0 := blk_frozen BK145.out 0; have hfz4_1 := blk_frozen BK145.out 1))
   go_ret
   exact ⟨by first | rfl | (simp [errW_none, errW_some] <;> rfl) | (simp [*, errW_none, errW_some] <;> rfl), by repeat (with_reducible first | exact HB.out | apply below_alloc | apply pw_below_drewN | apply below_drew1 | refine below_set ?_ GE145.out)⟩
 · rw [if_neg c2] at H
   have c2b0 : decide (a0_0 < 0) = false := decide_eq_false c2
   clear c2
   by_cases c5 : a0_0 > 2147483647
   · rw [if_pos c5] at H
     have c5b0 : decide (2147483647 < a0_0) = true := decide_eq_true c5
     clear c5
     obtain rfl := Option.some.inj H
     go_enter Try.func67, Try.ntmps67
     go_wp2_with (first | ((with_reducible refine gate_dst (N := 1) rfl ?_); refine box_event ?hg (N := 1) ?hd (cs := #[.int .i64 a0_0, .int .i64 a0_1]) (t := 67) ?hr ?_; (case hd => rfl); (case hg => rfl); (case hr => first | (go_simp; done) | (go_simp; rfl)); intro gb145 hg w6 hbox hb; have n0_ := Aside0.mk (bst_ hb); have n1_ := Aside0.mk (hbox); have n2_ := Aside0.mk ((by rw [hg]; exact bsz_ : w.heap.size ≤ gb145)); have n3_ := n2_; clear HB; have HB := n0_; have BK145 := n1_; have GW145 := n2_; have GE145 := n3_; clear n0_ n1_ n2_ n3_; clear hb hbox hg; have hcz7_0 : w6.cell? ⟨gb145, 0, none⟩ = some (.int .i64 a0_0) := (blk_cell BK145.out 0).trans rfl; have hcz7_1 : w6.cell? ⟨gb145, 1, none⟩ = some (.int .i64 a0_1) := (blk_cell BK145.out 1).trans rfl; have hfz7_0 := blk_frozen BK145.out 0; have hfz7_1 := blk_frozen BK145.out 1))
     go_ret
     exact ⟨by first | rfl | (simp [errW_none, errW_some] <;> rfl) | (simp [*, errW_none, errW_some] <;> rfl), by repeat (with_reducible first | exact HB.out | apply below_alloc | apply pw_below_drewN | apply below_drew1 | refine below_set ?_ GE145.out)⟩
   · rw [if_neg c5] at H
     have c5b0 : decide (2147483647 < a0_0) = false := decide_eq_false c5
     clear c5
     by_cases c8 : a0_1 = 0
     · rw [if_pos c8] at H
       have c8b0 : (a0_1 == 0) = true := beq_iff_eq.mpr c8
       have c8b1 : (a0_1 != 0) = false := bne_eq_false_iff_eq.mpr c8
       clear c8
       obtain rfl := Option.some.inj H
       go_enter Try.func67, Try.ntmps67
       go_wp2_with (first | ((with_reducible refine gate_dst (N := 1) rfl ?_); refine box_event ?hg (N := 1) ?hd (cs := #[.int .i64 a0_0, .int .i64 a0_1]) (t := 67) ?hr ?_; (case hd => rfl); (case hg => rfl); (case hr => first | (go_simp; done) | (go_simp; rfl)); intro gb145 hg w9 hbox hb; have n0_ := Aside0.mk (bst_ hb); have n1_ := Aside0.mk (hbox); have n2_ := Aside0.mk ((by rw [hg]; exact bsz_ : w.heap.size ≤ gb145)); have n3_ := n2_; clear HB; have HB := n0_; have BK145 := n1_; have GW145 := n2_; have GE145 := n3_; clear n0_ n1_ n2_ n3_; clear hb hbox hg; have hcz10_0 : w9.cell? ⟨gb145, 0, none⟩ = some (.int .i64 a0_0) := (blk_cell BK145.out 0).trans rfl; have hcz10_1 : w9.cell? ⟨gb145, 1, none⟩ = some (.int .i64 a0_1) := (blk_cell BK145.out 1).trans rfl; have hfz10_0 := blk_frozen BK145.out 0; have hfz10_1 := blk_frozen BK145.out 1))
       go_ret
       exact ⟨by first | rfl | (simp [errW_none, errW_some] <;> rfl) | (simp [*, errW_none, errW_some] <;> rfl), by repeat (with_reducible first | exact HB.out | apply below_alloc | apply pw_below_drewN | apply below_drew1 | refine below_set ?_ GE145.out)⟩
     · rw [if_neg c8] at H
       have c8b0 : (a0_1 == 0) = false := beq_eq_false_iff_ne.mpr c8
       have c8b1 : (a0_1 != 0) = true := bne_iff_ne.mpr c8
       replace H := Option.bind_eq_some_iff.mp H
       obtain ⟨t146, A110, H⟩ := H
       replace H : (some (!t146)) = some r := H
       have A11 := Aside0.mk A110
       clear A110
       obtain rfl := Option.some.inj H
       go_enter Try.func67, Try.ntmps67
       go_wp2_with (first | ((with_reducible refine gate_dst (N := 1) rfl ?_); refine box_event ?hg (N := 1) ?hd (cs := #[.int .i64 a0_0, .int .i64 a0_1]) (t := 67) ?hr ?_; (case hd => rfl); (case hg => rfl); (case hr => first | (go_simp; done) | (go_simp; rfl)); intro gb145 hg w12 hbox hb; have n0_ := Aside0.mk (bst_ hb); have n1_ := Aside0.mk (hbox); have n2_ := Aside0.mk ((by rw [hg]; exact bsz_ : w.heap.size ≤ gb145)); have n3_ := n2_; clear HB; have HB := n0_; have BK145 := n1_; have GW145 := n2_; have GE145 := n3_; clear n0_ n1_ n2_ n3_; clear hb hbox hg; have hcz13_0 : w12.cell? ⟨gb145, 0, none⟩ = some (.int .i64 a0_0) := (blk_cell BK145.out 0).trans rfl; have hcz13_1 : w12.cell? ⟨gb145, 1, none⟩ = some (.int .i64 a0_1) := (blk_cell BK145.out 1).trans rfl; have hfz13_0 := blk_frozen BK145.out 0; have hfz13_1 := blk_frozen BK145.out 1) | (go_at_call 58; (with_reducible refine (stripe_somebody.calls a0_1 t146 _ A11.out).mono ?_); rintro e w' ⟨rfl, ⟨nd, rfl⟩⟩))
       go_ret
       exact ⟨by first | rfl | (simp [errW_none, errW_some] <;> rfl) | (simp [*, errW_none, errW_some] <;> rfl), by repeat (with_reducible first | exact HB.out | apply below_alloc | apply pw_below_drewN | apply below_drew1 | refine below_set ?_ GE145.out)⟩

/-! ### ho78: slices.IndexFunc, function 78, at whatever function value that reads -/
set_option maxHeartbeats 2000000 in
theorem ho78 (p : S67 → Option Bool) (g : Nat) (lb : Array Value) (eg : ∀ args w, (callFunc g args).run Try.prog w = .ok (.enter g args) w) (A0 : Option Addr) (c0 : Nat) (l0 : List S67) (r : Int) (w : World)
 (hr0 : Kd.C k67 w A0 l0.length l0)
 (hp : ∀ (W : World) (x : S67) (b : Bool), Below w.heap.size w W → p x = some b → Calls Try.prog g (#[.agg #[.int .i64 x.f0, .int .i64 x.f1]] ++ lb) W fun e W' => e = .returned (.bool b) ∧ Below W.heap.size W W')
 (h : idxF p l0 0 = some r) :
 Calls Try.prog 78 #[.slice A0 l0.length c0, .func (.func g) #[] lb] w fun e w' => e = .returned (.int .i64 r) ∧ Below w.heap.size w w' := by
 have hmax : l0.length ≤ 9223372036854775807 := Kd.C_max hr0
 have hread : ∀ (W : World), Below w.heap.size w W → ∀ j : Nat, j < l0.length → ∃ ad, A0 = some ad ∧ W.cell? (ad.add (j * 2)) = some (.int .i64 ((rd_T67 l0 j).f0)) ∧ W.cell? ⟨(ad.add (j * 2)).block, (ad.add (j * 2)).off + 1, none⟩ = some (.int .i64 ((rd_T67 l0 j).f1)) := by
  intro W hW j hj
  have := at_T67 (Kd.C_below hr0 hW) (j : Int) (by omega) (by omega)
  simpa only [Int.toNat_natCast] using this
 generalize hn : l0.length = n at *
 have HR := Aside0.mk hread
 have HP := Aside0.mk hp
 have HH := Aside0.mk h
 clear hread hp h hr0
 have HN := Aside0.mk hn
 clear hn
 go_enter Try.func78, Try.ntmps78
 go_wp2
 go_loopg [5, 8] n (fun gg _ s8 wr => ∃ kk : Nat, kk ≤ n ∧ n - kk ≤ gg ∧ s8 = .int .i64 kk ∧ Aside0 (Below w.heap.size w wr) ∧ Aside0 (idxF p (l0.drop kk) kk = some r))
 case atStart => exact ⟨0, Nat.zero_le _, by omega, rfl, ⟨Below.refl _ w⟩, ⟨HH.out⟩⟩
 case round =>
  obtain ⟨kk, hkk, hg, rfl, BW, HI⟩ := hrel
  by_cases hlt : kk < n
  · have hltz : (kk : Int) < (n : Int) := by omega
    obtain ⟨ad, e0, q0, q1⟩ := HR.out wr BW.out kk hlt
    have hi := HI.out
    rw [idxF_drop p l0 z67 kk (by rw [HN.out]; exact hlt)] at hi
    obtain ⟨b, hb, hi⟩ := Option.bind_eq_some_iff.mp hi
    have hcall := HP.out wr _ b BW.out hb
    (try rw [show l0.getD kk z67 = rd_T67 l0 kk from rfl] at hcall)
    generalize rd_T67 l0 kk = y at q0 q1 hcall
    subst e0
    clear hb HI
    cases b with
    | true =>
     have hi2 : (kk : Int) = r := by simpa using hi
     clear hi
     have HE := Aside0.mk hi2
     clear hi2
     go_wp2_with (go_at_fn g; refine hcall.mono ?_; rintro e w' ⟨rfl, hb'⟩)
     go_ret
     exact ⟨by first | rfl | (rw [← HE.out]; rfl) | simp [HE.out], BW.out.trans (hb'.mono BW.out.size)⟩
    | false =>
     have hi2 : idxF p (l0.drop (kk + 1)) (kk + 1) = some r := by simpa using hi
     clear hi
     have HE := Aside0.mk hi2
     clear hi2
     go_wp2_with (go_at_fn g; refine hcall.mono ?_; rintro e w' ⟨rfl, hb'⟩)
     go_roundg (n - (kk + 1))
     case measure => omega
     case rel =>
      exact ⟨kk + 1, by omega, by omega, by go_num, ⟨BW.out.trans (hb'.mono BW.out.size)⟩, ⟨HE.out⟩⟩
  · have hltz : ¬ (kk : Int) < (n : Int) := by omega
    have : kk = n := by omega
    subst this
    have hi := HI.out
    rw [List.drop_of_length_le (by rw [HN.out]; omega)] at hi
    have hi2 : -1 = r := by simpa [idxF] using hi
    clear hi HI
    have HE := Aside0.mk hi2
    clear hi2
    go_wp2
    go_ret
    exact ⟨by first | rfl | (rw [← HE.out]; rfl) | simp [HE.out], BW.out⟩

/-! ### ho66: slices.ContainsFunc, function 66 -/
set_option maxHeartbeats 2000000 in
theorem ho66 (p : S67 → Option Bool) (g : Nat) (lb : Array Value) (eg : ∀ args w, (callFunc g args).run Try.prog w = .ok (.enter g args) w) (A0 : Option Addr) (c0 : Nat) (l0 : List S67) (r : Bool) (w : World)
 (hr0 : Kd.C k67 w A0 l0.length l0)
 (hp : ∀ (W : World) (x : S67) (b : Bool), Below w.heap.size w W → p x = some b → Calls Try.prog g (#[.agg #[.int .i64 x.f0, .int .i64 x.f1]] ++ lb) W fun e W' => e = .returned (.bool b) ∧ Below W.heap.size W W')
 (h : anyF p l0 = some r) :
 Calls Try.prog 66 #[.slice A0 l0.length c0, .func (.func g) #[] lb] w fun e w' => e = .returned (.bool r) ∧ Below w.heap.size w w' := by
 obtain ⟨i, hi, hd⟩ := any_idx l0 0 r (by decide) h
 have hc := Aside0.mk (ho78 p g lb eg A0 c0 l0 i w hr0 hp hi)
 have HD := Aside0.mk hd
 clear hd hi h hp hr0 eg
 go_enter Try.func66, Try.ntmps66
 go_wp2_with (go_at_call 78; refine hc.out.mono ?_; rintro e w' ⟨rfl, hb⟩)
 go_ret
 exact ⟨by first | rfl | (rw [← HD.out]; rfl) | simp [HD.out], hb⟩

/-! ### any_at_stripe_wrong: function 66 at the function value 67 -/
def any_at_stripe_wrong.f (l0 : List (S67)) : Option (Bool) := anyF (fun x => stripe_wrong.f x.f0 x.f1) l0
theorem any_at_stripe_wrong.calls (A0 : Option Addr) (c0 : Nat) (l0 : List (S67)) (r : Bool) (w : World) (hr0 : Kd.C k67 w A0 l0.length l0) (hc0 : l0.length ≤ c0) (h : any_at_stripe_wrong.f l0 = some r) :
 Calls Try.prog 66 #[.slice A0 l0.length c0, .func (.func 67) #[] #[]] w fun e w' => e = .returned (.bool r) ∧ Below w.heap.size w w' :=
 ho66 (fun x => stripe_wrong.f x.f0 x.f1) 67 #[] (enters_of Try.func67 (by kernel_rfl) rfl) A0 c0 l0 r w hr0 (fun W x b hW_ hx => by
  show Calls Try.prog 67 #[.agg #[.int .i64 x.f0, .int .i64 x.f1]] W _
  exact (stripe_wrong.calls x.f0 x.f1 b W hx).mono (fun e W' ⟨he, hd⟩ => ⟨he, hd⟩)) h

/-! ### stripe_Right: function 37 -/
def stripe_Right.f (l0 : List (S67)) : Option (Bool) := if (l0.length : Int) ≥ 1 then (if (l0.length : Int) ≤ 16 then ((any_at_stripe_wrong.f l0).bind fun t147 => (some (!t147))) else (some false)) else (some false)
set_option maxHeartbeats 8000000 in
set_option maxRecDepth 100000 in
theorem stripe_Right.calls (A0 : Option Addr) (c0 : Nat) (l0 : List (S67)) (r : Bool) (w : World) (hr0 : Kd.C k67 w A0 l0.length l0) (hc0 : l0.length ≤ c0) (h : stripe_Right.f l0 = some r) :
 Calls Try.prog 37 #[.slice A0 l0.length c0] w fun e w' => e = .returned (.bool r) ∧ Below w.heap.size w w' := by
 have HR0 := Aside0.mk hr0
 have HC0 := Aside0.mk hc0
 clear hr0 hc0
 have HB := Aside0.mk (Below.refl w.heap.size w)
 have H : (if (l0.length : Int) ≥ 1 then (if (l0.length : Int) ≤ 16 then ((any_at_stripe_wrong.f l0).bind fun t147 => (some (!t147))) else (some false)) else (some false)) = some r := h
 clear h
 by_cases c2 : (l0.length : Int) ≥ 1
 · rw [if_pos c2] at H
   have c2b0 : decide (1 ≤ (l0.length : Int)) = true := decide_eq_true c2
   have c2b1 : decide (1 ≤ l0.length) = true := decide_eq_true (by omega)
   clear c2
   by_cases c3 : (l0.length : Int) ≤ 16
   · rw [if_pos c3] at H
     have c3b0 : decide ((l0.length : Int) ≤ 16) = true := decide_eq_true c3
     have c3b1 : decide (l0.length ≤ 16) = true := decide_eq_true (by omega)
     clear c3
     replace H := Option.bind_eq_some_iff.mp H
     obtain ⟨t147, A40, H⟩ := H
     replace H : (some (!t147)) = some r := H
     have A4 := Aside0.mk A40
     clear A40
     obtain rfl := Option.some.inj H
     go_enter Try.func37, Try.ntmps37
     go_wp2_with (first | (go_at_call 66; (with_reducible refine (any_at_stripe_wrong.calls _ _ l0 t147 _ ?side1 ?side2 A4.out).mono ?_); (case side1 => repeat (first | exact HR0.out | with_reducible first | refine Kd.C_alloc ?_ _ | refine Kd.C_drewN ?_ _ | refine Kd.C_drew ?_)); (case side2 => exact HC0.out); rintro e w5 ⟨rfl, hb⟩; have n0_ := Aside0.mk (bst_ hb); clear HB; have HB := n0_; clear n0_; (try clear hb); (try clear hb2); (try clear hk); (try clear hi)))
     go_ret
     exact ⟨by first | rfl | (simp [errW_none, errW_some] <;> rfl) | (simp [*, errW_none, errW_some] <;> rfl), by repeat (with_reducible first | exact HB.out | apply below_alloc | apply pw_below_drewN | apply below_drew1)⟩
   · rw [if_neg c3] at H
     have c3b0 : decide ((l0.length : Int) ≤ 16) = false := decide_eq_false c3
     have c3b1 : decide (l0.length ≤ 16) = false := decide_eq_false (by omega)
     clear c3
     obtain rfl := Option.some.inj H
     go_enter Try.func37, Try.ntmps37
     go_wp2
     go_ret
     exact ⟨by first | rfl | (simp [errW_none, errW_some] <;> rfl) | (simp [*, errW_none, errW_some] <;> rfl), by repeat (with_reducible first | exact HB.out | apply below_alloc | apply pw_below_drewN | apply below_drew1)⟩
 · rw [if_neg c2] at H
   have c2b0 : decide (1 ≤ (l0.length : Int)) = false := decide_eq_false c2
   have c2b1 : decide (1 ≤ l0.length) = false := decide_eq_false (by omega)
   clear c2
   obtain rfl := Option.some.inj H
   go_enter Try.func37, Try.ntmps37
   go_wp2
   go_ret
   exact ⟨by first | rfl | (simp [errW_none, errW_some] <;> rfl) | (simp [*, errW_none, errW_some] <;> rfl), by repeat (with_reducible first | exact HB.out | apply below_alloc | apply pw_below_drewN | apply below_drew1)⟩

/-! ### reads_Valid: function 26 -/
mutual
def reads_Valid.j0 : Nat → List (S24) → List (S67) → Int → Bool → Option (Int)
 | 0, _, _, _, _ => none
 | k + 1, x0, x1, x2, x25 => if x25 = true then (some 1) else (reads_Valid.l0 k x1 x2 x0 (x0.length : Int) 0)
def reads_Valid.l0 : Nat → List (S67) → Int → List (S24) → Int → Int → Option (Int)
 | 0, _, _, _, _, _ => none
 | k + 1, x1, x2, x26, x27, x28 => if x28 < x27 then (if 0 ≤ x28 then (if x28 < (x26.length : Int) then (if (x1.length : Int) = 0 then (none) else (if 0 ≤ (Int.tmod ((rd_T24 x26 x28).f0) (x1.length : Int)) then (if (Int.tmod ((rd_T24 x26 x28).f0) (x1.length : Int)) < (x1.length : Int) then (if ((rd_T67 x1 (Int.tmod ((rd_T24 x26 x28).f0) (x1.length : Int))).f0) = ((rd_T24 x26 x28).f1) then (if ((rd_T67 x1 (Int.tmod ((rd_T24 x26 x28).f0) (x1.length : Int))).f1) = 0 then (reads_Valid.l0 k x1 x2 x26 x27 (wrap64 (x28 + 1))) else (if ((rd_T67 x1 (Int.tmod ((rd_T24 x26 x28).f0) (x1.length : Int))).f1) = x2 then (reads_Valid.l0 k x1 x2 x26 x27 (wrap64 (x28 + 1))) else (some 8))) else (some 8)) else (none)) else (none))) else (none)) else (none)) else (some 0)
end
def reads_Valid.f (k : Nat) (l0 : List (S24)) (l1 : List (S67)) (a2 : Int) : Option (Int) := (reads_Right.f k l0).bind fun t148 => (if t148 = true then ((stripe_Right.f l1).bind fun t149 => (if t149 = true then (if a2 < 1 then (reads_Valid.j0 k l0 l1 a2 true) else (reads_Valid.j0 k l0 l1 a2 (decide (a2 > 8)))) else (reads_Valid.j0 k l0 l1 a2 true))) else (reads_Valid.j0 k l0 l1 a2 true))
theorem reads_Valid.mono_l : ∀ k, (∀ y0 y1 y2 y3, LeO (reads_Valid.j0 k y0 y1 y2 y3) (reads_Valid.j0 (k + 1) y0 y1 y2 y3)) ∧ (∀ y0 y1 y2 y3 y4, LeO (reads_Valid.l0 k y0 y1 y2 y3 y4) (reads_Valid.l0 (k + 1) y0 y1 y2 y3 y4))
 | 0 => ⟨fun _ _ _ _ r h => by simp [reads_Valid.j0] at h, fun _ _ _ _ _ r h => by simp [reads_Valid.l0] at h⟩
 | k + 1 => by
  obtain ⟨ih0, ih1⟩ := reads_Valid.mono_l k
  refine ⟨?_, ?_⟩
  · intro y0 y1 y2 y3
    unfold reads_Valid.j0
    repeat' first
    | (with_reducible exact ih0 _ _ _ _)
    | (with_reducible exact ih1 _ _ _ _ _)
    | (with_reducible exact reads_Right.mono _ _)
    | (with_reducible exact LeO.refl _)
    | (with_reducible exact LeO.none _)
    | (with_reducible refine LeO.ite ?_ ?_)
    | (with_reducible refine LeO.bind ?_ (fun _ => ?_))
    | exact ih0 _ _ _ _
    | exact ih1 _ _ _ _ _
    | exact reads_Right.mono _ _
    | exact LeO.none _
    | refine LeO.ite ?_ ?_
    | refine LeO.bind ?_ (fun _ => ?_)
  · intro y0 y1 y2 y3 y4
    unfold reads_Valid.l0
    repeat' first
    | (with_reducible exact ih0 _ _ _ _)
    | (with_reducible exact ih1 _ _ _ _ _)
    | (with_reducible exact reads_Right.mono _ _)
    | (with_reducible exact LeO.refl _)
    | (with_reducible exact LeO.none _)
    | (with_reducible refine LeO.ite ?_ ?_)
    | (with_reducible refine LeO.bind ?_ (fun _ => ?_))
    | exact ih0 _ _ _ _
    | exact ih1 _ _ _ _ _
    | exact reads_Right.mono _ _
    | exact LeO.none _
    | refine LeO.ite ?_ ?_
    | refine LeO.bind ?_ (fun _ => ?_)
theorem reads_Valid.mono : ∀ a0 a1 a2 k, LeO (reads_Valid.f k a0 a1 a2) (reads_Valid.f (k + 1) a0 a1 a2) := by
 intro a0 a1 a2 k
 obtain ⟨ih0, ih1⟩ := reads_Valid.mono_l k
 unfold reads_Valid.f
 repeat' first
  | (with_reducible exact ih0 _ _ _ _)
  | (with_reducible exact ih1 _ _ _ _ _)
  | (with_reducible exact reads_Right.mono _ _)
  | (with_reducible exact LeO.refl _)
  | (with_reducible exact LeO.none _)
  | (with_reducible refine LeO.ite ?_ ?_)
  | (with_reducible refine LeO.bind ?_ (fun _ => ?_))
  | exact ih0 _ _ _ _
  | exact ih1 _ _ _ _ _
  | exact reads_Right.mono _ _
  | exact LeO.none _
  | refine LeO.ite ?_ ?_
  | refine LeO.bind ?_ (fun _ => ?_)
set_option maxHeartbeats 8000000 in
set_option maxRecDepth 100000 in
theorem reads_Valid.calls (k : Nat) (A0 : Option Addr) (c0 : Nat) (l0 : List (S24)) (A1 : Option Addr) (c1 : Nat) (l1 : List (S67)) (a2 : Int) (r : Int) (w : World) (hr0 : Kd.C k24 w A0 l0.length l0) (hc0 : l0.length ≤ c0) (hr1 : Kd.C k67 w A1 l1.length l1) (hc1 : l1.length ≤ c1) (h : reads_Valid.f k l0 l1 a2 = some r) :
 Calls Try.prog 26 #[.slice A0 l0.length c0, .slice A1 l1.length c1, .int .i64 a2] w fun e w' => e = .returned (.int .i64 r) ∧ Below w.heap.size w w' := by
 have hu24 := Try.underlying24
 have hu67 := Try.underlying67
 have HR0 := Aside0.mk hr0
 have HC0 := Aside0.mk hc0
 clear hr0 hc0
 have HR1 := Aside0.mk hr1
 have HC1 := Aside0.mk hc1
 clear hr1 hc1
 have HB := Aside0.mk (Below.refl w.heap.size w)
 have H : ((reads_Right.f k l0).bind fun t148 => (if t148 = true then ((stripe_Right.f l1).bind fun t149 => (if t149 = true then (if a2 < 1 then (reads_Valid.j0 k l0 l1 a2 true) else (reads_Valid.j0 k l0 l1 a2 (decide (a2 > 8)))) else (reads_Valid.j0 k l0 l1 a2 true))) else (reads_Valid.j0 k l0 l1 a2 true))) = some r := h
 clear h
 have HC4 := Aside0.mk H
 clear H
 go_enter Try.func26, Try.ntmps26
 go_upto_region 1 with (fail)
 go_cut [25] (fun v25 wc => ∃ (kq : Nat) (x25_3 : Bool), v25 = .bool x25_3 ∧ Aside0 (reads_Valid.j0 kq l0 l1 a2 x25_3 = some r) ∧ Aside0 (kq ≤ k) ∧ Aside0 (Below w.heap.size w wc))
 case first =>
  have H := HC4.out
  clear HC4
  replace H := Option.bind_eq_some_iff.mp H
  obtain ⟨t148, A50, H⟩ := H
  replace H : (if t148 = true then ((stripe_Right.f l1).bind fun t149 => (if t149 = true then (if a2 < 1 then (reads_Valid.j0 k l0 l1 a2 true) else (reads_Valid.j0 k l0 l1 a2 (decide (a2 > 8)))) else (reads_Valid.j0 k l0 l1 a2 true))) else (reads_Valid.j0 k l0 l1 a2 true)) = some r := H
  have A5 := Aside0.mk A50
  clear A50
  by_cases c6 : t148 = true
  · subst c6
    have H1 : ((stripe_Right.f l1).bind fun t149 => (if t149 = true then (if a2 < 1 then (reads_Valid.j0 k l0 l1 a2 true) else (reads_Valid.j0 k l0 l1 a2 (decide (a2 > 8)))) else (reads_Valid.j0 k l0 l1 a2 true))) = some r := by rw [if_pos rfl] at H; exact H
    clear H
    have H := H1
    clear H1
    replace H := Option.bind_eq_some_iff.mp H
    obtain ⟨t149, A70, H⟩ := H
    replace H : (if t149 = true then (if a2 < 1 then (reads_Valid.j0 k l0 l1 a2 true) else (reads_Valid.j0 k l0 l1 a2 (decide (a2 > 8)))) else (reads_Valid.j0 k l0 l1 a2 true)) = some r := H
    have A7 := Aside0.mk A70
    clear A70
    by_cases c8 : t149 = true
    · subst c8
      have H1 : (if a2 < 1 then (reads_Valid.j0 k l0 l1 a2 true) else (reads_Valid.j0 k l0 l1 a2 (decide (a2 > 8)))) = some r := by rw [if_pos rfl] at H; exact H
      clear H
      have H := H1
      clear H1
      by_cases c9 : a2 < 1
      · rw [if_pos c9] at H
        have c9b0 : decide (a2 < 1) = true := decide_eq_true c9
        clear c9
        (first | rw [c9b0] | (simp only [i64_w, i32_w]; rw [c9b0]) | skip)
        have H' := Aside0.mk H
        clear H
        go_wp2_with (first | ((with_reducible refine gate_callee (f := 22) rfl ?_); refine goesL_ (some 11) rfl rfl Try.func22 (by kernel_rfl) rfl #[.slice A0 l0.length c0] rfl (by (try simp only [List.map_toArray, List.map_cons, List.map_nil]); first | done | rfl) ?_; (with_reducible refine (reads_Right.calls k _ _ l0 true _ ?side1 ?side2 A5.out).mono ?_); (case side1 => repeat (first | exact (Kd.C_below HR0.out HB.out) | with_reducible first | refine Kd.C_alloc ?_ _ | refine Kd.C_drewN ?_ _ | refine Kd.C_drew ?_)); (case side2 => exact HC0.out); rintro e w10 ⟨rfl, hb⟩; refine ⟨_, rfl, ?_⟩; have n0_ := Aside0.mk (bst_ hb); clear HB; have HB := n0_; clear n0_; (try clear hb); (try clear hb2); (try clear hk); (try clear hi)) | (go_at_call 37; (with_reducible refine (stripe_Right.calls _ _ l1 true _ ?side1 ?side2 A7.out).mono ?_); (case side1 => repeat (first | exact (Kd.C_below HR1.out HB.out) | with_reducible first | refine Kd.C_alloc ?_ _ | refine Kd.C_drewN ?_ _ | refine Kd.C_drew ?_)); (case side2 => exact HC1.out); rintro e w11 ⟨rfl, hb⟩; have n0_ := Aside0.mk (bst_ hb); clear HB; have HB := n0_; clear n0_; (try clear hb); (try clear hb2); (try clear hk); (try clear hi)))
        go_meet
        case rel => exact ⟨_, (true), (by first | rfl | (simp; done) | (simp [*]; done)), H', ⟨by first | omega | exact Nat.le_refl _⟩, ⟨by repeat (with_reducible first | exact HB.out | apply below_alloc | apply pw_below_drewN | apply below_drew1)⟩⟩
      · rw [if_neg c9] at H
        have c9b0 : decide (a2 < 1) = false := decide_eq_false c9
        clear c9
        (first | rw [c9b0] | (simp only [i64_w, i32_w]; rw [c9b0]) | skip)
        have H' := Aside0.mk H
        clear H
        go_wp2_with (first | ((with_reducible refine gate_callee (f := 22) rfl ?_); refine goesL_ (some 11) rfl rfl Try.func22 (by kernel_rfl) rfl #[.slice A0 l0.length c0] rfl (by (try simp only [List.map_toArray, List.map_cons, List.map_nil]); first | done | rfl) ?_; (with_reducible refine (reads_Right.calls k _ _ l0 true _ ?side1 ?side2 A5.out).mono ?_); (case side1 => repeat (first | exact (Kd.C_below HR0.out HB.out) | with_reducible first | refine Kd.C_alloc ?_ _ | refine Kd.C_drewN ?_ _ | refine Kd.C_drew ?_)); (case side2 => exact HC0.out); rintro e w12 ⟨rfl, hb⟩; refine ⟨_, rfl, ?_⟩; have n0_ := Aside0.mk (bst_ hb); clear HB; have HB := n0_; clear n0_; (try clear hb); (try clear hb2); (try clear hk); (try clear hi)) | (go_at_call 37; (with_reducible refine (stripe_Right.calls _ _ l1 true _ ?side1 ?side2 A7.out).mono ?_); (case side1 => repeat (first | exact (Kd.C_below HR1.out HB.out) | with_reducible first | refine Kd.C_alloc ?_ _ | refine Kd.C_drewN ?_ _ | refine Kd.C_drew ?_)); (case side2 => exact HC1.out); rintro e w13 ⟨rfl, hb⟩; have n0_ := Aside0.mk (bst_ hb); clear HB; have HB := n0_; clear n0_; (try clear hb); (try clear hb2); (try clear hk); (try clear hi)))
        go_meet
        case rel => exact ⟨_, (decide (a2 > 8)), (by first | rfl | (simp; done) | (simp [*]; done)), H', ⟨by first | omega | exact Nat.le_refl _⟩, ⟨by repeat (with_reducible first | exact HB.out | apply below_alloc | apply pw_below_drewN | apply below_drew1)⟩⟩
    · replace c8 := Bool.eq_false_iff.mpr c8
      subst c8
      have H1 : (reads_Valid.j0 k l0 l1 a2 true) = some r := by rw [if_neg (show ¬ (false = true) by decide)] at H; exact H
      clear H
      have H := H1
      clear H1
      have H' := Aside0.mk H
      clear H
      go_wp2_with (first | ((with_reducible refine gate_callee (f := 22) rfl ?_); refine goesL_ (some 11) rfl rfl Try.func22 (by kernel_rfl) rfl #[.slice A0 l0.length c0] rfl (by (try simp only [List.map_toArray, List.map_cons, List.map_nil]); first | done | rfl) ?_; (with_reducible refine (reads_Right.calls k _ _ l0 true _ ?side1 ?side2 A5.out).mono ?_); (case side1 => repeat (first | exact (Kd.C_below HR0.out HB.out) | with_reducible first | refine Kd.C_alloc ?_ _ | refine Kd.C_drewN ?_ _ | refine Kd.C_drew ?_)); (case side2 => exact HC0.out); rintro e w14 ⟨rfl, hb⟩; refine ⟨_, rfl, ?_⟩; have n0_ := Aside0.mk (bst_ hb); clear HB; have HB := n0_; clear n0_; (try clear hb); (try clear hb2); (try clear hk); (try clear hi)) | (go_at_call 37; (with_reducible refine (stripe_Right.calls _ _ l1 false _ ?side1 ?side2 A7.out).mono ?_); (case side1 => repeat (first | exact (Kd.C_below HR1.out HB.out) | with_reducible first | refine Kd.C_alloc ?_ _ | refine Kd.C_drewN ?_ _ | refine Kd.C_drew ?_)); (case side2 => exact HC1.out); rintro e w15 ⟨rfl, hb⟩; have n0_ := Aside0.mk (bst_ hb); clear HB; have HB := n0_; clear n0_; (try clear hb); (try clear hb2); (try clear hk); (try clear hi)))
      go_meet
      case rel => exact ⟨_, (true), (by first | rfl | (simp; done) | (simp [*]; done)), H', ⟨by first | omega | exact Nat.le_refl _⟩, ⟨by repeat (with_reducible first | exact HB.out | apply below_alloc | apply pw_below_drewN | apply below_drew1)⟩⟩
  · replace c6 := Bool.eq_false_iff.mpr c6
    subst c6
    have H1 : (reads_Valid.j0 k l0 l1 a2 true) = some r := by rw [if_neg (show ¬ (false = true) by decide)] at H; exact H
    clear H
    have H := H1
    clear H1
    have H' := Aside0.mk H
    clear H
    go_wp2_with (first | ((with_reducible refine gate_callee (f := 22) rfl ?_); refine goesL_ (some 11) rfl rfl Try.func22 (by kernel_rfl) rfl #[.slice A0 l0.length c0] rfl (by (try simp only [List.map_toArray, List.map_cons, List.map_nil]); first | done | rfl) ?_; (with_reducible refine (reads_Right.calls k _ _ l0 false _ ?side1 ?side2 A5.out).mono ?_); (case side1 => repeat (first | exact (Kd.C_below HR0.out HB.out) | with_reducible first | refine Kd.C_alloc ?_ _ | refine Kd.C_drewN ?_ _ | refine Kd.C_drew ?_)); (case side2 => exact HC0.out); rintro e w16 ⟨rfl, hb⟩; refine ⟨_, rfl, ?_⟩; have n0_ := Aside0.mk (bst_ hb); clear HB; have HB := n0_; clear n0_; (try clear hb); (try clear hb2); (try clear hk); (try clear hi)))
    go_meet
    case rel => exact ⟨_, (true), (by first | rfl | (simp; done) | (simp [*]; done)), H', ⟨by first | omega | exact Nat.le_refl _⟩, ⟨by repeat (with_reducible first | exact HB.out | apply below_alloc | apply pw_below_drewN | apply below_drew1)⟩⟩
 case rest =>
  clear HC4
  try clear c1
  try clear c2
  try clear p2
  try clear c6
  try clear c8
  try clear c9
  try clear c9b0
  obtain ⟨kq, x25_3, rfl, HA, HJ3, HB⟩ := hcut
  cases kq with
  | zero => exact absurd HA.out (by simp [reads_Valid.j0])
  | succ kj3 =>
   have H := HA.out
   clear HA
   simp only [reads_Valid.j0] at H
   by_cases c17 : x25_3 = true
   · subst c17
     have H1 : (some 1) = some r := by rw [if_pos rfl] at H; exact H
     clear H
     have H := H1
     clear H1
     obtain rfl := Option.some.inj H
     go_wp2
     go_ret
     exact ⟨by first | rfl | (simp [errW_none, errW_some] <;> rfl) | (simp [*, errW_none, errW_some] <;> rfl), by repeat (with_reducible first | exact HB.out | apply below_alloc | apply pw_below_drewN | apply below_drew1)⟩
   · replace c17 := Bool.eq_false_iff.mpr c17
     subst c17
     have H1 : (reads_Valid.l0 kj3 l1 a2 l0 (l0.length : Int) 0) = some r := by rw [if_neg (show ¬ (false = true) by decide)] at H; exact H
     clear H
     have H := H1
     clear H1
     have H' := Aside0.mk H
     clear H
     go_wp2
     go_loopg [28] kj3 (fun kq v28 w' => ∃ (x28_2 : Int), v28 = .int .i64 x28_2 ∧ Aside0 (reads_Valid.l0 kq l1 a2 l0 (l0.length : Int) x28_2 = some r) ∧ Aside0 (kq ≤ kj3) ∧ Aside0 (Below w.heap.size w w'))
     case atStart => exact ⟨(0), (by first | rfl | (simp; done) | (simp [*]; done)), H', ⟨Nat.le_refl _⟩, ⟨by repeat (with_reducible first | exact HB.out | apply below_alloc | apply pw_below_drewN | apply below_drew1)⟩⟩
     case round =>
      clear H'
      try clear c1
      try clear c2
      try clear p2
      try clear c6
      try clear c8
      try clear c9
      try clear c9b0
      try clear c17
      try clear p2
      obtain ⟨x28_2, rfl, HA, HK2, HB⟩ := hrel
      cases gk with
      | zero => exact absurd HA.out (by simp [reads_Valid.l0])
      | succ k2 =>
       have H := HA.out
       clear HA
       simp only [reads_Valid.l0] at H
       by_cases c18 : x28_2 < (l0.length : Int)
       · rw [if_pos c18] at H
         have c18b0 : decide (x28_2 < (l0.length : Int)) = true := decide_eq_true c18
         clear c18
         by_cases c19 : 0 ≤ x28_2
         · rw [if_pos c19] at H
           have c19b0 : decide (0 ≤ x28_2) = true := decide_eq_true c19
           clear c19
           by_cases c20 : x28_2 < (l0.length : Int)
           · rw [if_pos c20] at H
             have c20b0 : decide (x28_2 < (l0.length : Int)) = true := decide_eq_true c20
             clear c20
             by_cases c21 : (l1.length : Int) = 0
             · rw [if_pos c21] at H
               exact absurd H (by simp)
             · rw [if_neg c21] at H
               have c21b0 : ((l1.length : Int) == 0) = false := beq_eq_false_iff_ne.mpr c21
               have c21b1 : ((l1.length : Int) != 0) = true := bne_iff_ne.mpr c21
               have c21b2 : ¬ (l1 = []) := fun h_ => c21 (by rw [h_]; rfl)
               obtain ⟨ji22, hji22⟩ : ∃ j_ : Int, (Int.tmod ((rd_T24 l0 x28_2).f0) (l1.length : Int)) = j_ := ⟨_, rfl⟩
               replace H : (if 0 ≤ (ji22) then (if (ji22) < (l1.length : Int) then (if ((rd_T67 l1 (ji22)).f0) = ((rd_T24 l0 x28_2).f1) then (if ((rd_T67 l1 (ji22)).f1) = 0 then (reads_Valid.l0 k2 l1 a2 l0 (l0.length : Int) (wrap64 (x28_2 + 1))) else (if ((rd_T67 l1 (ji22)).f1) = a2 then (reads_Valid.l0 k2 l1 a2 l0 (l0.length : Int) (wrap64 (x28_2 + 1))) else (some 8))) else (some 8)) else (none)) else (none)) = some r := by first | (rw [hji22] at H; exact H) | (simp only [hji22] at H ⊢; exact H)
               by_cases c23 : 0 ≤ (ji22)
               · rw [if_pos c23] at H
                 have c23b0 : decide (0 ≤ (ji22)) = true := decide_eq_true c23
                 clear c23
                 by_cases c24 : (ji22) < (l1.length : Int)
                 · rw [if_pos c24] at H
                   have c24b0 : decide ((ji22) < (l1.length : Int)) = true := decide_eq_true c24
                   clear c24
                   by_cases c25 : ((rd_T67 l1 (ji22)).f0) = ((rd_T24 l0 x28_2).f1)
                   · rw [if_pos c25] at H
                     have c25b0 : (((rd_T67 l1 (ji22)).f0) == ((rd_T24 l0 x28_2).f1)) = true := beq_iff_eq.mpr c25
                     have c25b1 : (((rd_T67 l1 (ji22)).f0) != ((rd_T24 l0 x28_2).f1)) = false := bne_eq_false_iff_eq.mpr c25
                     clear c25
                     by_cases c26 : ((rd_T67 l1 (ji22)).f1) = 0
                     · rw [if_pos c26] at H
                       have c26b0 : (((rd_T67 l1 (ji22)).f1) == 0) = true := beq_iff_eq.mpr c26
                       have c26b1 : (((rd_T67 l1 (ji22)).f1) != 0) = false := bne_eq_false_iff_eq.mpr c26
                       clear c26
                       have H' := Aside0.mk H
                       clear H
                       have p150 : 0 ≤ (x28_2 : Int) := of_decide_eq_true (by first | (with_reducible assumption) | assumption)
                       have q150 : x28_2 < (l0.length : Int) := of_decide_eq_true (by first | (with_reducible assumption) | assumption)
                       obtain ⟨ad150, e150, hx150_0, hx150_1, hx150_2⟩ := at_T24 HR0.out x28_2 p150 q150
                       cases e150
                       replace hx150_0 := (HB.out.cell (World.block_lt_of_cell? w _ hx150_0)).trans hx150_0
                       replace hx150_1 := (HB.out.cell (World.block_lt_of_cell? w _ hx150_1)).trans hx150_1
                       replace hx150_2 := (HB.out.cell (World.block_lt_of_cell? w _ hx150_2)).trans hx150_2
                       replace p150 := eq_true p150
                       replace q150 := eq_true q150
                       go_wp2_with (first | ((with_reducible refine gate_dst (N := 8) rfl ?_); refine box_event ?hg (N := 8) ?hd (cs := #[.int .i64 0, .int .i64 0, .int .i64 0]) (t := 24) ?hr ?_; (case hd => rfl); (case hg => rfl); (case hr => first | (go_simp; done) | (go_simp; rfl)); intro gb151 hg w27 hbox hb; have n0_ := Aside0.mk (bst_ hb); have n1_ := Aside0.mk (hbox); have n2_ := Aside0.mk ((by rw [hg]; exact bsz_ : w.heap.size ≤ gb151)); have n3_ := n2_; clear HB; have HB := n0_; have BK151 := n1_; have GW151 := n2_; have GE151 := n3_; clear n0_ n1_ n2_ n3_; clear hb hbox hg; have hcz28_0 : w27.cell? ⟨gb151, 0, none⟩ = some (.int .i64 0) := (blk_cell BK151.out 0).trans rfl; have hcz28_1 : w27.cell? ⟨gb151, 1, none⟩ = some (.int .i64 0) := (blk_cell BK151.out 1).trans rfl; have hcz28_2 : w27.cell? ⟨gb151, 2, none⟩ = some (.int .i64 0) := (blk_cell BK151.out 2).trans rfl; have hfz28_0 := blk_frozen BK151.out 0; have hfz28_1 := blk_frozen BK151.out 1; have hfz28_2 := blk_frozen BK151.out 2; have p152 : 0 ≤ ((ji22) : Int) := of_decide_eq_true (by first | (with_reducible assumption) | assumption); have q152 : (ji22) < (l1.length : Int) := of_decide_eq_true (by first | (with_reducible assumption) | assumption); obtain ⟨ad152, e152, hx152_0, hx152_1⟩ := at_T67 HR1.out (ji22) p152 q152; cases e152; have hn152_0 : ad152.block ≠ gb151 := Nat.ne_of_lt (Nat.lt_of_lt_of_le (by have := World.block_lt_of_cell? _ _ hx152_0; first | rwa [add_block] at this | exact this) GW151.out); have hn152_1 : ad152.block ≠ gb151 := Nat.ne_of_lt (Nat.lt_of_lt_of_le (by have := World.block_lt_of_cell? _ _ hx152_0; first | rwa [add_block] at this | exact this) GW151.out); have hn152_2 : ad152.block ≠ gb151 := Nat.ne_of_lt (Nat.lt_of_lt_of_le (by have := World.block_lt_of_cell? _ _ hx152_0; first | rwa [add_block] at this | exact this) GW151.out); replace hx152_0 := (HB.out.cell (World.block_lt_of_cell? w _ hx152_0)).trans hx152_0; replace hx152_1 := (HB.out.cell (World.block_lt_of_cell? w _ hx152_1)).trans hx152_1; replace hx152_0 := (cell_far (p := ⟨gb151, 0, none⟩) (by first | (rw [add_block]; exact hn152_0) | (show (Addr.add _ _).block ≠ _; rw [add_block]; exact hn152_0) | exact hn152_0) (.int .i64 ((rd_T24 l0 x28_2).f0))).trans hx152_0; replace hx152_1 := (cell_far (p := ⟨gb151, 0, none⟩) (by first | (rw [add_block]; exact hn152_0) | (show (Addr.add _ _).block ≠ _; rw [add_block]; exact hn152_0) | exact hn152_0) (.int .i64 ((rd_T24 l0 x28_2).f0))).trans hx152_1; replace hx152_0 := (cell_far (p := ⟨gb151, 1, none⟩) (by first | (rw [add_block]; exact hn152_1) | (show (Addr.add _ _).block ≠ _; rw [add_block]; exact hn152_1) | exact hn152_1) (.int .i64 ((rd_T24 l0 x28_2).f1))).trans hx152_0; replace hx152_1 := (cell_far (p := ⟨gb151, 1, none⟩) (by first | (rw [add_block]; exact hn152_1) | (show (Addr.add _ _).block ≠ _; rw [add_block]; exact hn152_1) | exact hn152_1) (.int .i64 ((rd_T24 l0 x28_2).f1))).trans hx152_1; replace hx152_0 := (cell_far (p := ⟨gb151, 2, none⟩) (by first | (rw [add_block]; exact hn152_2) | (show (Addr.add _ _).block ≠ _; rw [add_block]; exact hn152_2) | exact hn152_2) (.int .i64 ((rd_T24 l0 x28_2).f2))).trans hx152_0; replace hx152_1 := (cell_far (p := ⟨gb151, 2, none⟩) (by first | (rw [add_block]; exact hn152_2) | (show (Addr.add _ _).block ≠ _; rw [add_block]; exact hn152_2) | exact hn152_2) (.int .i64 ((rd_T24 l0 x28_2).f2))).trans hx152_1; clear hn152_0; clear hn152_1; clear hn152_2; replace p152 := eq_true p152; replace q152 := eq_true q152) | ((with_reducible refine gate_dst (N := 9) rfl ?_); refine box_event ?hg (N := 9) ?hd (cs := #[.int .i64 0, .int .i64 0]) (t := 67) ?hr ?_; (case hd => rfl); (case hg => rfl); (case hr => first | (go_simp; done) | (go_simp; rfl)); intro gb153 hg w29 hbox hb; have n0_ := Aside0.mk (blk_below (g := gb151) (o := .cells #[.int .i64 ((rd_T24 l0 x28_2).f0), .int .i64 ((rd_T24 l0 x28_2).f1), .int .i64 ((rd_T24 l0 x28_2).f2)] 24 (0, 0)) (by (with_reducible repeat (first | refine blk_drewN ?_ _ | refine blk_drew ?_ | refine blk_alloc ?_ _)); refine blk_put (cs := #[.int .i64 ((rd_T24 l0 x28_2).f0), .int .i64 ((rd_T24 l0 x28_2).f1), .int .i64 0]) ?_ 2 _ rfl; (with_reducible repeat (first | refine blk_drewN ?_ _ | refine blk_drew ?_ | refine blk_alloc ?_ _)); refine blk_put (cs := #[.int .i64 ((rd_T24 l0 x28_2).f0), .int .i64 0, .int .i64 0]) ?_ 1 _ rfl; (with_reducible repeat (first | refine blk_drewN ?_ _ | refine blk_drew ?_ | refine blk_alloc ?_ _)); refine blk_put (cs := #[.int .i64 0, .int .i64 0, .int .i64 0]) ?_ 0 _ rfl; (with_reducible repeat (first | refine blk_drewN ?_ _ | refine blk_drew ?_ | refine blk_alloc ?_ _)); exact BK151.out) hb); have n1_ := Aside0.mk (below_step (by repeat (with_reducible first | exact HB.out | apply below_alloc | apply pw_below_drewN | apply below_drew1 | refine below_set ?_ GE151.out)) hb); have n2_ := Aside0.mk (hbox); have n3_ := Aside0.mk ((by rw [hg]; exact (below_size (by repeat (with_reducible first | exact HB.out | apply below_alloc | apply pw_below_drewN | apply below_drew1 | refine below_set ?_ GE151.out))) : w.heap.size ≤ gb153)); have n4_ := n3_; have n5_ := Aside0.mk ((by rw [hg]; exact Nat.ne_of_lt (blk_lt (g := gb151) (o := .cells #[.int .i64 ((rd_T24 l0 x28_2).f0), .int .i64 ((rd_T24 l0 x28_2).f1), .int .i64 ((rd_T24 l0 x28_2).f2)] 24 (0, 0)) (by (with_reducible repeat (first | refine blk_drewN ?_ _ | refine blk_drew ?_ | refine blk_alloc ?_ _)); refine blk_put (cs := #[.int .i64 ((rd_T24 l0 x28_2).f0), .int .i64 ((rd_T24 l0 x28_2).f1), .int .i64 0]) ?_ 2 _ rfl; (with_reducible repeat (first | refine blk_drewN ?_ _ | refine blk_drew ?_ | refine blk_alloc ?_ _)); refine blk_put (cs := #[.int .i64 ((rd_T24 l0 x28_2).f0), .int .i64 0, .int .i64 0]) ?_ 1 _ rfl; (with_reducible repeat (first | refine blk_drewN ?_ _ | refine blk_drew ?_ | refine blk_alloc ?_ _)); refine blk_put (cs := #[.int .i64 0, .int .i64 0, .int .i64 0]) ?_ 0 _ rfl; (with_reducible repeat (first | refine blk_drewN ?_ _ | refine blk_drew ?_ | refine blk_alloc ?_ _)); exact BK151.out)) : gb151 ≠ gb153)); have n6_ := Aside0.mk ((by rw [hg]; exact Nat.ne_of_gt (blk_lt (g := gb151) (o := .cells #[.int .i64 ((rd_T24 l0 x28_2).f0), .int .i64 ((rd_T24 l0 x28_2).f1), .int .i64 ((rd_T24 l0 x28_2).f2)] 24 (0, 0)) (by (with_reducible repeat (first | refine blk_drewN ?_ _ | refine blk_drew ?_ | refine blk_alloc ?_ _)); refine blk_put (cs := #[.int .i64 ((rd_T24 l0 x28_2).f0), .int .i64 ((rd_T24 l0 x28_2).f1), .int .i64 0]) ?_ 2 _ rfl; (with_reducible repeat (first | refine blk_drewN ?_ _ | refine blk_drew ?_ | refine blk_alloc ?_ _)); refine blk_put (cs := #[.int .i64 ((rd_T24 l0 x28_2).f0), .int .i64 0, .int .i64 0]) ?_ 1 _ rfl; (with_reducible repeat (first | refine blk_drewN ?_ _ | refine blk_drew ?_ | refine blk_alloc ?_ _)); refine blk_put (cs := #[.int .i64 0, .int .i64 0, .int .i64 0]) ?_ 0 _ rfl; (with_reducible repeat (first | refine blk_drewN ?_ _ | refine blk_drew ?_ | refine blk_alloc ?_ _)); exact BK151.out)) : gb153 ≠ gb151)); clear BK151; clear HB; have BK151 := n0_; have HB := n1_; have BK153 := n2_; have GW153 := n3_; have GE153 := n4_; have NB151_153 := n5_; have NB153_151 := n6_; clear n0_ n1_ n2_ n3_ n4_ n5_ n6_; clear hb hbox hg; have hnb30 := NB153_151.out; have hnc30 := NB151_153.out; have hcz31_0 : w29.cell? ⟨gb153, 0, none⟩ = some (.int .i64 0) := (blk_cell BK153.out 0).trans rfl; have hcz31_1 : w29.cell? ⟨gb153, 1, none⟩ = some (.int .i64 0) := (blk_cell BK153.out 1).trans rfl; have hfz31_0 := blk_frozen BK153.out 0; have hfz31_1 := blk_frozen BK153.out 1; have hcz32_0 : w29.cell? ⟨gb151, 0, none⟩ = some (.int .i64 ((rd_T24 l0 x28_2).f0)) := (blk_cell BK151.out 0).trans rfl; have hcz32_1 : w29.cell? ⟨gb151, 1, none⟩ = some (.int .i64 ((rd_T24 l0 x28_2).f1)) := (blk_cell BK151.out 1).trans rfl; have hcz32_2 : w29.cell? ⟨gb151, 2, none⟩ = some (.int .i64 ((rd_T24 l0 x28_2).f2)) := (blk_cell BK151.out 2).trans rfl; have hfz32_0 := blk_frozen BK151.out 0; have hfz32_1 := blk_frozen BK151.out 1; have hfz32_2 := blk_frozen BK151.out 2))
                       go_roundg k2
                       case measure => have := HJ3.out; have := HK2.out; omega
                       case rel => exact ⟨(wrap64 (x28_2 + 1)), (by first | rfl | (simp; done) | (simp [*]; done)), H', ⟨by have := HJ3.out; have := HK2.out; omega⟩, ⟨by repeat (first | (with_reducible first | exact HB.out | apply below_alloc | apply pw_below_drewN | apply below_drew1 | refine below_set ?_ GE151.out | refine below_set ?_ GE153.out) | exact HB.out)⟩⟩
                     · rw [if_neg c26] at H
                       have c26b0 : (((rd_T67 l1 (ji22)).f1) == 0) = false := beq_eq_false_iff_ne.mpr c26
                       have c26b1 : (((rd_T67 l1 (ji22)).f1) != 0) = true := bne_iff_ne.mpr c26
                       by_cases c33 : ((rd_T67 l1 (ji22)).f1) = a2
                       · rw [if_pos c33] at H
                         have c33b0 : (((rd_T67 l1 (ji22)).f1) == a2) = true := beq_iff_eq.mpr c33
                         have c33b1 : (((rd_T67 l1 (ji22)).f1) != a2) = false := bne_eq_false_iff_eq.mpr c33
                         clear c33
                         have H' := Aside0.mk H
                         clear H
                         have p150 : 0 ≤ (x28_2 : Int) := of_decide_eq_true (by first | (with_reducible assumption) | assumption)
                         have q150 : x28_2 < (l0.length : Int) := of_decide_eq_true (by first | (with_reducible assumption) | assumption)
                         obtain ⟨ad150, e150, hx150_0, hx150_1, hx150_2⟩ := at_T24 HR0.out x28_2 p150 q150
                         cases e150
                         replace hx150_0 := (HB.out.cell (World.block_lt_of_cell? w _ hx150_0)).trans hx150_0
                         replace hx150_1 := (HB.out.cell (World.block_lt_of_cell? w _ hx150_1)).trans hx150_1
                         replace hx150_2 := (HB.out.cell (World.block_lt_of_cell? w _ hx150_2)).trans hx150_2
                         replace p150 := eq_true p150
                         replace q150 := eq_true q150
                         go_wp2_with (first | ((with_reducible refine gate_dst (N := 8) rfl ?_); refine box_event ?hg (N := 8) ?hd (cs := #[.int .i64 0, .int .i64 0, .int .i64 0]) (t := 24) ?hr ?_; (case hd => rfl); (case hg => rfl); (case hr => first | (go_simp; done) | (go_simp; rfl)); intro gb151 hg w34 hbox hb; have n0_ := Aside0.mk (bst_ hb); have n1_ := Aside0.mk (hbox); have n2_ := Aside0.mk ((by rw [hg]; exact bsz_ : w.heap.size ≤ gb151)); have n3_ := n2_; clear HB; have HB := n0_; have BK151 := n1_; have GW151 := n2_; have GE151 := n3_; clear n0_ n1_ n2_ n3_; clear hb hbox hg; have hcz35_0 : w34.cell? ⟨gb151, 0, none⟩ = some (.int .i64 0) := (blk_cell BK151.out 0).trans rfl; have hcz35_1 : w34.cell? ⟨gb151, 1, none⟩ = some (.int .i64 0) := (blk_cell BK151.out 1).trans rfl; have hcz35_2 : w34.cell? ⟨gb151, 2, none⟩ = some (.int .i64 0) := (blk_cell BK151.out 2).trans rfl; have hfz35_0 := blk_frozen BK151.out 0; have hfz35_1 := blk_frozen BK151.out 1; have hfz35_2 := blk_frozen BK151.out 2; have p152 : 0 ≤ ((ji22) : Int) := of_decide_eq_true (by first | (with_reducible assumption) | assumption); have q152 : (ji22) < (l1.length : Int) := of_decide_eq_true (by first | (with_reducible assumption) | assumption); obtain ⟨ad152, e152, hx152_0, hx152_1⟩ := at_T67 HR1.out (ji22) p152 q152; cases e152; have hn152_0 : ad152.block ≠ gb151 := Nat.ne_of_lt (Nat.lt_of_lt_of_le (by have := World.block_lt_of_cell? _ _ hx152_0; first | rwa [add_block] at this | exact this) GW151.out); have hn152_1 : ad152.block ≠ gb151 := Nat.ne_of_lt (Nat.lt_of_lt_of_le (by have := World.block_lt_of_cell? _ _ hx152_0; first | rwa [add_block] at this | exact this) GW151.out); have hn152_2 : ad152.block ≠ gb151 := Nat.ne_of_lt (Nat.lt_of_lt_of_le (by have := World.block_lt_of_cell? _ _ hx152_0; first | rwa [add_block] at this | exact this) GW151.out); replace hx152_0 := (HB.out.cell (World.block_lt_of_cell? w _ hx152_0)).trans hx152_0; replace hx152_1 := (HB.out.cell (World.block_lt_of_cell? w _ hx152_1)).trans hx152_1; replace hx152_0 := (cell_far (p := ⟨gb151, 0, none⟩) (by first | (rw [add_block]; exact hn152_0) | (show (Addr.add _ _).block ≠ _; rw [add_block]; exact hn152_0) | exact hn152_0) (.int .i64 ((rd_T24 l0 x28_2).f0))).trans hx152_0; replace hx152_1 := (cell_far (p := ⟨gb151, 0, none⟩) (by first | (rw [add_block]; exact hn152_0) | (show (Addr.add _ _).block ≠ _; rw [add_block]; exact hn152_0) | exact hn152_0) (.int .i64 ((rd_T24 l0 x28_2).f0))).trans hx152_1; replace hx152_0 := (cell_far (p := ⟨gb151, 1, none⟩) (by first | (rw [add_block]; exact hn152_1) | (show (Addr.add _ _).block ≠ _; rw [add_block]; exact hn152_1) | exact hn152_1) (.int .i64 ((rd_T24 l0 x28_2).f1))).trans hx152_0; replace hx152_1 := (cell_far (p := ⟨gb151, 1, none⟩) (by first | (rw [add_block]; exact hn152_1) | (show (Addr.add _ _).block ≠ _; rw [add_block]; exact hn152_1) | exact hn152_1) (.int .i64 ((rd_T24 l0 x28_2).f1))).trans hx152_1; replace hx152_0 := (cell_far (p := ⟨gb151, 2, none⟩) (by first | (rw [add_block]; exact hn152_2) | (show (Addr.add _ _).block ≠ _; rw [add_block]; exact hn152_2) | exact hn152_2) (.int .i64 ((rd_T24 l0 x28_2).f2))).trans hx152_0; replace hx152_1 := (cell_far (p := ⟨gb151, 2, none⟩) (by first | (rw [add_block]; exact hn152_2) | (show (Addr.add _ _).block ≠ _; rw [add_block]; exact hn152_2) | exact hn152_2) (.int .i64 ((rd_T24 l0 x28_2).f2))).trans hx152_1; clear hn152_0; clear hn152_1; clear hn152_2; replace p152 := eq_true p152; replace q152 := eq_true q152) | ((with_reducible refine gate_dst (N := 9) rfl ?_); refine box_event ?hg (N := 9) ?hd (cs := #[.int .i64 0, .int .i64 0]) (t := 67) ?hr ?_; (case hd => rfl); (case hg => rfl); (case hr => first | (go_simp; done) | (go_simp; rfl)); intro gb153 hg w36 hbox hb; have n0_ := Aside0.mk (blk_below (g := gb151) (o := .cells #[.int .i64 ((rd_T24 l0 x28_2).f0), .int .i64 ((rd_T24 l0 x28_2).f1), .int .i64 ((rd_T24 l0 x28_2).f2)] 24 (0, 0)) (by (with_reducible repeat (first | refine blk_drewN ?_ _ | refine blk_drew ?_ | refine blk_alloc ?_ _)); refine blk_put (cs := #[.int .i64 ((rd_T24 l0 x28_2).f0), .int .i64 ((rd_T24 l0 x28_2).f1), .int .i64 0]) ?_ 2 _ rfl; (with_reducible repeat (first | refine blk_drewN ?_ _ | refine blk_drew ?_ | refine blk_alloc ?_ _)); refine blk_put (cs := #[.int .i64 ((rd_T24 l0 x28_2).f0), .int .i64 0, .int .i64 0]) ?_ 1 _ rfl; (with_reducible repeat (first | refine blk_drewN ?_ _ | refine blk_drew ?_ | refine blk_alloc ?_ _)); refine blk_put (cs := #[.int .i64 0, .int .i64 0, .int .i64 0]) ?_ 0 _ rfl; (with_reducible repeat (first | refine blk_drewN ?_ _ | refine blk_drew ?_ | refine blk_alloc ?_ _)); exact BK151.out) hb); have n1_ := Aside0.mk (below_step (by repeat (with_reducible first | exact HB.out | apply below_alloc | apply pw_below_drewN | apply below_drew1 | refine below_set ?_ GE151.out)) hb); have n2_ := Aside0.mk (hbox); have n3_ := Aside0.mk ((by rw [hg]; exact (below_size (by repeat (with_reducible first | exact HB.out | apply below_alloc | apply pw_below_drewN | apply below_drew1 | refine below_set ?_ GE151.out))) : w.heap.size ≤ gb153)); have n4_ := n3_; have n5_ := Aside0.mk ((by rw [hg]; exact Nat.ne_of_lt (blk_lt (g := gb151) (o := .cells #[.int .i64 ((rd_T24 l0 x28_2).f0), .int .i64 ((rd_T24 l0 x28_2).f1), .int .i64 ((rd_T24 l0 x28_2).f2)] 24 (0, 0)) (by (with_reducible repeat (first | refine blk_drewN ?_ _ | refine blk_drew ?_ | refine blk_alloc ?_ _)); refine blk_put (cs := #[.int .i64 ((rd_T24 l0 x28_2).f0), .int .i64 ((rd_T24 l0 x28_2).f1), .int .i64 0]) ?_ 2 _ rfl; (with_reducible repeat (first | refine blk_drewN ?_ _ | refine blk_drew ?_ | refine blk_alloc ?_ _)); refine blk_put (cs := #[.int .i64 ((rd_T24 l0 x28_2).f0), .int .i64 0, .int .i64 0]) ?_ 1 _ rfl; (with_reducible repeat (first | refine blk_drewN ?_ _ | refine blk_drew ?_ | refine blk_alloc ?_ _)); refine blk_put (cs := #[.int .i64 0, .int .i64 0, .int .i64 0]) ?_ 0 _ rfl; (with_reducible repeat (first | refine blk_drewN ?_ _ | refine blk_drew ?_ | refine blk_alloc ?_ _)); exact BK151.out)) : gb151 ≠ gb153)); have n6_ := Aside0.mk ((by rw [hg]; exact Nat.ne_of_gt (blk_lt (g := gb151) (o := .cells #[.int .i64 ((rd_T24 l0 x28_2).f0), .int .i64 ((rd_T24 l0 x28_2).f1), .int .i64 ((rd_T24 l0 x28_2).f2)] 24 (0, 0)) (by (with_reducible repeat (first | refine blk_drewN ?_ _ | refine blk_drew ?_ | refine blk_alloc ?_ _)); refine blk_put (cs := #[.int .i64 ((rd_T24 l0 x28_2).f0), .int .i64 ((rd_T24 l0 x28_2).f1), .int .i64 0]) ?_ 2 _ rfl; (with_reducible repeat (first | refine blk_drewN ?_ _ | refine blk_drew ?_ | refine blk_alloc ?_ _)); refine blk_put (cs := #[.int .i64 ((rd_T24 l0 x28_2).f0), .int .i64 0, .int .i64 0]) ?_ 1 _ rfl; (with_reducible repeat (first | refine blk_drewN ?_ _ | refine blk_drew ?_ | refine blk_alloc ?_ _)); refine blk_put (cs := #[.int .i64 0, .int .i64 0, .int .i64 0]) ?_ 0 _ rfl; (with_reducible repeat (first | refine blk_drewN ?_ _ | refine blk_drew ?_ | refine blk_alloc ?_ _)); exact BK151.out)) : gb153 ≠ gb151)); clear BK151; clear HB; have BK151 := n0_; have HB := n1_; have BK153 := n2_; have GW153 := n3_; have GE153 := n4_; have NB151_153 := n5_; have NB153_151 := n6_; clear n0_ n1_ n2_ n3_ n4_ n5_ n6_; clear hb hbox hg; have hnb37 := NB153_151.out; have hnc37 := NB151_153.out; have hcz38_0 : w36.cell? ⟨gb153, 0, none⟩ = some (.int .i64 0) := (blk_cell BK153.out 0).trans rfl; have hcz38_1 : w36.cell? ⟨gb153, 1, none⟩ = some (.int .i64 0) := (blk_cell BK153.out 1).trans rfl; have hfz38_0 := blk_frozen BK153.out 0; have hfz38_1 := blk_frozen BK153.out 1; have hcz39_0 : w36.cell? ⟨gb151, 0, none⟩ = some (.int .i64 ((rd_T24 l0 x28_2).f0)) := (blk_cell BK151.out 0).trans rfl; have hcz39_1 : w36.cell? ⟨gb151, 1, none⟩ = some (.int .i64 ((rd_T24 l0 x28_2).f1)) := (blk_cell BK151.out 1).trans rfl; have hcz39_2 : w36.cell? ⟨gb151, 2, none⟩ = some (.int .i64 ((rd_T24 l0 x28_2).f2)) := (blk_cell BK151.out 2).trans rfl; have hfz39_0 := blk_frozen BK151.out 0; have hfz39_1 := blk_frozen BK151.out 1; have hfz39_2 := blk_frozen BK151.out 2))
                         go_roundg k2
                         case measure => have := HJ3.out; have := HK2.out; omega
                         case rel => exact ⟨(wrap64 (x28_2 + 1)), (by first | rfl | (simp; done) | (simp [*]; done)), H', ⟨by have := HJ3.out; have := HK2.out; omega⟩, ⟨by repeat (first | (with_reducible first | exact HB.out | apply below_alloc | apply pw_below_drewN | apply below_drew1 | refine below_set ?_ GE151.out | refine below_set ?_ GE153.out) | exact HB.out)⟩⟩
                       · rw [if_neg c33] at H
                         have c33b0 : (((rd_T67 l1 (ji22)).f1) == a2) = false := beq_eq_false_iff_ne.mpr c33
                         have c33b1 : (((rd_T67 l1 (ji22)).f1) != a2) = true := bne_iff_ne.mpr c33
                         obtain rfl := Option.some.inj H
                         have p150 : 0 ≤ (x28_2 : Int) := of_decide_eq_true (by first | (with_reducible assumption) | assumption)
                         have q150 : x28_2 < (l0.length : Int) := of_decide_eq_true (by first | (with_reducible assumption) | assumption)
                         obtain ⟨ad150, e150, hx150_0, hx150_1, hx150_2⟩ := at_T24 HR0.out x28_2 p150 q150
                         cases e150
                         replace hx150_0 := (HB.out.cell (World.block_lt_of_cell? w _ hx150_0)).trans hx150_0
                         replace hx150_1 := (HB.out.cell (World.block_lt_of_cell? w _ hx150_1)).trans hx150_1
                         replace hx150_2 := (HB.out.cell (World.block_lt_of_cell? w _ hx150_2)).trans hx150_2
                         replace p150 := eq_true p150
                         replace q150 := eq_true q150
                         go_wp2_with (first | ((with_reducible refine gate_dst (N := 8) rfl ?_); refine box_event ?hg (N := 8) ?hd (cs := #[.int .i64 0, .int .i64 0, .int .i64 0]) (t := 24) ?hr ?_; (case hd => rfl); (case hg => rfl); (case hr => first | (go_simp; done) | (go_simp; rfl)); intro gb151 hg w40 hbox hb; have n0_ := Aside0.mk (bst_ hb); have n1_ := Aside0.mk (hbox); have n2_ := Aside0.mk ((by rw [hg]; exact bsz_ : w.heap.size ≤ gb151)); have n3_ := n2_; clear HB; have HB := n0_; have BK151 := n1_; have GW151 := n2_; have GE151 := n3_; clear n0_ n1_ n2_ n3_; clear hb hbox hg; have hcz41_0 : w40.cell? ⟨gb151, 0, none⟩ = some (.int .i64 0) := (blk_cell BK151.out 0).trans rfl; have hcz41_1 : w40.cell? ⟨gb151, 1, none⟩ = some (.int .i64 0) := (blk_cell BK151.out 1).trans rfl; have hcz41_2 : w40.cell? ⟨gb151, 2, none⟩ = some (.int .i64 0) := (blk_cell BK151.out 2).trans rfl; have hfz41_0 := blk_frozen BK151.out 0; have hfz41_1 := blk_frozen BK151.out 1; have hfz41_2 := blk_frozen BK151.out 2; have p152 : 0 ≤ ((ji22) : Int) := of_decide_eq_true (by first | (with_reducible assumption) | assumption); have q152 : (ji22) < (l1.length : Int) := of_decide_eq_true (by first | (with_reducible assumption) | assumption); obtain ⟨ad152, e152, hx152_0, hx152_1⟩ := at_T67 HR1.out (ji22) p152 q152; cases e152; have hn152_0 : ad152.block ≠ gb151 := Nat.ne_of_lt (Nat.lt_of_lt_of_le (by have := World.block_lt_of_cell? _ _ hx152_0; first | rwa [add_block] at this | exact this) GW151.out); have hn152_1 : ad152.block ≠ gb151 := Nat.ne_of_lt (Nat.lt_of_lt_of_le (by have := World.block_lt_of_cell? _ _ hx152_0; first | rwa [add_block] at this | exact this) GW151.out); have hn152_2 : ad152.block ≠ gb151 := Nat.ne_of_lt (Nat.lt_of_lt_of_le (by have := World.block_lt_of_cell? _ _ hx152_0; first | rwa [add_block] at this | exact this) GW151.out); replace hx152_0 := (HB.out.cell (World.block_lt_of_cell? w _ hx152_0)).trans hx152_0; replace hx152_1 := (HB.out.cell (World.block_lt_of_cell? w _ hx152_1)).trans hx152_1; replace hx152_0 := (cell_far (p := ⟨gb151, 0, none⟩) (by first | (rw [add_block]; exact hn152_0) | (show (Addr.add _ _).block ≠ _; rw [add_block]; exact hn152_0) | exact hn152_0) (.int .i64 ((rd_T24 l0 x28_2).f0))).trans hx152_0; replace hx152_1 := (cell_far (p := ⟨gb151, 0, none⟩) (by first | (rw [add_block]; exact hn152_0) | (show (Addr.add _ _).block ≠ _; rw [add_block]; exact hn152_0) | exact hn152_0) (.int .i64 ((rd_T24 l0 x28_2).f0))).trans hx152_1; replace hx152_0 := (cell_far (p := ⟨gb151, 1, none⟩) (by first | (rw [add_block]; exact hn152_1) | (show (Addr.add _ _).block ≠ _; rw [add_block]; exact hn152_1) | exact hn152_1) (.int .i64 ((rd_T24 l0 x28_2).f1))).trans hx152_0; replace hx152_1 := (cell_far (p := ⟨gb151, 1, none⟩) (by first | (rw [add_block]; exact hn152_1) | (show (Addr.add _ _).block ≠ _; rw [add_block]; exact hn152_1) | exact hn152_1) (.int .i64 ((rd_T24 l0 x28_2).f1))).trans hx152_1; replace hx152_0 := (cell_far (p := ⟨gb151, 2, none⟩) (by first | (rw [add_block]; exact hn152_2) | (show (Addr.add _ _).block ≠ _; rw [add_block]; exact hn152_2) | exact hn152_2) (.int .i64 ((rd_T24 l0 x28_2).f2))).trans hx152_0; replace hx152_1 := (cell_far (p := ⟨gb151, 2, none⟩) (by first | (rw [add_block]; exact hn152_2) | (show (Addr.add _ _).block ≠ _; rw [add_block]; exact hn152_2) | exact hn152_2) (.int .i64 ((rd_T24 l0 x28_2).f2))).trans hx152_1; clear hn152_0; clear hn152_1; clear hn152_2; replace p152 := eq_true p152; replace q152 := eq_true q152) | ((with_reducible refine gate_dst (N := 9) rfl ?_); refine box_event ?hg (N := 9) ?hd (cs := #[.int .i64 0, .int .i64 0]) (t := 67) ?hr ?_; (case hd => rfl); (case hg => rfl); (case hr => first | (go_simp; done) | (go_simp; rfl)); intro gb153 hg w42 hbox hb; have n0_ := Aside0.mk (blk_below (g := gb151) (o := .cells #[.int .i64 ((rd_T24 l0 x28_2).f0), .int .i64 ((rd_T24 l0 x28_2).f1), .int .i64 ((rd_T24 l0 x28_2).f2)] 24 (0, 0)) (by (with_reducible repeat (first | refine blk_drewN ?_ _ | refine blk_drew ?_ | refine blk_alloc ?_ _)); refine blk_put (cs := #[.int .i64 ((rd_T24 l0 x28_2).f0), .int .i64 ((rd_T24 l0 x28_2).f1), .int .i64 0]) ?_ 2 _ rfl; (with_reducible repeat (first | refine blk_drewN ?_ _ | refine blk_drew ?_ | refine blk_alloc ?_ _)); refine blk_put (cs := #[.int .i64 ((rd_T24 l0 x28_2).f0), .int .i64 0, .int .i64 0]) ?_ 1 _ rfl; (with_reducible repeat (first | refine blk_drewN ?_ _ | refine blk_drew ?_ | refine blk_alloc ?_ _)); refine blk_put (cs := #[.int .i64 0, .int .i64 0, .int .i64 0]) ?_ 0 _ rfl; (with_reducible repeat (first | refine blk_drewN ?_ _ | refine blk_drew ?_ | refine blk_alloc ?_ _)); exact BK151.out) hb); have n1_ := Aside0.mk (below_step (by repeat (with_reducible first | exact HB.out | apply below_alloc | apply pw_below_drewN | apply below_drew1 | refine below_set ?_ GE151.out)) hb); have n2_ := Aside0.mk (hbox); have n3_ := Aside0.mk ((by rw [hg]; exact (below_size (by repeat (with_reducible first | exact HB.out | apply below_alloc | apply pw_below_drewN | apply below_drew1 | refine below_set ?_ GE151.out))) : w.heap.size ≤ gb153)); have n4_ := n3_; have n5_ := Aside0.mk ((by rw [hg]; exact Nat.ne_of_lt (blk_lt (g := gb151) (o := .cells #[.int .i64 ((rd_T24 l0 x28_2).f0), .int .i64 ((rd_T24 l0 x28_2).f1), .int .i64 ((rd_T24 l0 x28_2).f2)] 24 (0, 0)) (by (with_reducible repeat (first | refine blk_drewN ?_ _ | refine blk_drew ?_ | refine blk_alloc ?_ _)); refine blk_put (cs := #[.int .i64 ((rd_T24 l0 x28_2).f0), .int .i64 ((rd_T24 l0 x28_2).f1), .int .i64 0]) ?_ 2 _ rfl; (with_reducible repeat (first | refine blk_drewN ?_ _ | refine blk_drew ?_ | refine blk_alloc ?_ _)); refine blk_put (cs := #[.int .i64 ((rd_T24 l0 x28_2).f0), .int .i64 0, .int .i64 0]) ?_ 1 _ rfl; (with_reducible repeat (first | refine blk_drewN ?_ _ | refine blk_drew ?_ | refine blk_alloc ?_ _)); refine blk_put (cs := #[.int .i64 0, .int .i64 0, .int .i64 0]) ?_ 0 _ rfl; (with_reducible repeat (first | refine blk_drewN ?_ _ | refine blk_drew ?_ | refine blk_alloc ?_ _)); exact BK151.out)) : gb151 ≠ gb153)); have n6_ := Aside0.mk ((by rw [hg]; exact Nat.ne_of_gt (blk_lt (g := gb151) (o := .cells #[.int .i64 ((rd_T24 l0 x28_2).f0), .int .i64 ((rd_T24 l0 x28_2).f1), .int .i64 ((rd_T24 l0 x28_2).f2)] 24 (0, 0)) (by (with_reducible repeat (first | refine blk_drewN ?_ _ | refine blk_drew ?_ | refine blk_alloc ?_ _)); refine blk_put (cs := #[.int .i64 ((rd_T24 l0 x28_2).f0), .int .i64 ((rd_T24 l0 x28_2).f1), .int .i64 0]) ?_ 2 _ rfl; (with_reducible repeat (first | refine blk_drewN ?_ _ | refine blk_drew ?_ | refine blk_alloc ?_ _)); refine blk_put (cs := #[.int .i64 ((rd_T24 l0 x28_2).f0), .int .i64 0, .int .i64 0]) ?_ 1 _ rfl; (with_reducible repeat (first | refine blk_drewN ?_ _ | refine blk_drew ?_ | refine blk_alloc ?_ _)); refine blk_put (cs := #[.int .i64 0, .int .i64 0, .int .i64 0]) ?_ 0 _ rfl; (with_reducible repeat (first | refine blk_drewN ?_ _ | refine blk_drew ?_ | refine blk_alloc ?_ _)); exact BK151.out)) : gb153 ≠ gb151)); clear BK151; clear HB; have BK151 := n0_; have HB := n1_; have BK153 := n2_; have GW153 := n3_; have GE153 := n4_; have NB151_153 := n5_; have NB153_151 := n6_; clear n0_ n1_ n2_ n3_ n4_ n5_ n6_; clear hb hbox hg; have hnb43 := NB153_151.out; have hnc43 := NB151_153.out; have hcz44_0 : w42.cell? ⟨gb153, 0, none⟩ = some (.int .i64 0) := (blk_cell BK153.out 0).trans rfl; have hcz44_1 : w42.cell? ⟨gb153, 1, none⟩ = some (.int .i64 0) := (blk_cell BK153.out 1).trans rfl; have hfz44_0 := blk_frozen BK153.out 0; have hfz44_1 := blk_frozen BK153.out 1; have hcz45_0 : w42.cell? ⟨gb151, 0, none⟩ = some (.int .i64 ((rd_T24 l0 x28_2).f0)) := (blk_cell BK151.out 0).trans rfl; have hcz45_1 : w42.cell? ⟨gb151, 1, none⟩ = some (.int .i64 ((rd_T24 l0 x28_2).f1)) := (blk_cell BK151.out 1).trans rfl; have hcz45_2 : w42.cell? ⟨gb151, 2, none⟩ = some (.int .i64 ((rd_T24 l0 x28_2).f2)) := (blk_cell BK151.out 2).trans rfl; have hfz45_0 := blk_frozen BK151.out 0; have hfz45_1 := blk_frozen BK151.out 1; have hfz45_2 := blk_frozen BK151.out 2))
                         go_ret
                         exact ⟨by first | rfl | (simp [errW_none, errW_some] <;> rfl) | (simp only [← hji22]; first | rfl | (simp [errW_none, errW_some] <;> rfl)) | (simp [*, errW_none, errW_some] <;> rfl), by repeat (first | (with_reducible first | exact HB.out | apply below_alloc | apply pw_below_drewN | apply below_drew1 | refine below_set ?_ GE151.out | refine below_set ?_ GE153.out) | exact HB.out)⟩
                   · rw [if_neg c25] at H
                     have c25b0 : (((rd_T67 l1 (ji22)).f0) == ((rd_T24 l0 x28_2).f1)) = false := beq_eq_false_iff_ne.mpr c25
                     have c25b1 : (((rd_T67 l1 (ji22)).f0) != ((rd_T24 l0 x28_2).f1)) = true := bne_iff_ne.mpr c25
                     obtain rfl := Option.some.inj H
                     have p150 : 0 ≤ (x28_2 : Int) := of_decide_eq_true (by first | (with_reducible assumption) | assumption)
                     have q150 : x28_2 < (l0.length : Int) := of_decide_eq_true (by first | (with_reducible assumption) | assumption)
                     obtain ⟨ad150, e150, hx150_0, hx150_1, hx150_2⟩ := at_T24 HR0.out x28_2 p150 q150
                     cases e150
                     replace hx150_0 := (HB.out.cell (World.block_lt_of_cell? w _ hx150_0)).trans hx150_0
                     replace hx150_1 := (HB.out.cell (World.block_lt_of_cell? w _ hx150_1)).trans hx150_1
                     replace hx150_2 := (HB.out.cell (World.block_lt_of_cell? w _ hx150_2)).trans hx150_2
                     replace p150 := eq_true p150
                     replace q150 := eq_true q150
                     go_wp2_with (first | ((with_reducible refine gate_dst (N := 8) rfl ?_); refine box_event ?hg (N := 8) ?hd (cs := #[.int .i64 0, .int .i64 0, .int .i64 0]) (t := 24) ?hr ?_; (case hd => rfl); (case hg => rfl); (case hr => first | (go_simp; done) | (go_simp; rfl)); intro gb151 hg w46 hbox hb; have n0_ := Aside0.mk (bst_ hb); have n1_ := Aside0.mk (hbox); have n2_ := Aside0.mk ((by rw [hg]; exact bsz_ : w.heap.size ≤ gb151)); have n3_ := n2_; clear HB; have HB := n0_; have BK151 := n1_; have GW151 := n2_; have GE151 := n3_; clear n0_ n1_ n2_ n3_; clear hb hbox hg; have hcz47_0 : w46.cell? ⟨gb151, 0, none⟩ = some (.int .i64 0) := (blk_cell BK151.out 0).trans rfl; have hcz47_1 : w46.cell? ⟨gb151, 1, none⟩ = some (.int .i64 0) := (blk_cell BK151.out 1).trans rfl; have hcz47_2 : w46.cell? ⟨gb151, 2, none⟩ = some (.int .i64 0) := (blk_cell BK151.out 2).trans rfl; have hfz47_0 := blk_frozen BK151.out 0; have hfz47_1 := blk_frozen BK151.out 1; have hfz47_2 := blk_frozen BK151.out 2; have p152 : 0 ≤ ((ji22) : Int) := of_decide_eq_true (by first | (with_reducible assumption) | assumption); have q152 : (ji22) < (l1.length : Int) := of_decide_eq_true (by first | (with_reducible assumption) | assumption); obtain ⟨ad152, e152, hx152_0, hx152_1⟩ := at_T67 HR1.out (ji22) p152 q152; cases e152; have hn152_0 : ad152.block ≠ gb151 := Nat.ne_of_lt (Nat.lt_of_lt_of_le (by have := World.block_lt_of_cell? _ _ hx152_0; first | rwa [add_block] at this | exact this) GW151.out); have hn152_1 : ad152.block ≠ gb151 := Nat.ne_of_lt (Nat.lt_of_lt_of_le (by have := World.block_lt_of_cell? _ _ hx152_0; first | rwa [add_block] at this | exact this) GW151.out); have hn152_2 : ad152.block ≠ gb151 := Nat.ne_of_lt (Nat.lt_of_lt_of_le (by have := World.block_lt_of_cell? _ _ hx152_0; first | rwa [add_block] at this | exact this) GW151.out); replace hx152_0 := (HB.out.cell (World.block_lt_of_cell? w _ hx152_0)).trans hx152_0; replace hx152_1 := (HB.out.cell (World.block_lt_of_cell? w _ hx152_1)).trans hx152_1; replace hx152_0 := (cell_far (p := ⟨gb151, 0, none⟩) (by first | (rw [add_block]; exact hn152_0) | (show (Addr.add _ _).block ≠ _; rw [add_block]; exact hn152_0) | exact hn152_0) (.int .i64 ((rd_T24 l0 x28_2).f0))).trans hx152_0; replace hx152_1 := (cell_far (p := ⟨gb151, 0, none⟩) (by first | (rw [add_block]; exact hn152_0) | (show (Addr.add _ _).block ≠ _; rw [add_block]; exact hn152_0) | exact hn152_0) (.int .i64 ((rd_T24 l0 x28_2).f0))).trans hx152_1; replace hx152_0 := (cell_far (p := ⟨gb151, 1, none⟩) (by first | (rw [add_block]; exact hn152_1) | (show (Addr.add _ _).block ≠ _; rw [add_block]; exact hn152_1) | exact hn152_1) (.int .i64 ((rd_T24 l0 x28_2).f1))).trans hx152_0; replace hx152_1 := (cell_far (p := ⟨gb151, 1, none⟩) (by first | (rw [add_block]; exact hn152_1) | (show (Addr.add _ _).block ≠ _; rw [add_block]; exact hn152_1) | exact hn152_1) (.int .i64 ((rd_T24 l0 x28_2).f1))).trans hx152_1; replace hx152_0 := (cell_far (p := ⟨gb151, 2, none⟩) (by first | (rw [add_block]; exact hn152_2) | (show (Addr.add _ _).block ≠ _; rw [add_block]; exact hn152_2) | exact hn152_2) (.int .i64 ((rd_T24 l0 x28_2).f2))).trans hx152_0; replace hx152_1 := (cell_far (p := ⟨gb151, 2, none⟩) (by first | (rw [add_block]; exact hn152_2) | (show (Addr.add _ _).block ≠ _; rw [add_block]; exact hn152_2) | exact hn152_2) (.int .i64 ((rd_T24 l0 x28_2).f2))).trans hx152_1; clear hn152_0; clear hn152_1; clear hn152_2; replace p152 := eq_true p152; replace q152 := eq_true q152) | ((with_reducible refine gate_dst (N := 9) rfl ?_); refine box_event ?hg (N := 9) ?hd (cs := #[.int .i64 0, .int .i64 0]) (t := 67) ?hr ?_; (case hd => rfl); (case hg => rfl); (case hr => first | (go_simp; done) | (go_simp; rfl)); intro gb153 hg w48 hbox hb; have n0_ := Aside0.mk (blk_below (g := gb151) (o := .cells #[.int .i64 ((rd_T24 l0 x28_2).f0), .int .i64 ((rd_T24 l0 x28_2).f1), .int .i64 ((rd_T24 l0 x28_2).f2)] 24 (0, 0)) (by (with_reducible repeat (first | refine blk_drewN ?_ _ | refine blk_drew ?_ | refine blk_alloc ?_ _)); refine blk_put (cs := #[.int .i64 ((rd_T24 l0 x28_2).f0), .int .i64 ((rd_T24 l0 x28_2).f1), .int .i64 0]) ?_ 2 _ rfl; (with_reducible repeat (first | refine blk_drewN ?_ _ | refine blk_drew ?_ | refine blk_alloc ?_ _)); refine blk_put (cs := #[.int .i64 ((rd_T24 l0 x28_2).f0), .int .i64 0, .int .i64 0]) ?_ 1 _ rfl; (with_reducible repeat (first | refine blk_drewN ?_ _ | refine blk_drew ?_ | refine blk_alloc ?_ _)); refine blk_put (cs := #[.int .i64 0, .int .i64 0, .int .i64 0]) ?_ 0 _ rfl; (with_reducible repeat (first | refine blk_drewN ?_ _ | refine blk_drew ?_ | refine blk_alloc ?_ _)); exact BK151.out) hb); have n1_ := Aside0.mk (below_step (by repeat (with_reducible first | exact HB.out | apply below_alloc | apply pw_below_drewN | apply below_drew1 | refine below_set ?_ GE151.out)) hb); have n2_ := Aside0.mk (hbox); have n3_ := Aside0.mk ((by rw [hg]; exact (below_size (by repeat (with_reducible first | exact HB.out | apply below_alloc | apply pw_below_drewN | apply below_drew1 | refine below_set ?_ GE151.out))) : w.heap.size ≤ gb153)); have n4_ := n3_; have n5_ := Aside0.mk ((by rw [hg]; exact Nat.ne_of_lt (blk_lt (g := gb151) (o := .cells #[.int .i64 ((rd_T24 l0 x28_2).f0), .int .i64 ((rd_T24 l0 x28_2).f1), .int .i64 ((rd_T24 l0 x28_2).f2)] 24 (0, 0)) (by (with_reducible repeat (first | refine blk_drewN ?_ _ | refine blk_drew ?_ | refine blk_alloc ?_ _)); refine blk_put (cs := #[.int .i64 ((rd_T24 l0 x28_2).f0), .int .i64 ((rd_T24 l0 x28_2).f1), .int .i64 0]) ?_ 2 _ rfl; (with_reducible repeat (first | refine blk_drewN ?_ _ | refine blk_drew ?_ | refine blk_alloc ?_ _)); refine blk_put (cs := #[.int .i64 ((rd_T24 l0 x28_2).f0), .int .i64 0, .int .i64 0]) ?_ 1 _ rfl; (with_reducible repeat (first | refine blk_drewN ?_ _ | refine blk_drew ?_ | refine blk_alloc ?_ _)); refine blk_put (cs := #[.int .i64 0, .int .i64 0, .int .i64 0]) ?_ 0 _ rfl; (with_reducible repeat (first | refine blk_drewN ?_ _ | refine blk_drew ?_ | refine blk_alloc ?_ _)); exact BK151.out)) : gb151 ≠ gb153)); have n6_ := Aside0.mk ((by rw [hg]; exact Nat.ne_of_gt (blk_lt (g := gb151) (o := .cells #[.int .i64 ((rd_T24 l0 x28_2).f0), .int .i64 ((rd_T24 l0 x28_2).f1), .int .i64 ((rd_T24 l0 x28_2).f2)] 24 (0, 0)) (by (with_reducible repeat (first | refine blk_drewN ?_ _ | refine blk_drew ?_ | refine blk_alloc ?_ _)); refine blk_put (cs := #[.int .i64 ((rd_T24 l0 x28_2).f0), .int .i64 ((rd_T24 l0 x28_2).f1), .int .i64 0]) ?_ 2 _ rfl; (with_reducible repeat (first | refine blk_drewN ?_ _ | refine blk_drew ?_ | refine blk_alloc ?_ _)); refine blk_put (cs := #[.int .i64 ((rd_T24 l0 x28_2).f0), .int .i64 0, .int .i64 0]) ?_ 1 _ rfl; (with_reducible repeat (first | refine blk_drewN ?_ _ | refine blk_drew ?_ | refine blk_alloc ?_ _)); refine blk_put (cs := #[.int .i64 0, .int .i64 0, .int .i64 0]) ?_ 0 _ rfl; (with_reducible repeat (first | refine blk_drewN ?_ _ | refine blk_drew ?_ | refine blk_alloc ?_ _)); exact BK151.out)) : gb153 ≠ gb151)); clear BK151; clear HB; have BK151 := n0_; have HB := n1_; have BK153 := n2_; have GW153 := n3_; have GE153 := n4_; have NB151_153 := n5_; have NB153_151 := n6_; clear n0_ n1_ n2_ n3_ n4_ n5_ n6_; clear hb hbox hg; have hnb49 := NB153_151.out; have hnc49 := NB151_153.out; have hcz50_0 : w48.cell? ⟨gb153, 0, none⟩ = some (.int .i64 0) := (blk_cell BK153.out 0).trans rfl; have hcz50_1 : w48.cell? ⟨gb153, 1, none⟩ = some (.int .i64 0) := (blk_cell BK153.out 1).trans rfl; have hfz50_0 := blk_frozen BK153.out 0; have hfz50_1 := blk_frozen BK153.out 1; have hcz51_0 : w48.cell? ⟨gb151, 0, none⟩ = some (.int .i64 ((rd_T24 l0 x28_2).f0)) := (blk_cell BK151.out 0).trans rfl; have hcz51_1 : w48.cell? ⟨gb151, 1, none⟩ = some (.int .i64 ((rd_T24 l0 x28_2).f1)) := (blk_cell BK151.out 1).trans rfl; have hcz51_2 : w48.cell? ⟨gb151, 2, none⟩ = some (.int .i64 ((rd_T24 l0 x28_2).f2)) := (blk_cell BK151.out 2).trans rfl; have hfz51_0 := blk_frozen BK151.out 0; have hfz51_1 := blk_frozen BK151.out 1; have hfz51_2 := blk_frozen BK151.out 2))
                     go_ret
                     exact ⟨by first | rfl | (simp [errW_none, errW_some] <;> rfl) | (simp only [← hji22]; first | rfl | (simp [errW_none, errW_some] <;> rfl)) | (simp [*, errW_none, errW_some] <;> rfl), by repeat (first | (with_reducible first | exact HB.out | apply below_alloc | apply pw_below_drewN | apply below_drew1 | refine below_set ?_ GE151.out | refine below_set ?_ GE153.out) | exact HB.out)⟩
                 · rw [if_neg c24] at H
                   exact absurd H (by simp)
               · rw [if_neg c23] at H
                 exact absurd H (by simp)
           · rw [if_neg c20] at H
             exact absurd H (by simp)
         · rw [if_neg c19] at H
           exact absurd H (by simp)
       · rw [if_neg c18] at H
         have c18b0 : decide (x28_2 < (l0.length : Int)) = false := decide_eq_false c18
         clear c18
         obtain rfl := Option.some.inj H
         go_wp2
         go_ret
         exact ⟨by first | rfl | (simp [errW_none, errW_some] <;> rfl) | (simp [*, errW_none, errW_some] <;> rfl), by repeat (with_reducible first | exact HB.out | apply below_alloc | apply pw_below_drewN | apply below_drew1)⟩

-- NOT PRINTED: function 90 (slices_IndexFunc_90)

-- NOT PRINTED: function 74 (slices_ContainsFunc_74)

end Go.Proofs.Ytlfmobnmohnjmaa.Rs
