-- PRINTED by print.py (a twelfth state) out of the translation. Not trusted: Lean checks it.
import Derived.Test.YtpeblomhhofhkaaHx0
import Derived.Test.YtpeblomhhofhkaaHx2
namespace Go.Proofs.Ytpeblomhhofhkaa.H
open Go.Proofs.Ytpeblomhhofhkaa.Ho
open Go.RowKit Go.Proofs.YtpeblomhhofhkaaW.PrintWords Go.Proofs.YtpeblomhhofhkaaW.PrintLast Go.Proofs.YtpeblomhhofhkaaW.PrintMore
attribute [local go_sem] max2_int min2_int max_two min_two max_three min_three max_four min_four   -- for this text's walks alone
set_option linter.unusedVariables false
set_option linter.unusedSimpArgs false

/-! ### term_Cells: function 51 -/
def term_Cells.l0 : Nat → List Int → List (S50) → Int → Int → Option (List Int)
 | 0, _, _, _, _ => none
 | k + 1, x3, x9, x10, x11 => if x11 < x10 then (if 0 ≤ x11 then (if x11 < (x9.length : Int) then (if ((rd_T50 x9 x11).f0) = 2 then (if x3.length < 17592186044416 then (term_Cells.l0 k (x3 ++ [(rd_T50 x9 x11).f1]) x9 x10 (wrap64 (x11 + 1))) else (none)) else (term_Cells.l0 k x3 x9 x10 (wrap64 (x11 + 1)))) else (none)) else (none)) else ((slices_Sort.f x3).bind fun t120 => ((slices_Compact.f t120).bind fun t121 => (some t121)))
def term_Cells.f (k : Nat) (l0 : List (S50)) : Option (List Int) := (term_Check.f k l0).bind fun t114 => (if t114 = 0 then (term_Cells.l0 k ([] : List Int) l0 (l0.length : Int) 0) else (some ([] : List Int)))
theorem term_Cells.mono_l : ∀ k, (∀ y0 y1 y2 y3, LeO (term_Cells.l0 k y0 y1 y2 y3) (term_Cells.l0 (k + 1) y0 y1 y2 y3))
 | 0 => fun _ _ _ _ r h => by simp [term_Cells.l0] at h
 | k + 1 => by
  have ih0 := term_Cells.mono_l k
  · intro y0 y1 y2 y3
    unfold term_Cells.l0
    repeat' first
    | (with_reducible exact ih0 _ _ _ _)
    | (with_reducible exact term_Check.mono _ _)
    | (with_reducible exact LeO.refl _)
    | (with_reducible exact LeO.none _)
    | (with_reducible refine LeO.ite ?_ ?_)
    | (with_reducible refine LeO.bind ?_ (fun _ => ?_))
    | exact ih0 _ _ _ _
    | exact term_Check.mono _ _
    | exact LeO.none _
    | refine LeO.ite ?_ ?_
    | refine LeO.bind ?_ (fun _ => ?_)
theorem term_Cells.mono : ∀ a0 k, LeO (term_Cells.f k a0) (term_Cells.f (k + 1) a0) := by
 intro a0 k
 have ih0 := term_Cells.mono_l k
 unfold term_Cells.f
 repeat' first
  | (with_reducible exact ih0 _ _ _ _)
  | (with_reducible exact term_Check.mono _ _)
  | (with_reducible exact LeO.refl _)
  | (with_reducible exact LeO.none _)
  | (with_reducible refine LeO.ite ?_ ?_)
  | (with_reducible refine LeO.bind ?_ (fun _ => ?_))
  | exact ih0 _ _ _ _
  | exact term_Check.mono _ _
  | exact LeO.none _
  | refine LeO.ite ?_ ?_
  | refine LeO.bind ?_ (fun _ => ?_)
set_option maxHeartbeats 8000000 in
set_option maxRecDepth 100000 in
theorem term_Cells.calls (k : Nat) (A0 : Option Addr) (c0 : Nat) (l0 : List (S50)) (r : List Int) (w : World) (hr0 : Kd.C k50 w A0 l0.length l0) (hc0 : l0.length ≤ c0) (h : term_Cells.f k l0 = some r) :
 Calls Try.prog 51 #[.slice A0 l0.length c0] w fun e w' => ∃ v0_ : Value, e = .returned (v0_) ∧ Kd.R (Kd.int .i64) 3 w' w.heap.size (fun _ => True) v0_ r ∧ Below w.heap.size w w' := by
 have hu50 := Try.underlying50
 have HR0 := ak hr0
 have HC0 := ak hc0
 clear hr0 hc0
 have HB := ak (Below.refl w.heap.size w)
 have H : ((term_Check.f k l0).bind fun t114 => (if t114 = 0 then (term_Cells.l0 k ([] : List Int) l0 (l0.length : Int) 0) else (some ([] : List Int)))) = some r := h
 clear h
 obtain ⟨t114, A2, H⟩ := bd_ H
 by_cases c3 : t114 = 0
 rotate_left
 · rw [if_neg c3] at H
   have c3b0 : (t114 == 0) = false := beq_eq_false_iff_ne.mpr c3
   have c3b1 : (t114 != 0) = true := bne_iff_ne.mpr c3
   obtain rfl := Option.some.inj H
   go_enter Try.func51, Try.ntmps51
   go_wp2_with (first | ((with_reducible refine gate_callee (f := 50) rfl ?_); refine goesL_ (some 7) rfl rfl Try.func50 (by kernel_rfl) rfl #[.slice A0 l0.length c0] rfl mp_ ?_; (with_reducible refine (term_Check.calls k _ _ l0 t114 _ ?side1 ?side2 A2.out).mono ?_); (case side1 => exact cc_ HR0); (case side2 => exact HC0.out); rintro e w20 ⟨rfl, hb⟩; refine ⟨_, rfl, ?_⟩; replace HB := ak (bst_ hb); (try clear hb)))
   go_ret
   exact ⟨_, by first | rfl | (simp [errW_none, errW_some] <;> rfl) | (simp [*, errW_none, errW_some] <;> rfl), by first | exact Kd.R_nil _ _ _ _ _ | exact Kd.N_nil _ _ _ _ _ | exact Kd.V_nil _ _ _ _ _ | exact Kd.Q_nil _ _ _ _ _ | exact Kd.S_nil _ _ _ _ _, bsv_⟩
 rw [if_pos c3] at H
 have c3b0 : (t114 == 0) = true := beq_iff_eq.mpr c3
 have c3b1 : (t114 != 0) = false := bne_eq_false_iff_eq.mpr c3
 clear c3
 have H' := ak H
 clear H
 go_enter Try.func51, Try.ntmps51
 go_wp2_with (first | ((with_reducible refine gate_callee (f := 50) rfl ?_); refine goesL_ (some 7) rfl rfl Try.func50 (by kernel_rfl) rfl #[.slice A0 l0.length c0] rfl mp_ ?_; (with_reducible refine (term_Check.calls k _ _ l0 t114 _ ?side1 ?side2 A2.out).mono ?_); (case side1 => exact cc_ HR0); (case side2 => exact HC0.out); rintro e w4 ⟨rfl, hb⟩; refine ⟨_, rfl, ?_⟩; replace HB := ak (bst_ hb); (try clear hb)))
 go_loopg [3, 11] k (fun kq v3 v11 w' => ∃ (x3_1 : List Int) (x11_1 : Int), v11 = .int .i64 x11_1 ∧ Aside0 (term_Cells.l0 kq x3_1 l0 (l0.length : Int) x11_1 = some r) ∧ Aside0 (kq ≤ k) ∧ Aside0 (Kd.R (Kd.int .i64) 3 w' w.heap.size (fun _ => True) v3 x3_1) ∧ Aside0 (Below w.heap.size w w'))
 case atStart => exact ⟨(([] : List Int)), (0), (by first | rfl | (simp; done) | (simp [*]; done)), H', ⟨Nat.le_refl _⟩, ⟨by first | exact Kd.R_nil _ _ _ _ _ | exact Kd.N_nil _ _ _ _ _ | exact Kd.V_nil _ _ _ _ _ | exact Kd.Q_nil _ _ _ _ _ | exact Kd.S_nil _ _ _ _ _⟩, ⟨bsv_⟩⟩
 case round =>
  clear H'
  try clear p2
  try clear c3
  try clear c3b0
  try clear c3b1
  obtain ⟨x3_1, x11_1, rfl, HA, HK1, HO_3, HB⟩ := hrel
  cases gk with
  | zero => exact absurd HA.out (by simp [term_Cells.l0])
  | succ k1 =>
   have H := HA.out
   clear HA
   simp only [term_Cells.l0] at H
   by_cases c5 : x11_1 < (l0.length : Int)
   rotate_left
   · rw [if_neg c5] at H
     have c5b0 : decide (x11_1 < (l0.length : Int)) = false := decide_eq_false c5
     clear c5
     obtain ⟨t120, A15, H⟩ := bd_ H
     obtain ⟨t121, A16, H⟩ := bd_ H
     obtain rfl := Option.some.inj H
     obtain ⟨Ao17, co17, eo17⟩ := Kd.R_slice HO_3.out
     subst eo17
     go_wp2_with (first | ((with_reducible refine gate_callee (f := 59) rfl ?_); refine goesL_ (some 25) rfl rfl Try.func59 (by kernel_rfl) rfl #[.slice Ao17 x3_1.length co17] rfl mp_ ?_; (with_reducible refine (slices_Sort.calls (fun k_ => some k_ = (.slice Ao17 x3_1.length co17 : Value).ownBlock) (.slice Ao17 x3_1.length co17) x3_1 t120 w _ ?side1 ?side2 A15.out).mono ?_); (case side1 => repeat (with_reducible first | exact HB.out | apply below_alloc | apply pw_below_drewN | apply below_drew1)); (case side2 => exact Kd.R_tight rfl HO_3.out); rintro e w18 ⟨rfl, hy0, hb, hkp⟩; refine ⟨_, rfl, ?_⟩; replace HO_3 := ak (Kd.R_reok rfl hy0 (fun k_ e_ => HO_3.out.1 k_ e_)); replace HB := ak (hb); (try clear hb); (try clear hkp); (try clear hy0)) | ((with_reducible refine gate_callee (f := 60) rfl ?_); refine goesL_ (some 27) rfl rfl Try.func60 (by kernel_rfl) rfl #[.slice Ao17 x3_1.length co17] rfl mp_ ?_; (with_reducible refine (slices_Compact.calls (fun k_ => some k_ = (.slice Ao17 x3_1.length co17 : Value).ownBlock) (.slice Ao17 x3_1.length co17) t120 t121 w _ ?side1 ?side2 A16.out).mono ?_); (case side1 => repeat (with_reducible first | exact HB.out | apply below_alloc | apply pw_below_drewN | apply below_drew1)); (case side2 => exact Kd.R_tight rfl HO_3.out); rintro e w19 ⟨v122, rfl, ho0, hb, hkp⟩; refine ⟨_, rfl, ?_⟩; replace HO123 := ak (Kd.R_mono (ok' := fun k_ => True) ho0 (fun k_ hk_ => trivial)); replace HB := ak (hb); clear HO_3; (try clear hb); (try clear hkp); (try clear ho0)))
     go_ret
     exact ⟨_, by first | rfl | (simp [errW_none, errW_some] <;> rfl) | (simp [*, errW_none, errW_some] <;> rfl), rq_ HO123, bsv_⟩
   rw [if_pos c5] at H
   have c5b0 : decide (x11_1 < (l0.length : Int)) = true := decide_eq_true c5
   clear c5
   by_cases c6 : 0 ≤ x11_1
   rotate_left
   · rw [if_neg c6] at H
     exact absurd H (by simp)
   rw [if_pos c6] at H
   have c6b0 : decide (0 ≤ x11_1) = true := decide_eq_true c6
   clear c6
   by_cases c7 : x11_1 < (l0.length : Int)
   rotate_left
   · rw [if_neg c7] at H
     exact absurd H (by simp)
   rw [if_pos c7] at H
   have c7b0 : decide (x11_1 < (l0.length : Int)) = true := decide_eq_true c7
   clear c7
   by_cases c8 : ((rd_T50 l0 x11_1).f0) = 2
   rotate_left
   · rw [if_neg c8] at H
     have c8b0 : (((rd_T50 l0 x11_1).f0) == 2) = false := beq_eq_false_iff_ne.mpr c8
     have c8b1 : (((rd_T50 l0 x11_1).f0) != 2) = true := bne_iff_ne.mpr c8
     have H' := ak H
     clear H
     have p115 : 0 ≤ (x11_1 : Int) := oda_
     have q115 : x11_1 < (l0.length : Int) := oda_
     obtain ⟨ad115, e115, hx115_0, hx115_1⟩ := at_T50 HR0.out x11_1 p115 q115
     cases e115
     replace hx115_0 := bl_ HB hx115_0
     replace hx115_1 := bl_ HB hx115_1
     replace p115 := eq_true p115
     replace q115 := eq_true q115
     go_wp2_with (first | ((with_reducible refine gate_dst (N := 5) rfl ?_); refine box_event ?hg (N := 5) ?hd (cs := #[.int .i64 0, .int .i64 0]) (t := 50) ?hr ?_; (case hd => rfl); (case hg => rfl); (case hr => first | (go_simp; done) | (go_simp; rfl)); intro gb116 hg w13 hbox hb; replace HO_3 := rb_ HO_3 hb; replace BK116 := ak (hbox); replace GW116 := ak ((by rw [hg]; exact bsz_ : w.heap.size ≤ gb116)); replace HB := ak (bst_ hb); replace GE116 := GW116; clear hb hbox hg; obtain ⟨hcz14_0, hcz14_1, hfz14_0, hfz14_1⟩ := bz2_ BK116))
     go_roundg k1
     case measure => have := HK1.out; omega
     case rel => exact ⟨(x3_1), (wrap64 (x11_1 + 1)), (by first | rfl | (simp; done) | (simp [*]; done)), H', ⟨by have := HK1.out; omega⟩, ⟨by (with_reducible repeat (first | apply Kd.R_alloc | apply Kd.R_drewN | apply Kd.R_drew)); exact Kd.R_mono (Kd.R_far (p := ⟨gb116, 1, none⟩) (Kd.R_far (p := ⟨gb116, 0, none⟩) (Kd.R_types HO_3.out BK116.out (by decide)) (fun _ hk => hk.2) (.int .i64 ((rd_T50 l0 x11_1).f0))) (fun _ hk => hk.2) (.int .i64 ((rd_T50 l0 x11_1).f1))) (fun _ hk => trivial)⟩, ⟨bsw_⟩⟩
   rw [if_pos c8] at H
   have c8b0 : (((rd_T50 l0 x11_1).f0) == 2) = true := beq_iff_eq.mpr c8
   have c8b1 : (((rd_T50 l0 x11_1).f0) != 2) = false := bne_eq_false_iff_eq.mpr c8
   clear c8
   by_cases c9 : x3_1.length < 17592186044416
   rotate_left
   · rw [if_neg c9] at H
     exact absurd H (by simp)
   rw [if_pos c9] at H
   have LMc9 := ak c9
   clear c9
   obtain ⟨y117, hy117⟩ : ∃ y_ : List Int, y_ = (x3_1 ++ [(rd_T50 l0 x11_1).f1]) := ⟨_, rfl⟩
   replace H : (term_Cells.l0 k1 y117 l0 (l0.length : Int) (wrap64 (x11_1 + 1))) = some r := rh_ hy117 H
   have Ny117 := ak hy117
   clear hy117
   have H' := ak H
   clear H
   have p115 : 0 ≤ (x11_1 : Int) := oda_
   have q115 : x11_1 < (l0.length : Int) := oda_
   obtain ⟨ad115, e115, hx115_0, hx115_1⟩ := at_T50 HR0.out x11_1 p115 q115
   cases e115
   replace hx115_0 := bl_ HB hx115_0
   replace hx115_1 := bl_ HB hx115_1
   replace p115 := eq_true p115
   replace q115 := eq_true q115
   go_wp2_with (first | ((with_reducible refine gate_dst (N := 5) rfl ?_); refine box_event ?hg (N := 5) ?hd (cs := #[.int .i64 0, .int .i64 0]) (t := 50) ?hr ?_; (case hd => rfl); (case hg => rfl); (case hr => first | (go_simp; done) | (go_simp; rfl)); intro gb116 hg w10 hbox hb; replace HO_3 := rb_ HO_3 hb; replace BK116 := ak (hbox); replace GW116 := ak ((by rw [hg]; exact bsz_ : w.heap.size ≤ gb116)); replace HB := ak (bst_ hb); replace GE116 := GW116; clear hb hbox hg; obtain ⟨hcz11_0, hcz11_1, hfz11_0, hfz11_1⟩ := bz2_ BK116) | ((with_reducible refine gate_builtin (b := .append) (xs := #[.tmp 18, .tmp 21]) rfl ?_); at_builtin; refine Kd.R_append (Kd.int .i64) (w0 := w) w.heap.size rfl (.tmp 18) (.tmp 21) 78 3 (.int .i64 0) 8 rfl Try.underlying78 info3 rfl (by decide) (by omega) u3 x3_1 ((rd_T50 l0 x11_1).f1) [.int .i64 ((rd_T50 l0 x11_1).f1)] (fun _ => True) (fun _ => False) rfl (by first | (go_simp; done) | (go_simp; rfl)) ?aP (fun _ hk => hk.elim) ?aF ?aO ?aB ?aS ?aL ?_; (case aP => exact rfl); (case aB => exact bsw_); (case aF => exact (fun _ _ => trivial)); (case aO => exact (by (with_reducible repeat (first | apply Kd.R_alloc | apply Kd.R_drewN | apply Kd.R_drew)); exact Kd.R_mono (Kd.R_far (p := ⟨gb116, 1, none⟩) (Kd.R_far (p := ⟨gb116, 0, none⟩) (Kd.R_types HO_3.out BK116.out (by decide)) (fun _ hk => hk.2) (.int .i64 ((rd_T50 l0 x11_1).f0))) (fun _ hk => hk.2) (.int .i64 ((rd_T50 l0 x11_1).f1))) (fun _ hk => trivial))); (case aS => exact (below_size bsw_)); (case aL => have := LMc9.out; omega); intro v118 w12 ho hb hg hat; rw [← Ny117.out] at ho; replace BK116 := ak (blk_grown (g := gb116) (o := .cells #[.int .i64 ((rd_T50 l0 x11_1).f0), .int .i64 ((rd_T50 l0 x11_1).f1)] 50 (0, 0)) (by (with_reducible repeat (first | refine blk_drewN ?_ _ | refine blk_drew ?_ | refine blk_alloc ?_ _)); refine blk_put (cs := #[.int .i64 ((rd_T50 l0 x11_1).f0), .int .i64 0]) ?_ 1 _ rfl; (with_reducible repeat (first | refine blk_drewN ?_ _ | refine blk_drew ?_ | refine blk_alloc ?_ _)); refine blk_put (cs := #[.int .i64 0, .int .i64 0]) ?_ 0 _ rfl; (with_reducible repeat (first | refine blk_drewN ?_ _ | refine blk_drew ?_ | refine blk_alloc ?_ _)); exact BK116.out) hg (Kd.R_ne HO_3.out BK116.out (by decide))); replace HB := ak (hb); replace HO119 := ak (ho); clear HO_3; clear ho hb hg hat))
   go_roundg k1
   case measure => have := HK1.out; omega
   case rel => exact ⟨(y117), (wrap64 (x11_1 + 1)), (by first | rfl | (simp; done) | (simp [*]; done)), H', ⟨by have := HK1.out; omega⟩, ⟨rq_ HO119⟩, ⟨bsw_⟩⟩

/-! ### code_reckons: function 45 -/
def code_reckons.f (k : Nat) (l0 : List (S50)) : Option (Bool) := (term_Check.f k l0).bind fun t124 => (if t124 = 0 then ((term_Cells.f k l0).bind fun t125 => (some ((t125.length : Int) == 0))) else (some false))
theorem code_reckons.mono : ∀ a0 k, LeO (code_reckons.f k a0) (code_reckons.f (k + 1) a0) := by
 intro a0 k
 unfold code_reckons.f
 repeat' first
  | (with_reducible exact term_Cells.mono _ _)
  | (with_reducible exact term_Check.mono _ _)
  | (with_reducible exact LeO.refl _)
  | (with_reducible exact LeO.none _)
  | (with_reducible refine LeO.ite ?_ ?_)
  | (with_reducible refine LeO.bind ?_ (fun _ => ?_))
  | exact term_Cells.mono _ _
  | exact term_Check.mono _ _
  | exact LeO.none _
  | refine LeO.ite ?_ ?_
  | refine LeO.bind ?_ (fun _ => ?_)
set_option maxHeartbeats 8000000 in
set_option maxRecDepth 100000 in
theorem code_reckons.calls (k : Nat) (A0 : Option Addr) (c0 : Nat) (l0 : List (S50)) (r : Bool) (w : World) (hr0 : Kd.C k50 w A0 l0.length l0) (hc0 : l0.length ≤ c0) (h : code_reckons.f k l0 = some r) :
 Calls Try.prog 45 #[.slice A0 l0.length c0] w fun e w' => e = .returned (.bool r) ∧ Below w.heap.size w w' := by
 have HR0 := ak hr0
 have HC0 := ak hc0
 clear hr0 hc0
 have HB := ak (Below.refl w.heap.size w)
 have H : ((term_Check.f k l0).bind fun t124 => (if t124 = 0 then ((term_Cells.f k l0).bind fun t125 => (some ((t125.length : Int) == 0))) else (some false))) = some r := h
 clear h
 obtain ⟨t124, A2, H⟩ := bd_ H
 by_cases c3 : t124 = 0
 rotate_left
 · rw [if_neg c3] at H
   have c3b0 : (t124 == 0) = false := beq_eq_false_iff_ne.mpr c3
   have c3b1 : (t124 != 0) = true := bne_iff_ne.mpr c3
   obtain rfl := Option.some.inj H
   go_enter Try.func45, Try.ntmps45
   go_wp2_with (first | ((with_reducible refine gate_callee (f := 50) rfl ?_); refine goesL_ (some 4) rfl rfl Try.func50 (by kernel_rfl) rfl #[.slice A0 l0.length c0] rfl mp_ ?_; (with_reducible refine (term_Check.calls k _ _ l0 t124 _ ?side1 ?side2 A2.out).mono ?_); (case side1 => exact cc_ HR0); (case side2 => exact HC0.out); rintro e w8 ⟨rfl, hb⟩; refine ⟨_, rfl, ?_⟩; replace HB := ak (bst_ hb); (try clear hb)))
   go_ret
   exact ⟨by first | rfl | (simp [errW_none, errW_some] <;> rfl) | (simp [*, errW_none, errW_some] <;> rfl), bsv_⟩
 rw [if_pos c3] at H
 have c3b0 : (t124 == 0) = true := beq_iff_eq.mpr c3
 have c3b1 : (t124 != 0) = false := bne_eq_false_iff_eq.mpr c3
 clear c3
 obtain ⟨t125, A4, H⟩ := bd_ H
 obtain rfl := Option.some.inj H
 go_enter Try.func45, Try.ntmps45
 go_wp2_with (first | ((with_reducible refine gate_callee (f := 50) rfl ?_); refine goesL_ (some 4) rfl rfl Try.func50 (by kernel_rfl) rfl #[.slice A0 l0.length c0] rfl mp_ ?_; (with_reducible refine (term_Check.calls k _ _ l0 t124 _ ?side1 ?side2 A2.out).mono ?_); (case side1 => exact cc_ HR0); (case side2 => exact HC0.out); rintro e w5 ⟨rfl, hb⟩; refine ⟨_, rfl, ?_⟩; replace HB := ak (bst_ hb); (try clear hb)) | (go_at_call 51; (with_reducible refine (term_Cells.calls k _ _ l0 t125 _ ?side1 ?side2 A4.out).mono ?_); (case side1 => exact cb_ HR0 HB); (case side2 => exact HC0.out); rintro e w6 ⟨v126, rfl, ho0, hb⟩; replace HO127 := ak (Kd.R_lower ho0 bsz_); replace HB := ak (bst_ hb); (try clear hb); (try clear ho0); obtain ⟨Ao7, co7, eo7⟩ := Kd.R_slice HO127.out; subst eo7))
 go_ret
 exact ⟨by first | rfl | (simp [errW_none, errW_some] <;> rfl) | (simp [*, errW_none, errW_some] <;> rfl), bsv_⟩

/-! ### code_long: function 46 -/
def code_long.f (a0 : Int) : Option (Bool) := if a0 ≥ 1 then (some (decide (a0 ≤ 24))) else (some false)
set_option maxHeartbeats 8000000 in
set_option maxRecDepth 100000 in
theorem code_long.calls (a0 : Int) (r : Bool) (w : World) (h : code_long.f a0 = some r) :
 Calls Try.prog 46 #[.int .i64 a0] w fun e w' => e = .returned (.bool r) ∧ Drawn0 w w' := by
 have H : (if a0 ≥ 1 then (some (decide (a0 ≤ 24))) else (some false)) = some r := h
 clear h
 by_cases c2 : a0 ≥ 1
 rotate_left
 · rw [if_neg c2] at H
   have c2b0 : decide (1 ≤ a0) = false := decide_eq_false c2
   clear c2
   obtain rfl := Option.some.inj H
   go_enter Try.func46, Try.ntmps46
   go_wp2
   go_ret
   exact ⟨by first | rfl | (simp; done) | (simp [*]; done), by repeat (first | exact Drawn0.refl _ | apply Drawn0.step)⟩
 rw [if_pos c2] at H
 have c2b0 : decide (1 ≤ a0) = true := decide_eq_true c2
 clear c2
 obtain rfl := Option.some.inj H
 go_enter Try.func46, Try.ntmps46
 go_wp2
 go_ret
 exact ⟨by first | rfl | (simp; done) | (simp [*]; done), by repeat (first | exact Drawn0.refl _ | apply Drawn0.step)⟩

/-! ### code_may: function 36 -/
def code_may.f (k : Nat) (a0_0 : Int) (a0_1 : Int) (a0_2 : Int) (l0_3 : List (S50)) : Option (Bool) := if a0_0 = 1 then (if (l0_3.length : Int) = 0 then ((code_below.f a0_1 8).bind fun t129 => (if t129 = true then ((code_below.f a0_2 64).bind fun t130 => (some t130)) else (some false))) else (some false)) else (if a0_0 = 2 then ((code_below.f a0_1 8).bind fun t131 => (if t131 = true then (if a0_2 = 0 then ((code_reckons.f k l0_3).bind fun t132 => (some t132)) else (some false)) else (some false))) else (if a0_0 = 3 then ((code_below.f a0_1 64).bind fun t133 => (if t133 = true then (if a0_2 = 0 then ((code_reckons.f k l0_3).bind fun t134 => (some t134)) else (some false)) else (some false))) else (if a0_0 = 4 then ((code_long.f a0_1).bind fun t135 => (if t135 = true then (if a0_2 = 0 then ((code_reckons.f k l0_3).bind fun t136 => (some t136)) else (some false)) else (some false))) else (if a0_0 = 5 then (if (l0_3.length : Int) = 0 then (if a0_1 = 0 then (some (a0_2 == 0)) else (some false)) else (some false)) else (if a0_0 = 6 then (if (l0_3.length : Int) = 0 then ((code_below.f a0_1 256).bind fun t137 => (if t137 = true then (some (a0_2 == 0)) else (some false))) else (some false)) else (if a0_0 = 7 then (if (l0_3.length : Int) = 0 then ((code_long.f a0_1).bind fun t138 => (if t138 = true then ((code_long.f a0_2).bind fun t139 => (some t139)) else (some false))) else (some false)) else (some false)))))))
theorem code_may.mono : ∀ a0 a1 a2 a3 k, LeO (code_may.f k a0 a1 a2 a3) (code_may.f (k + 1) a0 a1 a2 a3) := by
 intro a0 a1 a2 a3 k
 unfold code_may.f
 repeat' first
  | (with_reducible exact code_reckons.mono _ _)
  | (with_reducible exact LeO.refl _)
  | (with_reducible exact LeO.none _)
  | (with_reducible refine LeO.ite ?_ ?_)
  | (with_reducible refine LeO.bind ?_ (fun _ => ?_))
  | exact code_reckons.mono _ _
  | exact LeO.none _
  | refine LeO.ite ?_ ?_
  | refine LeO.bind ?_ (fun _ => ?_)
set_option maxHeartbeats 8000000 in
set_option maxRecDepth 100000 in
theorem code_may.calls (k : Nat) (a0_0 : Int) (a0_1 : Int) (a0_2 : Int) (A0_3 : Option Addr) (c0_3 : Nat) (l0_3 : List (S50)) (r : Bool) (w : World) (hr0_3 : Kd.C k50 w A0_3 l0_3.length l0_3) (hc0_3 : l0_3.length ≤ c0_3) (h : code_may.f k a0_0 a0_1 a0_2 l0_3 = some r) :
 Calls Try.prog 36 #[.agg #[.int .i64 a0_0, .int .i64 a0_1, .int .i64 a0_2, .slice A0_3 l0_3.length c0_3]] w fun e w' => e = .returned (.bool r) ∧ Below w.heap.size w w' := by
 have hu53 := Try.underlying53
 have HR0_3 := ak hr0_3
 have HC0_3 := ak hc0_3
 clear hr0_3 hc0_3
 have HB := ak (Below.refl w.heap.size w)
 have H : (if a0_0 = 1 then (if (l0_3.length : Int) = 0 then ((code_below.f a0_1 8).bind fun t129 => (if t129 = true then ((code_below.f a0_2 64).bind fun t130 => (some t130)) else (some false))) else (some false)) else (if a0_0 = 2 then ((code_below.f a0_1 8).bind fun t131 => (if t131 = true then (if a0_2 = 0 then ((code_reckons.f k l0_3).bind fun t132 => (some t132)) else (some false)) else (some false))) else (if a0_0 = 3 then ((code_below.f a0_1 64).bind fun t133 => (if t133 = true then (if a0_2 = 0 then ((code_reckons.f k l0_3).bind fun t134 => (some t134)) else (some false)) else (some false))) else (if a0_0 = 4 then ((code_long.f a0_1).bind fun t135 => (if t135 = true then (if a0_2 = 0 then ((code_reckons.f k l0_3).bind fun t136 => (some t136)) else (some false)) else (some false))) else (if a0_0 = 5 then (if (l0_3.length : Int) = 0 then (if a0_1 = 0 then (some (a0_2 == 0)) else (some false)) else (some false)) else (if a0_0 = 6 then (if (l0_3.length : Int) = 0 then ((code_below.f a0_1 256).bind fun t137 => (if t137 = true then (some (a0_2 == 0)) else (some false))) else (some false)) else (if a0_0 = 7 then (if (l0_3.length : Int) = 0 then ((code_long.f a0_1).bind fun t138 => (if t138 = true then ((code_long.f a0_2).bind fun t139 => (some t139)) else (some false))) else (some false)) else (some false)))))))) = some r := h
 clear h
 by_cases c2 : a0_0 = 1
 · rw [if_pos c2] at H
   have c2b0 : (a0_0 == 1) = true := beq_iff_eq.mpr c2
   have c2b1 : (a0_0 != 1) = false := bne_eq_false_iff_eq.mpr c2
   clear c2
   by_cases c3 : (l0_3.length : Int) = 0
   rotate_left
   · rw [if_neg c3] at H
     have c3b0 : ((l0_3.length : Int) == 0) = false := beq_eq_false_iff_ne.mpr c3
     have c3b1 : ((l0_3.length : Int) != 0) = true := bne_iff_ne.mpr c3
     have c3b2 : ¬ (l0_3 = []) := fun h_ => c3 (by rw [h_]; rfl)
     obtain rfl := Option.some.inj H
     go_enter Try.func36, Try.ntmps36
     go_wp2_with (first | ((with_reducible refine gate_dst (N := 1) rfl ?_); refine box_event ?hg (N := 1) ?hd (cs := #[.int .i64 a0_0, .int .i64 a0_1, .int .i64 a0_2, .slice A0_3 l0_3.length c0_3]) (t := 53) ?hr ?_; (case hd => rfl); (case hg => rfl); (case hr => first | (go_simp; done) | (go_simp; rfl)); intro gb128 hg w11 hbox hb; replace BK128 := ak (hbox); replace GW128 := ak ((by rw [hg]; exact bsz_ : w.heap.size ≤ gb128)); replace HB := ak (bst_ hb); replace GE128 := GW128; clear hb hbox hg; obtain ⟨hcz12_0, hcz12_1, hcz12_2, hcz12_3, hfz12_0, hfz12_1, hfz12_2, hfz12_3⟩ := bz4_ BK128))
     go_ret
     exact ⟨by first | rfl | (simp [errW_none, errW_some] <;> rfl) | (simp [*, errW_none, errW_some] <;> rfl), bsw_⟩
   rw [if_pos c3] at H
   have c3b0 : ((l0_3.length : Int) == 0) = true := beq_iff_eq.mpr c3
   have c3b1 : ((l0_3.length : Int) != 0) = false := bne_eq_false_iff_eq.mpr c3
   clear c3
   obtain ⟨t129, A4, H⟩ := bd_ H
   by_cases c5 : t129 = true
   rotate_left
   · replace c5 := Bool.eq_false_iff.mpr c5
     subst c5
     rw [if_neg (show ¬ (false = true) by decide)] at H
     obtain rfl := Option.some.inj H
     go_enter Try.func36, Try.ntmps36
     go_wp2_with (first | ((with_reducible refine gate_dst (N := 1) rfl ?_); refine box_event ?hg (N := 1) ?hd (cs := #[.int .i64 a0_0, .int .i64 a0_1, .int .i64 a0_2, .slice A0_3 l0_3.length c0_3]) (t := 53) ?hr ?_; (case hd => rfl); (case hg => rfl); (case hr => first | (go_simp; done) | (go_simp; rfl)); intro gb128 hg w9 hbox hb; replace BK128 := ak (hbox); replace GW128 := ak ((by rw [hg]; exact bsz_ : w.heap.size ≤ gb128)); replace HB := ak (bst_ hb); replace GE128 := GW128; clear hb hbox hg; obtain ⟨hcz10_0, hcz10_1, hcz10_2, hcz10_3, hfz10_0, hfz10_1, hfz10_2, hfz10_3⟩ := bz4_ BK128) | (go_at_call 44; (with_reducible refine (code_below.calls a0_1 8 false _ A4.out).mono ?_); rintro e w' ⟨rfl, ⟨nd, rfl⟩⟩))
     go_ret
     exact ⟨by first | rfl | (simp [errW_none, errW_some] <;> rfl) | (simp [*, errW_none, errW_some] <;> rfl), bsw_⟩
   subst c5
   rw [if_pos rfl] at H
   obtain ⟨t130, A6, H⟩ := bd_ H
   obtain rfl := Option.some.inj H
   go_enter Try.func36, Try.ntmps36
   go_wp2_with (first | ((with_reducible refine gate_dst (N := 1) rfl ?_); refine box_event ?hg (N := 1) ?hd (cs := #[.int .i64 a0_0, .int .i64 a0_1, .int .i64 a0_2, .slice A0_3 l0_3.length c0_3]) (t := 53) ?hr ?_; (case hd => rfl); (case hg => rfl); (case hr => first | (go_simp; done) | (go_simp; rfl)); intro gb128 hg w7 hbox hb; replace BK128 := ak (hbox); replace GW128 := ak ((by rw [hg]; exact bsz_ : w.heap.size ≤ gb128)); replace HB := ak (bst_ hb); replace GE128 := GW128; clear hb hbox hg; obtain ⟨hcz8_0, hcz8_1, hcz8_2, hcz8_3, hfz8_0, hfz8_1, hfz8_2, hfz8_3⟩ := bz4_ BK128) | (go_at_call 44; (with_reducible refine (code_below.calls a0_1 8 true _ A4.out).mono ?_); rintro e w' ⟨rfl, ⟨nd, rfl⟩⟩) | (go_at_call 44; (with_reducible refine (code_below.calls a0_2 64 t130 _ A6.out).mono ?_); rintro e w' ⟨rfl, ⟨nd, rfl⟩⟩))
   go_ret
   exact ⟨by first | rfl | (simp [errW_none, errW_some] <;> rfl) | (simp [*, errW_none, errW_some] <;> rfl), bsw_⟩
 rw [if_neg c2] at H
 have c2b0 : (a0_0 == 1) = false := beq_eq_false_iff_ne.mpr c2
 have c2b1 : (a0_0 != 1) = true := bne_iff_ne.mpr c2
 by_cases c13 : a0_0 = 2
 · rw [if_pos c13] at H
   have c13b0 : (a0_0 == 2) = true := beq_iff_eq.mpr c13
   have c13b1 : (a0_0 != 2) = false := bne_eq_false_iff_eq.mpr c13
   clear c13
   obtain ⟨t131, A14, H⟩ := bd_ H
   by_cases c15 : t131 = true
   rotate_left
   · replace c15 := Bool.eq_false_iff.mpr c15
     subst c15
     rw [if_neg (show ¬ (false = true) by decide)] at H
     obtain rfl := Option.some.inj H
     go_enter Try.func36, Try.ntmps36
     go_wp2_with (first | ((with_reducible refine gate_dst (N := 1) rfl ?_); refine box_event ?hg (N := 1) ?hd (cs := #[.int .i64 a0_0, .int .i64 a0_1, .int .i64 a0_2, .slice A0_3 l0_3.length c0_3]) (t := 53) ?hr ?_; (case hd => rfl); (case hg => rfl); (case hr => first | (go_simp; done) | (go_simp; rfl)); intro gb128 hg w23 hbox hb; replace BK128 := ak (hbox); replace GW128 := ak ((by rw [hg]; exact bsz_ : w.heap.size ≤ gb128)); replace HB := ak (bst_ hb); replace GE128 := GW128; clear hb hbox hg; obtain ⟨hcz24_0, hcz24_1, hcz24_2, hcz24_3, hfz24_0, hfz24_1, hfz24_2, hfz24_3⟩ := bz4_ BK128) | ((with_reducible refine gate_callee (f := 44) rfl ?_); refine goesL_ (some 27) rfl rfl Try.func44 (by kernel_rfl) rfl #[.int .i64 a0_1, .int .i64 8] rfl mp_ ?_; (with_reducible refine (code_below.calls a0_1 8 false _ A14.out).mono ?_); rintro e w' ⟨rfl, ⟨nd, rfl⟩⟩; refine ⟨_, rfl, ?_⟩))
     go_ret
     exact ⟨by first | rfl | (simp [errW_none, errW_some] <;> rfl) | (simp [*, errW_none, errW_some] <;> rfl), bsw_⟩
   subst c15
   rw [if_pos rfl] at H
   by_cases c16 : a0_2 = 0
   rotate_left
   · rw [if_neg c16] at H
     have c16b0 : (a0_2 == 0) = false := beq_eq_false_iff_ne.mpr c16
     have c16b1 : (a0_2 != 0) = true := bne_iff_ne.mpr c16
     obtain rfl := Option.some.inj H
     go_enter Try.func36, Try.ntmps36
     go_wp2_with (first | ((with_reducible refine gate_dst (N := 1) rfl ?_); refine box_event ?hg (N := 1) ?hd (cs := #[.int .i64 a0_0, .int .i64 a0_1, .int .i64 a0_2, .slice A0_3 l0_3.length c0_3]) (t := 53) ?hr ?_; (case hd => rfl); (case hg => rfl); (case hr => first | (go_simp; done) | (go_simp; rfl)); intro gb128 hg w21 hbox hb; replace BK128 := ak (hbox); replace GW128 := ak ((by rw [hg]; exact bsz_ : w.heap.size ≤ gb128)); replace HB := ak (bst_ hb); replace GE128 := GW128; clear hb hbox hg; obtain ⟨hcz22_0, hcz22_1, hcz22_2, hcz22_3, hfz22_0, hfz22_1, hfz22_2, hfz22_3⟩ := bz4_ BK128) | ((with_reducible refine gate_callee (f := 44) rfl ?_); refine goesL_ (some 27) rfl rfl Try.func44 (by kernel_rfl) rfl #[.int .i64 a0_1, .int .i64 8] rfl mp_ ?_; (with_reducible refine (code_below.calls a0_1 8 true _ A14.out).mono ?_); rintro e w' ⟨rfl, ⟨nd, rfl⟩⟩; refine ⟨_, rfl, ?_⟩))
     go_ret
     exact ⟨by first | rfl | (simp [errW_none, errW_some] <;> rfl) | (simp [*, errW_none, errW_some] <;> rfl), bsw_⟩
   rw [if_pos c16] at H
   have c16b0 : (a0_2 == 0) = true := beq_iff_eq.mpr c16
   have c16b1 : (a0_2 != 0) = false := bne_eq_false_iff_eq.mpr c16
   clear c16
   obtain ⟨t132, A17, H⟩ := bd_ H
   obtain rfl := Option.some.inj H
   go_enter Try.func36, Try.ntmps36
   go_wp2_with (first | ((with_reducible refine gate_dst (N := 1) rfl ?_); refine box_event ?hg (N := 1) ?hd (cs := #[.int .i64 a0_0, .int .i64 a0_1, .int .i64 a0_2, .slice A0_3 l0_3.length c0_3]) (t := 53) ?hr ?_; (case hd => rfl); (case hg => rfl); (case hr => first | (go_simp; done) | (go_simp; rfl)); intro gb128 hg w18 hbox hb; replace BK128 := ak (hbox); replace GW128 := ak ((by rw [hg]; exact bsz_ : w.heap.size ≤ gb128)); replace HB := ak (bst_ hb); replace GE128 := GW128; clear hb hbox hg; obtain ⟨hcz19_0, hcz19_1, hcz19_2, hcz19_3, hfz19_0, hfz19_1, hfz19_2, hfz19_3⟩ := bz4_ BK128) | ((with_reducible refine gate_callee (f := 44) rfl ?_); refine goesL_ (some 27) rfl rfl Try.func44 (by kernel_rfl) rfl #[.int .i64 a0_1, .int .i64 8] rfl mp_ ?_; (with_reducible refine (code_below.calls a0_1 8 true _ A14.out).mono ?_); rintro e w' ⟨rfl, ⟨nd, rfl⟩⟩; refine ⟨_, rfl, ?_⟩) | (go_at_call 45; (with_reducible refine (code_reckons.calls k _ _ l0_3 t132 _ ?side1 ?side2 A17.out).mono ?_); (case side1 => repeat (first | exact (Kd.C_below HR0_3.out bsw_) | with_reducible first | refine Kd.C_alloc ?_ _ | refine Kd.C_drewN ?_ _ | refine Kd.C_drew ?_)); (case side2 => exact HC0_3.out); rintro e w20 ⟨rfl, hb⟩; replace BK128 := bb_ BK128 hb; replace HB := ak (below_step bsw_ hb); (try clear hb)))
   go_ret
   exact ⟨by first | rfl | (simp [errW_none, errW_some] <;> rfl) | (simp [*, errW_none, errW_some] <;> rfl), bsw_⟩
 rw [if_neg c13] at H
 have c13b0 : (a0_0 == 2) = false := beq_eq_false_iff_ne.mpr c13
 have c13b1 : (a0_0 != 2) = true := bne_iff_ne.mpr c13
 by_cases c25 : a0_0 = 3
 · rw [if_pos c25] at H
   have c25b0 : (a0_0 == 3) = true := beq_iff_eq.mpr c25
   have c25b1 : (a0_0 != 3) = false := bne_eq_false_iff_eq.mpr c25
   clear c25
   obtain ⟨t133, A26, H⟩ := bd_ H
   by_cases c27 : t133 = true
   rotate_left
   · replace c27 := Bool.eq_false_iff.mpr c27
     subst c27
     rw [if_neg (show ¬ (false = true) by decide)] at H
     obtain rfl := Option.some.inj H
     go_enter Try.func36, Try.ntmps36
     go_wp2_with (first | ((with_reducible refine gate_dst (N := 1) rfl ?_); refine box_event ?hg (N := 1) ?hd (cs := #[.int .i64 a0_0, .int .i64 a0_1, .int .i64 a0_2, .slice A0_3 l0_3.length c0_3]) (t := 53) ?hr ?_; (case hd => rfl); (case hg => rfl); (case hr => first | (go_simp; done) | (go_simp; rfl)); intro gb128 hg w35 hbox hb; replace BK128 := ak (hbox); replace GW128 := ak ((by rw [hg]; exact bsz_ : w.heap.size ≤ gb128)); replace HB := ak (bst_ hb); replace GE128 := GW128; clear hb hbox hg; obtain ⟨hcz36_0, hcz36_1, hcz36_2, hcz36_3, hfz36_0, hfz36_1, hfz36_2, hfz36_3⟩ := bz4_ BK128) | ((with_reducible refine gate_callee (f := 44) rfl ?_); refine goesL_ (some 42) rfl rfl Try.func44 (by kernel_rfl) rfl #[.int .i64 a0_1, .int .i64 64] rfl mp_ ?_; (with_reducible refine (code_below.calls a0_1 64 false _ A26.out).mono ?_); rintro e w' ⟨rfl, ⟨nd, rfl⟩⟩; refine ⟨_, rfl, ?_⟩))
     go_ret
     exact ⟨by first | rfl | (simp [errW_none, errW_some] <;> rfl) | (simp [*, errW_none, errW_some] <;> rfl), bsw_⟩
   subst c27
   rw [if_pos rfl] at H
   by_cases c28 : a0_2 = 0
   rotate_left
   · rw [if_neg c28] at H
     have c28b0 : (a0_2 == 0) = false := beq_eq_false_iff_ne.mpr c28
     have c28b1 : (a0_2 != 0) = true := bne_iff_ne.mpr c28
     obtain rfl := Option.some.inj H
     go_enter Try.func36, Try.ntmps36
     go_wp2_with (first | ((with_reducible refine gate_dst (N := 1) rfl ?_); refine box_event ?hg (N := 1) ?hd (cs := #[.int .i64 a0_0, .int .i64 a0_1, .int .i64 a0_2, .slice A0_3 l0_3.length c0_3]) (t := 53) ?hr ?_; (case hd => rfl); (case hg => rfl); (case hr => first | (go_simp; done) | (go_simp; rfl)); intro gb128 hg w33 hbox hb; replace BK128 := ak (hbox); replace GW128 := ak ((by rw [hg]; exact bsz_ : w.heap.size ≤ gb128)); replace HB := ak (bst_ hb); replace GE128 := GW128; clear hb hbox hg; obtain ⟨hcz34_0, hcz34_1, hcz34_2, hcz34_3, hfz34_0, hfz34_1, hfz34_2, hfz34_3⟩ := bz4_ BK128) | ((with_reducible refine gate_callee (f := 44) rfl ?_); refine goesL_ (some 42) rfl rfl Try.func44 (by kernel_rfl) rfl #[.int .i64 a0_1, .int .i64 64] rfl mp_ ?_; (with_reducible refine (code_below.calls a0_1 64 true _ A26.out).mono ?_); rintro e w' ⟨rfl, ⟨nd, rfl⟩⟩; refine ⟨_, rfl, ?_⟩))
     go_ret
     exact ⟨by first | rfl | (simp [errW_none, errW_some] <;> rfl) | (simp [*, errW_none, errW_some] <;> rfl), bsw_⟩
   rw [if_pos c28] at H
   have c28b0 : (a0_2 == 0) = true := beq_iff_eq.mpr c28
   have c28b1 : (a0_2 != 0) = false := bne_eq_false_iff_eq.mpr c28
   clear c28
   obtain ⟨t134, A29, H⟩ := bd_ H
   obtain rfl := Option.some.inj H
   go_enter Try.func36, Try.ntmps36
   go_wp2_with (first | ((with_reducible refine gate_dst (N := 1) rfl ?_); refine box_event ?hg (N := 1) ?hd (cs := #[.int .i64 a0_0, .int .i64 a0_1, .int .i64 a0_2, .slice A0_3 l0_3.length c0_3]) (t := 53) ?hr ?_; (case hd => rfl); (case hg => rfl); (case hr => first | (go_simp; done) | (go_simp; rfl)); intro gb128 hg w30 hbox hb; replace BK128 := ak (hbox); replace GW128 := ak ((by rw [hg]; exact bsz_ : w.heap.size ≤ gb128)); replace HB := ak (bst_ hb); replace GE128 := GW128; clear hb hbox hg; obtain ⟨hcz31_0, hcz31_1, hcz31_2, hcz31_3, hfz31_0, hfz31_1, hfz31_2, hfz31_3⟩ := bz4_ BK128) | ((with_reducible refine gate_callee (f := 44) rfl ?_); refine goesL_ (some 42) rfl rfl Try.func44 (by kernel_rfl) rfl #[.int .i64 a0_1, .int .i64 64] rfl mp_ ?_; (with_reducible refine (code_below.calls a0_1 64 true _ A26.out).mono ?_); rintro e w' ⟨rfl, ⟨nd, rfl⟩⟩; refine ⟨_, rfl, ?_⟩) | (go_at_call 45; (with_reducible refine (code_reckons.calls k _ _ l0_3 t134 _ ?side1 ?side2 A29.out).mono ?_); (case side1 => repeat (first | exact (Kd.C_below HR0_3.out bsw_) | with_reducible first | refine Kd.C_alloc ?_ _ | refine Kd.C_drewN ?_ _ | refine Kd.C_drew ?_)); (case side2 => exact HC0_3.out); rintro e w32 ⟨rfl, hb⟩; replace BK128 := bb_ BK128 hb; replace HB := ak (below_step bsw_ hb); (try clear hb)))
   go_ret
   exact ⟨by first | rfl | (simp [errW_none, errW_some] <;> rfl) | (simp [*, errW_none, errW_some] <;> rfl), bsw_⟩
 rw [if_neg c25] at H
 have c25b0 : (a0_0 == 3) = false := beq_eq_false_iff_ne.mpr c25
 have c25b1 : (a0_0 != 3) = true := bne_iff_ne.mpr c25
 by_cases c37 : a0_0 = 4
 · rw [if_pos c37] at H
   have c37b0 : (a0_0 == 4) = true := beq_iff_eq.mpr c37
   have c37b1 : (a0_0 != 4) = false := bne_eq_false_iff_eq.mpr c37
   clear c37
   obtain ⟨t135, A38, H⟩ := bd_ H
   by_cases c39 : t135 = true
   rotate_left
   · replace c39 := Bool.eq_false_iff.mpr c39
     subst c39
     rw [if_neg (show ¬ (false = true) by decide)] at H
     obtain rfl := Option.some.inj H
     go_enter Try.func36, Try.ntmps36
     go_wp2_with (first | ((with_reducible refine gate_dst (N := 1) rfl ?_); refine box_event ?hg (N := 1) ?hd (cs := #[.int .i64 a0_0, .int .i64 a0_1, .int .i64 a0_2, .slice A0_3 l0_3.length c0_3]) (t := 53) ?hr ?_; (case hd => rfl); (case hg => rfl); (case hr => first | (go_simp; done) | (go_simp; rfl)); intro gb128 hg w47 hbox hb; replace BK128 := ak (hbox); replace GW128 := ak ((by rw [hg]; exact bsz_ : w.heap.size ≤ gb128)); replace HB := ak (bst_ hb); replace GE128 := GW128; clear hb hbox hg; obtain ⟨hcz48_0, hcz48_1, hcz48_2, hcz48_3, hfz48_0, hfz48_1, hfz48_2, hfz48_3⟩ := bz4_ BK128) | ((with_reducible refine gate_callee (f := 46) rfl ?_); refine goesL_ (some 57) rfl rfl Try.func46 (by kernel_rfl) rfl #[.int .i64 a0_1] rfl mp_ ?_; (with_reducible refine (code_long.calls a0_1 false _ A38.out).mono ?_); rintro e w' ⟨rfl, ⟨nd, rfl⟩⟩; refine ⟨_, rfl, ?_⟩))
     go_ret
     exact ⟨by first | rfl | (simp [errW_none, errW_some] <;> rfl) | (simp [*, errW_none, errW_some] <;> rfl), bsw_⟩
   subst c39
   rw [if_pos rfl] at H
   by_cases c40 : a0_2 = 0
   rotate_left
   · rw [if_neg c40] at H
     have c40b0 : (a0_2 == 0) = false := beq_eq_false_iff_ne.mpr c40
     have c40b1 : (a0_2 != 0) = true := bne_iff_ne.mpr c40
     obtain rfl := Option.some.inj H
     go_enter Try.func36, Try.ntmps36
     go_wp2_with (first | ((with_reducible refine gate_dst (N := 1) rfl ?_); refine box_event ?hg (N := 1) ?hd (cs := #[.int .i64 a0_0, .int .i64 a0_1, .int .i64 a0_2, .slice A0_3 l0_3.length c0_3]) (t := 53) ?hr ?_; (case hd => rfl); (case hg => rfl); (case hr => first | (go_simp; done) | (go_simp; rfl)); intro gb128 hg w45 hbox hb; replace BK128 := ak (hbox); replace GW128 := ak ((by rw [hg]; exact bsz_ : w.heap.size ≤ gb128)); replace HB := ak (bst_ hb); replace GE128 := GW128; clear hb hbox hg; obtain ⟨hcz46_0, hcz46_1, hcz46_2, hcz46_3, hfz46_0, hfz46_1, hfz46_2, hfz46_3⟩ := bz4_ BK128) | ((with_reducible refine gate_callee (f := 46) rfl ?_); refine goesL_ (some 57) rfl rfl Try.func46 (by kernel_rfl) rfl #[.int .i64 a0_1] rfl mp_ ?_; (with_reducible refine (code_long.calls a0_1 true _ A38.out).mono ?_); rintro e w' ⟨rfl, ⟨nd, rfl⟩⟩; refine ⟨_, rfl, ?_⟩))
     go_ret
     exact ⟨by first | rfl | (simp [errW_none, errW_some] <;> rfl) | (simp [*, errW_none, errW_some] <;> rfl), bsw_⟩
   rw [if_pos c40] at H
   have c40b0 : (a0_2 == 0) = true := beq_iff_eq.mpr c40
   have c40b1 : (a0_2 != 0) = false := bne_eq_false_iff_eq.mpr c40
   clear c40
   obtain ⟨t136, A41, H⟩ := bd_ H
   obtain rfl := Option.some.inj H
   go_enter Try.func36, Try.ntmps36
   go_wp2_with (first | ((with_reducible refine gate_dst (N := 1) rfl ?_); refine box_event ?hg (N := 1) ?hd (cs := #[.int .i64 a0_0, .int .i64 a0_1, .int .i64 a0_2, .slice A0_3 l0_3.length c0_3]) (t := 53) ?hr ?_; (case hd => rfl); (case hg => rfl); (case hr => first | (go_simp; done) | (go_simp; rfl)); intro gb128 hg w42 hbox hb; replace BK128 := ak (hbox); replace GW128 := ak ((by rw [hg]; exact bsz_ : w.heap.size ≤ gb128)); replace HB := ak (bst_ hb); replace GE128 := GW128; clear hb hbox hg; obtain ⟨hcz43_0, hcz43_1, hcz43_2, hcz43_3, hfz43_0, hfz43_1, hfz43_2, hfz43_3⟩ := bz4_ BK128) | ((with_reducible refine gate_callee (f := 46) rfl ?_); refine goesL_ (some 57) rfl rfl Try.func46 (by kernel_rfl) rfl #[.int .i64 a0_1] rfl mp_ ?_; (with_reducible refine (code_long.calls a0_1 true _ A38.out).mono ?_); rintro e w' ⟨rfl, ⟨nd, rfl⟩⟩; refine ⟨_, rfl, ?_⟩) | (go_at_call 45; (with_reducible refine (code_reckons.calls k _ _ l0_3 t136 _ ?side1 ?side2 A41.out).mono ?_); (case side1 => repeat (first | exact (Kd.C_below HR0_3.out bsw_) | with_reducible first | refine Kd.C_alloc ?_ _ | refine Kd.C_drewN ?_ _ | refine Kd.C_drew ?_)); (case side2 => exact HC0_3.out); rintro e w44 ⟨rfl, hb⟩; replace BK128 := bb_ BK128 hb; replace HB := ak (below_step bsw_ hb); (try clear hb)))
   go_ret
   exact ⟨by first | rfl | (simp [errW_none, errW_some] <;> rfl) | (simp [*, errW_none, errW_some] <;> rfl), bsw_⟩
 rw [if_neg c37] at H
 have c37b0 : (a0_0 == 4) = false := beq_eq_false_iff_ne.mpr c37
 have c37b1 : (a0_0 != 4) = true := bne_iff_ne.mpr c37
 by_cases c49 : a0_0 = 5
 · rw [if_pos c49] at H
   have c49b0 : (a0_0 == 5) = true := beq_iff_eq.mpr c49
   have c49b1 : (a0_0 != 5) = false := bne_eq_false_iff_eq.mpr c49
   clear c49
   by_cases c50 : (l0_3.length : Int) = 0
   rotate_left
   · rw [if_neg c50] at H
     have c50b0 : ((l0_3.length : Int) == 0) = false := beq_eq_false_iff_ne.mpr c50
     have c50b1 : ((l0_3.length : Int) != 0) = true := bne_iff_ne.mpr c50
     have c50b2 : ¬ (l0_3 = []) := fun h_ => c50 (by rw [h_]; rfl)
     obtain rfl := Option.some.inj H
     go_enter Try.func36, Try.ntmps36
     go_wp2_with (first | ((with_reducible refine gate_dst (N := 1) rfl ?_); refine box_event ?hg (N := 1) ?hd (cs := #[.int .i64 a0_0, .int .i64 a0_1, .int .i64 a0_2, .slice A0_3 l0_3.length c0_3]) (t := 53) ?hr ?_; (case hd => rfl); (case hg => rfl); (case hr => first | (go_simp; done) | (go_simp; rfl)); intro gb128 hg w56 hbox hb; replace BK128 := ak (hbox); replace GW128 := ak ((by rw [hg]; exact bsz_ : w.heap.size ≤ gb128)); replace HB := ak (bst_ hb); replace GE128 := GW128; clear hb hbox hg; obtain ⟨hcz57_0, hcz57_1, hcz57_2, hcz57_3, hfz57_0, hfz57_1, hfz57_2, hfz57_3⟩ := bz4_ BK128))
     go_ret
     exact ⟨by first | rfl | (simp [errW_none, errW_some] <;> rfl) | (simp [*, errW_none, errW_some] <;> rfl), bsw_⟩
   rw [if_pos c50] at H
   have c50b0 : ((l0_3.length : Int) == 0) = true := beq_iff_eq.mpr c50
   have c50b1 : ((l0_3.length : Int) != 0) = false := bne_eq_false_iff_eq.mpr c50
   clear c50
   by_cases c51 : a0_1 = 0
   rotate_left
   · rw [if_neg c51] at H
     have c51b0 : (a0_1 == 0) = false := beq_eq_false_iff_ne.mpr c51
     have c51b1 : (a0_1 != 0) = true := bne_iff_ne.mpr c51
     obtain rfl := Option.some.inj H
     go_enter Try.func36, Try.ntmps36
     go_wp2_with (first | ((with_reducible refine gate_dst (N := 1) rfl ?_); refine box_event ?hg (N := 1) ?hd (cs := #[.int .i64 a0_0, .int .i64 a0_1, .int .i64 a0_2, .slice A0_3 l0_3.length c0_3]) (t := 53) ?hr ?_; (case hd => rfl); (case hg => rfl); (case hr => first | (go_simp; done) | (go_simp; rfl)); intro gb128 hg w54 hbox hb; replace BK128 := ak (hbox); replace GW128 := ak ((by rw [hg]; exact bsz_ : w.heap.size ≤ gb128)); replace HB := ak (bst_ hb); replace GE128 := GW128; clear hb hbox hg; obtain ⟨hcz55_0, hcz55_1, hcz55_2, hcz55_3, hfz55_0, hfz55_1, hfz55_2, hfz55_3⟩ := bz4_ BK128))
     go_ret
     exact ⟨by first | rfl | (simp [errW_none, errW_some] <;> rfl) | (simp [*, errW_none, errW_some] <;> rfl), bsw_⟩
   rw [if_pos c51] at H
   have c51b0 : (a0_1 == 0) = true := beq_iff_eq.mpr c51
   have c51b1 : (a0_1 != 0) = false := bne_eq_false_iff_eq.mpr c51
   clear c51
   obtain rfl := Option.some.inj H
   go_enter Try.func36, Try.ntmps36
   go_wp2_with (first | ((with_reducible refine gate_dst (N := 1) rfl ?_); refine box_event ?hg (N := 1) ?hd (cs := #[.int .i64 a0_0, .int .i64 a0_1, .int .i64 a0_2, .slice A0_3 l0_3.length c0_3]) (t := 53) ?hr ?_; (case hd => rfl); (case hg => rfl); (case hr => first | (go_simp; done) | (go_simp; rfl)); intro gb128 hg w52 hbox hb; replace BK128 := ak (hbox); replace GW128 := ak ((by rw [hg]; exact bsz_ : w.heap.size ≤ gb128)); replace HB := ak (bst_ hb); replace GE128 := GW128; clear hb hbox hg; obtain ⟨hcz53_0, hcz53_1, hcz53_2, hcz53_3, hfz53_0, hfz53_1, hfz53_2, hfz53_3⟩ := bz4_ BK128))
   go_ret
   exact ⟨by first | rfl | (simp [errW_none, errW_some] <;> rfl) | (simp [*, errW_none, errW_some] <;> rfl), bsw_⟩
 rw [if_neg c49] at H
 have c49b0 : (a0_0 == 5) = false := beq_eq_false_iff_ne.mpr c49
 have c49b1 : (a0_0 != 5) = true := bne_iff_ne.mpr c49
 by_cases c58 : a0_0 = 6
 · rw [if_pos c58] at H
   have c58b0 : (a0_0 == 6) = true := beq_iff_eq.mpr c58
   have c58b1 : (a0_0 != 6) = false := bne_eq_false_iff_eq.mpr c58
   clear c58
   by_cases c59 : (l0_3.length : Int) = 0
   rotate_left
   · rw [if_neg c59] at H
     have c59b0 : ((l0_3.length : Int) == 0) = false := beq_eq_false_iff_ne.mpr c59
     have c59b1 : ((l0_3.length : Int) != 0) = true := bne_iff_ne.mpr c59
     have c59b2 : ¬ (l0_3 = []) := fun h_ => c59 (by rw [h_]; rfl)
     obtain rfl := Option.some.inj H
     go_enter Try.func36, Try.ntmps36
     go_wp2_with (first | ((with_reducible refine gate_dst (N := 1) rfl ?_); refine box_event ?hg (N := 1) ?hd (cs := #[.int .i64 a0_0, .int .i64 a0_1, .int .i64 a0_2, .slice A0_3 l0_3.length c0_3]) (t := 53) ?hr ?_; (case hd => rfl); (case hg => rfl); (case hr => first | (go_simp; done) | (go_simp; rfl)); intro gb128 hg w66 hbox hb; replace BK128 := ak (hbox); replace GW128 := ak ((by rw [hg]; exact bsz_ : w.heap.size ≤ gb128)); replace HB := ak (bst_ hb); replace GE128 := GW128; clear hb hbox hg; obtain ⟨hcz67_0, hcz67_1, hcz67_2, hcz67_3, hfz67_0, hfz67_1, hfz67_2, hfz67_3⟩ := bz4_ BK128))
     go_ret
     exact ⟨by first | rfl | (simp [errW_none, errW_some] <;> rfl) | (simp [*, errW_none, errW_some] <;> rfl), bsw_⟩
   rw [if_pos c59] at H
   have c59b0 : ((l0_3.length : Int) == 0) = true := beq_iff_eq.mpr c59
   have c59b1 : ((l0_3.length : Int) != 0) = false := bne_eq_false_iff_eq.mpr c59
   clear c59
   obtain ⟨t137, A60, H⟩ := bd_ H
   by_cases c61 : t137 = true
   · subst c61
     rw [if_pos rfl] at H
     obtain rfl := Option.some.inj H
     go_enter Try.func36, Try.ntmps36
     go_wp2_with (first | ((with_reducible refine gate_dst (N := 1) rfl ?_); refine box_event ?hg (N := 1) ?hd (cs := #[.int .i64 a0_0, .int .i64 a0_1, .int .i64 a0_2, .slice A0_3 l0_3.length c0_3]) (t := 53) ?hr ?_; (case hd => rfl); (case hg => rfl); (case hr => first | (go_simp; done) | (go_simp; rfl)); intro gb128 hg w62 hbox hb; replace BK128 := ak (hbox); replace GW128 := ak ((by rw [hg]; exact bsz_ : w.heap.size ≤ gb128)); replace HB := ak (bst_ hb); replace GE128 := GW128; clear hb hbox hg; obtain ⟨hcz63_0, hcz63_1, hcz63_2, hcz63_3, hfz63_0, hfz63_1, hfz63_2, hfz63_3⟩ := bz4_ BK128) | (go_at_call 44; (with_reducible refine (code_below.calls a0_1 256 true _ A60.out).mono ?_); rintro e w' ⟨rfl, ⟨nd, rfl⟩⟩))
     go_ret
     exact ⟨by first | rfl | (simp [errW_none, errW_some] <;> rfl) | (simp [*, errW_none, errW_some] <;> rfl), bsw_⟩
   replace c61 := Bool.eq_false_iff.mpr c61
   subst c61
   rw [if_neg (show ¬ (false = true) by decide)] at H
   obtain rfl := Option.some.inj H
   go_enter Try.func36, Try.ntmps36
   go_wp2_with (first | ((with_reducible refine gate_dst (N := 1) rfl ?_); refine box_event ?hg (N := 1) ?hd (cs := #[.int .i64 a0_0, .int .i64 a0_1, .int .i64 a0_2, .slice A0_3 l0_3.length c0_3]) (t := 53) ?hr ?_; (case hd => rfl); (case hg => rfl); (case hr => first | (go_simp; done) | (go_simp; rfl)); intro gb128 hg w64 hbox hb; replace BK128 := ak (hbox); replace GW128 := ak ((by rw [hg]; exact bsz_ : w.heap.size ≤ gb128)); replace HB := ak (bst_ hb); replace GE128 := GW128; clear hb hbox hg; obtain ⟨hcz65_0, hcz65_1, hcz65_2, hcz65_3, hfz65_0, hfz65_1, hfz65_2, hfz65_3⟩ := bz4_ BK128) | (go_at_call 44; (with_reducible refine (code_below.calls a0_1 256 false _ A60.out).mono ?_); rintro e w' ⟨rfl, ⟨nd, rfl⟩⟩))
   go_ret
   exact ⟨by first | rfl | (simp [errW_none, errW_some] <;> rfl) | (simp [*, errW_none, errW_some] <;> rfl), bsw_⟩
 rw [if_neg c58] at H
 have c58b0 : (a0_0 == 6) = false := beq_eq_false_iff_ne.mpr c58
 have c58b1 : (a0_0 != 6) = true := bne_iff_ne.mpr c58
 by_cases c68 : a0_0 = 7
 rotate_left
 · rw [if_neg c68] at H
   have c68b0 : (a0_0 == 7) = false := beq_eq_false_iff_ne.mpr c68
   have c68b1 : (a0_0 != 7) = true := bne_iff_ne.mpr c68
   obtain rfl := Option.some.inj H
   go_enter Try.func36, Try.ntmps36
   go_wp2_with (first | ((with_reducible refine gate_dst (N := 1) rfl ?_); refine box_event ?hg (N := 1) ?hd (cs := #[.int .i64 a0_0, .int .i64 a0_1, .int .i64 a0_2, .slice A0_3 l0_3.length c0_3]) (t := 53) ?hr ?_; (case hd => rfl); (case hg => rfl); (case hr => first | (go_simp; done) | (go_simp; rfl)); intro gb128 hg w79 hbox hb; replace BK128 := ak (hbox); replace GW128 := ak ((by rw [hg]; exact bsz_ : w.heap.size ≤ gb128)); replace HB := ak (bst_ hb); replace GE128 := GW128; clear hb hbox hg; obtain ⟨hcz80_0, hcz80_1, hcz80_2, hcz80_3, hfz80_0, hfz80_1, hfz80_2, hfz80_3⟩ := bz4_ BK128))
   go_ret
   exact ⟨by first | rfl | (simp [errW_none, errW_some] <;> rfl) | (simp [*, errW_none, errW_some] <;> rfl), bsw_⟩
 rw [if_pos c68] at H
 have c68b0 : (a0_0 == 7) = true := beq_iff_eq.mpr c68
 have c68b1 : (a0_0 != 7) = false := bne_eq_false_iff_eq.mpr c68
 clear c68
 by_cases c69 : (l0_3.length : Int) = 0
 rotate_left
 · rw [if_neg c69] at H
   have c69b0 : ((l0_3.length : Int) == 0) = false := beq_eq_false_iff_ne.mpr c69
   have c69b1 : ((l0_3.length : Int) != 0) = true := bne_iff_ne.mpr c69
   have c69b2 : ¬ (l0_3 = []) := fun h_ => c69 (by rw [h_]; rfl)
   obtain rfl := Option.some.inj H
   go_enter Try.func36, Try.ntmps36
   go_wp2_with (first | ((with_reducible refine gate_dst (N := 1) rfl ?_); refine box_event ?hg (N := 1) ?hd (cs := #[.int .i64 a0_0, .int .i64 a0_1, .int .i64 a0_2, .slice A0_3 l0_3.length c0_3]) (t := 53) ?hr ?_; (case hd => rfl); (case hg => rfl); (case hr => first | (go_simp; done) | (go_simp; rfl)); intro gb128 hg w77 hbox hb; replace BK128 := ak (hbox); replace GW128 := ak ((by rw [hg]; exact bsz_ : w.heap.size ≤ gb128)); replace HB := ak (bst_ hb); replace GE128 := GW128; clear hb hbox hg; obtain ⟨hcz78_0, hcz78_1, hcz78_2, hcz78_3, hfz78_0, hfz78_1, hfz78_2, hfz78_3⟩ := bz4_ BK128))
   go_ret
   exact ⟨by first | rfl | (simp [errW_none, errW_some] <;> rfl) | (simp [*, errW_none, errW_some] <;> rfl), bsw_⟩
 rw [if_pos c69] at H
 have c69b0 : ((l0_3.length : Int) == 0) = true := beq_iff_eq.mpr c69
 have c69b1 : ((l0_3.length : Int) != 0) = false := bne_eq_false_iff_eq.mpr c69
 clear c69
 obtain ⟨t138, A70, H⟩ := bd_ H
 by_cases c71 : t138 = true
 rotate_left
 · replace c71 := Bool.eq_false_iff.mpr c71
   subst c71
   rw [if_neg (show ¬ (false = true) by decide)] at H
   obtain rfl := Option.some.inj H
   go_enter Try.func36, Try.ntmps36
   go_wp2_with (first | ((with_reducible refine gate_dst (N := 1) rfl ?_); refine box_event ?hg (N := 1) ?hd (cs := #[.int .i64 a0_0, .int .i64 a0_1, .int .i64 a0_2, .slice A0_3 l0_3.length c0_3]) (t := 53) ?hr ?_; (case hd => rfl); (case hg => rfl); (case hr => first | (go_simp; done) | (go_simp; rfl)); intro gb128 hg w75 hbox hb; replace BK128 := ak (hbox); replace GW128 := ak ((by rw [hg]; exact bsz_ : w.heap.size ≤ gb128)); replace HB := ak (bst_ hb); replace GE128 := GW128; clear hb hbox hg; obtain ⟨hcz76_0, hcz76_1, hcz76_2, hcz76_3, hfz76_0, hfz76_1, hfz76_2, hfz76_3⟩ := bz4_ BK128) | (go_at_call 46; (with_reducible refine (code_long.calls a0_1 false _ A70.out).mono ?_); rintro e w' ⟨rfl, ⟨nd, rfl⟩⟩))
   go_ret
   exact ⟨by first | rfl | (simp [errW_none, errW_some] <;> rfl) | (simp [*, errW_none, errW_some] <;> rfl), bsw_⟩
 subst c71
 rw [if_pos rfl] at H
 obtain ⟨t139, A72, H⟩ := bd_ H
 obtain rfl := Option.some.inj H
 go_enter Try.func36, Try.ntmps36
 go_wp2_with (first | ((with_reducible refine gate_dst (N := 1) rfl ?_); refine box_event ?hg (N := 1) ?hd (cs := #[.int .i64 a0_0, .int .i64 a0_1, .int .i64 a0_2, .slice A0_3 l0_3.length c0_3]) (t := 53) ?hr ?_; (case hd => rfl); (case hg => rfl); (case hr => first | (go_simp; done) | (go_simp; rfl)); intro gb128 hg w73 hbox hb; replace BK128 := ak (hbox); replace GW128 := ak ((by rw [hg]; exact bsz_ : w.heap.size ≤ gb128)); replace HB := ak (bst_ hb); replace GE128 := GW128; clear hb hbox hg; obtain ⟨hcz74_0, hcz74_1, hcz74_2, hcz74_3, hfz74_0, hfz74_1, hfz74_2, hfz74_3⟩ := bz4_ BK128) | (go_at_call 46; (with_reducible refine (code_long.calls a0_1 true _ A70.out).mono ?_); rintro e w' ⟨rfl, ⟨nd, rfl⟩⟩) | (go_at_call 46; (with_reducible refine (code_long.calls a0_2 t139 _ A72.out).mono ?_); rintro e w' ⟨rfl, ⟨nd, rfl⟩⟩))
 go_ret
 exact ⟨by first | rfl | (simp [errW_none, errW_some] <;> rfl) | (simp [*, errW_none, errW_some] <;> rfl), bsw_⟩

/-! ### code_Check_1: function 35 -/
def code_Check_1.f (k : Nat) (a0_0 : Int) (a0_1 : Int) (a0_2 : Int) (l0_3 : List (S50)) : Option (Bool) := (code_may.f k a0_0 a0_1 a0_2 l0_3).bind fun t141 => (some (!t141))
theorem code_Check_1.mono : ∀ a0 a1 a2 a3 k, LeO (code_Check_1.f k a0 a1 a2 a3) (code_Check_1.f (k + 1) a0 a1 a2 a3) := by
 intro a0 a1 a2 a3 k
 unfold code_Check_1.f
 repeat' first
  | (with_reducible exact code_may.mono _ _ _ _ _)
  | (with_reducible exact LeO.refl _)
  | (with_reducible exact LeO.none _)
  | (with_reducible refine LeO.ite ?_ ?_)
  | (with_reducible refine LeO.bind ?_ (fun _ => ?_))
  | exact code_may.mono _ _ _ _ _
  | exact LeO.none _
  | refine LeO.ite ?_ ?_
  | refine LeO.bind ?_ (fun _ => ?_)
set_option maxHeartbeats 8000000 in
set_option maxRecDepth 100000 in
theorem code_Check_1.calls (k : Nat) (a0_0 : Int) (a0_1 : Int) (a0_2 : Int) (A0_3 : Option Addr) (c0_3 : Nat) (l0_3 : List (S50)) (r : Bool) (w : World) (hr0_3 : Kd.C k50 w A0_3 l0_3.length l0_3) (hc0_3 : l0_3.length ≤ c0_3) (h : code_Check_1.f k a0_0 a0_1 a0_2 l0_3 = some r) :
 Calls Try.prog 35 #[.agg #[.int .i64 a0_0, .int .i64 a0_1, .int .i64 a0_2, .slice A0_3 l0_3.length c0_3]] w fun e w' => e = .returned (.bool r) ∧ Below w.heap.size w w' := by
 have hu53 := Try.underlying53
 have HR0_3 := ak hr0_3
 have HC0_3 := ak hc0_3
 clear hr0_3 hc0_3
 have HB := ak (Below.refl w.heap.size w)
 have H : ((code_may.f k a0_0 a0_1 a0_2 l0_3).bind fun t141 => (some (!t141))) = some r := h
 clear h
 obtain ⟨t141, A2, H⟩ := bd_ H
 obtain rfl := Option.some.inj H
 go_enter Try.func35, Try.ntmps35
 go_wp2_with (first | ((with_reducible refine gate_dst (N := 1) rfl ?_); refine box_event ?hg (N := 1) ?hd (cs := #[.int .i64 a0_0, .int .i64 a0_1, .int .i64 a0_2, .slice A0_3 l0_3.length c0_3]) (t := 53) ?hr ?_; (case hd => rfl); (case hg => rfl); (case hr => first | (go_simp; done) | (go_simp; rfl)); intro gb140 hg w3 hbox hb; replace BK140 := ak (hbox); replace GW140 := ak ((by rw [hg]; exact bsz_ : w.heap.size ≤ gb140)); replace HB := ak (bst_ hb); replace GE140 := GW140; clear hb hbox hg; obtain ⟨hcz4_0, hcz4_1, hcz4_2, hcz4_3, hfz4_0, hfz4_1, hfz4_2, hfz4_3⟩ := bz4_ BK140) | ((with_reducible refine gate_callee (f := 36) rfl ?_); refine goesL_ (some 4) rfl rfl Try.func36 (by kernel_rfl) rfl #[.agg #[.int .i64 a0_0, .int .i64 a0_1, .int .i64 a0_2, .slice A0_3 l0_3.length c0_3]] rfl mp_ ?_; (with_reducible refine (code_may.calls k a0_0 a0_1 a0_2 _ _ l0_3 t141 _ ?side1 ?side2 A2.out).mono ?_); (case side1 => exact cb_ HR0_3 HB); (case side2 => exact HC0_3.out); rintro e w5 ⟨rfl, hb⟩; refine ⟨_, rfl, ?_⟩; replace BK140 := bb_ BK140 hb; replace HB := ak (below_step bsw_ hb); (try clear hb)))
 go_ret
 exact ⟨by first | rfl | (simp [errW_none, errW_some] <;> rfl) | (simp [*, errW_none, errW_some] <;> rfl), bsw_⟩

end Go.Proofs.Ytpeblomhhofhkaa.H
