-- PRINTED by print.py (a twelfth state) out of the translation. Not trusted: Lean checks it.
import Derived.Test.YtpeblomhhofhkaaHx0
namespace Go.Proofs.Ytpeblomhhofhkaa.H
open Go.Proofs.Ytpeblomhhofhkaa.Ho
open Go.RowKit Go.Proofs.YtpeblomhhofhkaaW.PrintWords Go.Proofs.YtpeblomhhofhkaaW.PrintLast Go.Proofs.YtpeblomhhofhkaaW.PrintMore
attribute [local go_sem] max2_int min2_int max_two min_two max_three min_three max_four min_four   -- for this text's walks alone
set_option linter.unusedVariables false
set_option linter.unusedSimpArgs false

-- NOT PRINTED: function 43 (slices_IndexFunc_43)

-- NOT PRINTED: function 34 (slices_ContainsFunc_34)

/-! ### code_below: function 44 -/
def code_below.f (a0 : Int) (a1 : Int) : Option (Bool) := if a0 ≥ 0 then (some (decide (a0 < a1))) else (some false)
set_option maxHeartbeats 8000000 in
set_option maxRecDepth 100000 in
theorem code_below.calls (a0 : Int) (a1 : Int) (r : Bool) (w : World) (h : code_below.f a0 a1 = some r) :
 Calls Try.prog 44 #[.int .i64 a0, .int .i64 a1] w fun e w' => e = .returned (.bool r) ∧ Drawn0 w w' := by
 have H : (if a0 ≥ 0 then (some (decide (a0 < a1))) else (some false)) = some r := h
 clear h
 by_cases c3 : a0 ≥ 0
 rotate_left
 · rw [if_neg c3] at H
   have c3b0 : decide (0 ≤ a0) = false := decide_eq_false c3
   clear c3
   obtain rfl := Option.some.inj H
   go_enter Try.func44, Try.ntmps44
   go_wp2
   go_ret
   exact ⟨by first | rfl | (simp; done) | (simp [*]; done), by repeat (first | exact Drawn0.refl _ | apply Drawn0.step)⟩
 rw [if_pos c3] at H
 have c3b0 : decide (0 ≤ a0) = true := decide_eq_true c3
 clear c3
 obtain rfl := Option.some.inj H
 go_enter Try.func44, Try.ntmps44
 go_wp2
 go_ret
 exact ⟨by first | rfl | (simp; done) | (simp [*]; done), by repeat (first | exact Drawn0.refl _ | apply Drawn0.step)⟩

-- NOT PRINTED: function 62 (slices_IndexFunc_62)

-- NOT PRINTED: function 55 (slices_ContainsFunc_55)

/-! ### span_Right: function 63 -/
def span_Right.f (a0 : Int) : Option (Bool) := if a0 ≥ (-2147483648) then (some (decide (a0 ≤ 2147483647))) else (some false)
set_option maxHeartbeats 8000000 in
set_option maxRecDepth 100000 in
theorem span_Right.calls (a0 : Int) (r : Bool) (w : World) (h : span_Right.f a0 = some r) :
 Calls Try.prog 63 #[.int .i64 a0] w fun e w' => e = .returned (.bool r) ∧ Drawn0 w w' := by
 have H : (if a0 ≥ (-2147483648) then (some (decide (a0 ≤ 2147483647))) else (some false)) = some r := h
 clear h
 by_cases c2 : a0 ≥ (-2147483648)
 rotate_left
 · rw [if_neg c2] at H
   have c2b0 : decide ((-2147483648) ≤ a0) = false := decide_eq_false c2
   clear c2
   obtain rfl := Option.some.inj H
   go_enter Try.func63, Try.ntmps63
   go_wp2
   go_ret
   exact ⟨by first | rfl | (simp; done) | (simp [*]; done), by repeat (first | exact Drawn0.refl _ | apply Drawn0.step)⟩
 rw [if_pos c2] at H
 have c2b0 : decide ((-2147483648) ≤ a0) = true := decide_eq_true c2
 clear c2
 obtain rfl := Option.some.inj H
 go_enter Try.func63, Try.ntmps63
 go_wp2
 go_ret
 exact ⟨by first | rfl | (simp; done) | (simp [*]; done), by repeat (first | exact Drawn0.refl _ | apply Drawn0.step)⟩

/-! ### term_Op_takes: function 64 -/
def term_Op_takes.j0 : Nat → Bool → Int → Int → Option (Int)
 | 0, _, _, _ => none
 | k + 1, x3, x102000, x102001 => if x3 = true then (some 2) else (if x102000 = 11 then (some 1) else (some 0))
def term_Op_takes.f (k : Nat) (a0_0 : Int) (a0_1 : Int) : Option (Int) := if a0_0 ≥ 4 then (term_Op_takes.j0 k (decide (a0_0 ≤ 10)) a0_0 a0_1) else (term_Op_takes.j0 k false a0_0 a0_1)
theorem term_Op_takes.mono_l : ∀ k, (∀ y0 y1 y2, LeO (term_Op_takes.j0 k y0 y1 y2) (term_Op_takes.j0 (k + 1) y0 y1 y2))
 | 0 => fun _ _ _ r h => by simp [term_Op_takes.j0] at h
 | k + 1 => by
  have ih0 := term_Op_takes.mono_l k
  · intro y0 y1 y2
    unfold term_Op_takes.j0
    repeat' first
    | (with_reducible exact ih0 _ _ _)
    | (with_reducible exact LeO.refl _)
    | (with_reducible exact LeO.none _)
    | (with_reducible refine LeO.ite ?_ ?_)
    | (with_reducible refine LeO.bind ?_ (fun _ => ?_))
    | exact ih0 _ _ _
    | exact LeO.none _
    | refine LeO.ite ?_ ?_
    | refine LeO.bind ?_ (fun _ => ?_)
theorem term_Op_takes.mono : ∀ a0 a1 k, LeO (term_Op_takes.f k a0 a1) (term_Op_takes.f (k + 1) a0 a1) := by
 intro a0 a1 k
 have ih0 := term_Op_takes.mono_l k
 unfold term_Op_takes.f
 repeat' first
  | (with_reducible exact ih0 _ _ _)
  | (with_reducible exact LeO.refl _)
  | (with_reducible exact LeO.none _)
  | (with_reducible refine LeO.ite ?_ ?_)
  | (with_reducible refine LeO.bind ?_ (fun _ => ?_))
  | exact ih0 _ _ _
  | exact LeO.none _
  | refine LeO.ite ?_ ?_
  | refine LeO.bind ?_ (fun _ => ?_)
set_option maxHeartbeats 8000000 in
set_option maxRecDepth 100000 in
theorem term_Op_takes.calls (k : Nat) (a0_0 : Int) (a0_1 : Int) (r : Int) (w : World) (h : term_Op_takes.f k a0_0 a0_1 = some r) :
 Calls Try.prog 64 #[.agg #[.int .i64 a0_0, .int .i64 a0_1]] w fun e w' => e = .returned (.int .i64 r) ∧ Below w.heap.size w w' := by
 have hu50 := Try.underlying50
 have HB := ak (Below.refl w.heap.size w)
 have H : (if a0_0 ≥ 4 then (term_Op_takes.j0 k (decide (a0_0 ≤ 10)) a0_0 a0_1) else (term_Op_takes.j0 k false a0_0 a0_1)) = some r := h
 clear h
 have HC2 := ak H
 clear H
 go_enter Try.func64, Try.ntmps64
 go_upto_region 1 with (first | ((with_reducible refine gate_dst (N := 1) rfl ?_); refine box_event ?hg (N := 1) ?hd (cs := #[.int .i64 a0_0, .int .i64 a0_1]) (t := 50) ?hr ?_; (case hd => rfl); (case hg => rfl); (case hr => first | (go_simp; done) | (go_simp; rfl)); intro gb101 hg w3 hbox hb; replace BK101 := ak (hbox); replace GW101 := ak ((by rw [hg]; exact bsz_ : w.heap.size ≤ gb101)); replace HB := ak (bst_ hb); replace GE101 := GW101; clear hb hbox hg))
 (try simp only [Act.put, List.setIfInBounds_toArray, List.set_cons_zero, List.set_cons_succ])
 go_cut [3] (fun v3 wc => ∃ (kq : Nat) (x3_1 : Bool), v3 = .bool x3_1 ∧ Aside0 (term_Op_takes.j0 kq x3_1 a0_0 a0_1 = some r) ∧ Aside0 (kq ≤ k) ∧ Aside0 (wc.heap[gb101]? = some (.cells #[.int .i64 a0_0, .int .i64 a0_1] 50 (0, 0))) ∧ Aside0 (Below w.heap.size w wc))
 case first =>
  have H := HC2.out
  clear HC2
  by_cases c4 : a0_0 ≥ 4
  rotate_left
  · rw [if_neg c4] at H
    have c4b0 : decide (4 ≤ a0_0) = false := decide_eq_false c4
    clear c4
    (first | rw [c4b0] | (simp only [i64_w, i32_w]; rw [c4b0]) | skip)
    have H' := ak H
    clear H
    obtain ⟨hcz6_0, hcz6_1, hfz6_0, hfz6_1⟩ := bz2_ BK101
    go_wp2
    go_meet
    case rel => exact ⟨_, (false), (by first | rfl | (simp; done) | (simp [*]; done)), H', ⟨by first | omega | exact Nat.le_refl _⟩, ⟨bq_ BK101⟩, ⟨bsw_⟩⟩
  rw [if_pos c4] at H
  have c4b0 : decide (4 ≤ a0_0) = true := decide_eq_true c4
  clear c4
  (first | rw [c4b0] | (simp only [i64_w, i32_w]; rw [c4b0]) | skip)
  have H' := ak H
  clear H
  obtain ⟨hcz5_0, hcz5_1, hfz5_0, hfz5_1⟩ := bz2_ BK101
  go_wp2
  go_meet
  case rel => exact ⟨_, (decide (a0_0 ≤ 10)), (by first | rfl | (simp; done) | (simp [*]; done)), H', ⟨by first | omega | exact Nat.le_refl _⟩, ⟨bq_ BK101⟩, ⟨bsw_⟩⟩
 case rest =>
  clear HC2
  try clear p2
  try clear c4
  try clear c4b0
  try clear c6
  try clear hcz5_0
  try clear hcz5_1
  try clear hcz6_0
  try clear hcz6_1
  try clear hfz5_0
  try clear hfz5_1
  try clear hfz6_0
  try clear hfz6_1
  obtain ⟨kq, x3_1, rfl, HA, HJ1, BK101, HB⟩ := hcut
  cases kq with
  | zero => exact absurd HA.out (by simp [term_Op_takes.j0])
  | succ kj1 =>
   have H := HA.out
   clear HA
   simp only [term_Op_takes.j0] at H
   by_cases c7 : x3_1 = true
   · subst c7
     rw [if_pos rfl] at H
     obtain rfl := Option.some.inj H
     go_wp2
     go_ret
     exact ⟨by first | rfl | (simp [errW_none, errW_some] <;> rfl) | (simp [*, errW_none, errW_some] <;> rfl), bsw_⟩
   replace c7 := Bool.eq_false_iff.mpr c7
   subst c7
   rw [if_neg (show ¬ (false = true) by decide)] at H
   by_cases c8 : a0_0 = 11
   rotate_left
   · rw [if_neg c8] at H
     have c8b0 : (a0_0 == 11) = false := beq_eq_false_iff_ne.mpr c8
     have c8b1 : (a0_0 != 11) = true := bne_iff_ne.mpr c8
     obtain rfl := Option.some.inj H
     obtain ⟨hcz10_0, hcz10_1, hfz10_0, hfz10_1⟩ := bz2_ BK101
     go_wp2
     go_ret
     exact ⟨by first | rfl | (simp [errW_none, errW_some] <;> rfl) | (simp [*, errW_none, errW_some] <;> rfl), bsw_⟩
   rw [if_pos c8] at H
   have c8b0 : (a0_0 == 11) = true := beq_iff_eq.mpr c8
   have c8b1 : (a0_0 != 11) = false := bne_eq_false_iff_eq.mpr c8
   clear c8
   obtain rfl := Option.some.inj H
   obtain ⟨hcz9_0, hcz9_1, hfz9_0, hfz9_1⟩ := bz2_ BK101
   go_wp2
   go_ret
   exact ⟨by first | rfl | (simp [errW_none, errW_some] <;> rfl) | (simp [*, errW_none, errW_some] <;> rfl), bsw_⟩

/-! ### term_Op_may: function 57 -/
def term_Op_may.f (k : Nat) (a0_0 : Int) (a0_1 : Int) : Option (Bool) := if a0_0 = 1 then ((span_Right.f a0_1).bind fun t103 => (some t103)) else (if a0_0 = 2 then (if a0_1 ≥ 0 then (some (decide (a0_1 < 64))) else (some false)) else (if a0_0 = 3 then (if a0_1 ≥ 0 then (some (decide (a0_1 < 8))) else (some false)) else ((term_Op_takes.f k a0_0 a0_1).bind fun t104 => (if t104 > 0 then (some (a0_1 == 0)) else (some false)))))
theorem term_Op_may.mono : ∀ a0 a1 k, LeO (term_Op_may.f k a0 a1) (term_Op_may.f (k + 1) a0 a1) := by
 intro a0 a1 k
 unfold term_Op_may.f
 repeat' first
  | (with_reducible exact term_Op_takes.mono _ _ _)
  | (with_reducible exact LeO.refl _)
  | (with_reducible exact LeO.none _)
  | (with_reducible refine LeO.ite ?_ ?_)
  | (with_reducible refine LeO.bind ?_ (fun _ => ?_))
  | exact term_Op_takes.mono _ _ _
  | exact LeO.none _
  | refine LeO.ite ?_ ?_
  | refine LeO.bind ?_ (fun _ => ?_)
set_option maxHeartbeats 8000000 in
set_option maxRecDepth 100000 in
theorem term_Op_may.calls (k : Nat) (a0_0 : Int) (a0_1 : Int) (r : Bool) (w : World) (h : term_Op_may.f k a0_0 a0_1 = some r) :
 Calls Try.prog 57 #[.agg #[.int .i64 a0_0, .int .i64 a0_1]] w fun e w' => e = .returned (.bool r) ∧ Below w.heap.size w w' := by
 have hu50 := Try.underlying50
 have HB := ak (Below.refl w.heap.size w)
 have H : (if a0_0 = 1 then ((span_Right.f a0_1).bind fun t103 => (some t103)) else (if a0_0 = 2 then (if a0_1 ≥ 0 then (some (decide (a0_1 < 64))) else (some false)) else (if a0_0 = 3 then (if a0_1 ≥ 0 then (some (decide (a0_1 < 8))) else (some false)) else ((term_Op_takes.f k a0_0 a0_1).bind fun t104 => (if t104 > 0 then (some (a0_1 == 0)) else (some false)))))) = some r := h
 clear h
 by_cases c2 : a0_0 = 1
 · rw [if_pos c2] at H
   have c2b0 : (a0_0 == 1) = true := beq_iff_eq.mpr c2
   have c2b1 : (a0_0 != 1) = false := bne_eq_false_iff_eq.mpr c2
   clear c2
   obtain ⟨t103, A3, H⟩ := bd_ H
   obtain rfl := Option.some.inj H
   go_enter Try.func57, Try.ntmps57
   go_wp2_with (first | ((with_reducible refine gate_dst (N := 1) rfl ?_); refine box_event ?hg (N := 1) ?hd (cs := #[.int .i64 a0_0, .int .i64 a0_1]) (t := 50) ?hr ?_; (case hd => rfl); (case hg => rfl); (case hr => first | (go_simp; done) | (go_simp; rfl)); intro gb102 hg w4 hbox hb; replace BK102 := ak (hbox); replace GW102 := ak ((by rw [hg]; exact bsz_ : w.heap.size ≤ gb102)); replace HB := ak (bst_ hb); replace GE102 := GW102; clear hb hbox hg; obtain ⟨hcz5_0, hcz5_1, hfz5_0, hfz5_1⟩ := bz2_ BK102) | ((with_reducible refine gate_callee (f := 63) rfl ?_); refine goesL_ (some 9) rfl rfl Try.func63 (by kernel_rfl) rfl #[.int .i64 a0_1] rfl mp_ ?_; (with_reducible refine (span_Right.calls a0_1 t103 _ A3.out).mono ?_); rintro e w' ⟨rfl, ⟨nd, rfl⟩⟩; refine ⟨_, rfl, ?_⟩))
   go_ret
   exact ⟨by first | rfl | (simp [errW_none, errW_some] <;> rfl) | (simp [*, errW_none, errW_some] <;> rfl), bsw_⟩
 rw [if_neg c2] at H
 have c2b0 : (a0_0 == 1) = false := beq_eq_false_iff_ne.mpr c2
 have c2b1 : (a0_0 != 1) = true := bne_iff_ne.mpr c2
 by_cases c6 : a0_0 = 2
 · rw [if_pos c6] at H
   have c6b0 : (a0_0 == 2) = true := beq_iff_eq.mpr c6
   have c6b1 : (a0_0 != 2) = false := bne_eq_false_iff_eq.mpr c6
   clear c6
   by_cases c7 : a0_1 ≥ 0
   rotate_left
   · rw [if_neg c7] at H
     have c7b0 : decide (0 ≤ a0_1) = false := decide_eq_false c7
     clear c7
     obtain rfl := Option.some.inj H
     go_enter Try.func57, Try.ntmps57
     go_wp2_with (first | ((with_reducible refine gate_dst (N := 1) rfl ?_); refine box_event ?hg (N := 1) ?hd (cs := #[.int .i64 a0_0, .int .i64 a0_1]) (t := 50) ?hr ?_; (case hd => rfl); (case hg => rfl); (case hr => first | (go_simp; done) | (go_simp; rfl)); intro gb102 hg w10 hbox hb; replace BK102 := ak (hbox); replace GW102 := ak ((by rw [hg]; exact bsz_ : w.heap.size ≤ gb102)); replace HB := ak (bst_ hb); replace GE102 := GW102; clear hb hbox hg; obtain ⟨hcz11_0, hcz11_1, hfz11_0, hfz11_1⟩ := bz2_ BK102))
     go_ret
     exact ⟨by first | rfl | (simp [errW_none, errW_some] <;> rfl) | (simp [*, errW_none, errW_some] <;> rfl), bsw_⟩
   rw [if_pos c7] at H
   have c7b0 : decide (0 ≤ a0_1) = true := decide_eq_true c7
   clear c7
   obtain rfl := Option.some.inj H
   go_enter Try.func57, Try.ntmps57
   go_wp2_with (first | ((with_reducible refine gate_dst (N := 1) rfl ?_); refine box_event ?hg (N := 1) ?hd (cs := #[.int .i64 a0_0, .int .i64 a0_1]) (t := 50) ?hr ?_; (case hd => rfl); (case hg => rfl); (case hr => first | (go_simp; done) | (go_simp; rfl)); intro gb102 hg w8 hbox hb; replace BK102 := ak (hbox); replace GW102 := ak ((by rw [hg]; exact bsz_ : w.heap.size ≤ gb102)); replace HB := ak (bst_ hb); replace GE102 := GW102; clear hb hbox hg; obtain ⟨hcz9_0, hcz9_1, hfz9_0, hfz9_1⟩ := bz2_ BK102))
   go_ret
   exact ⟨by first | rfl | (simp [errW_none, errW_some] <;> rfl) | (simp [*, errW_none, errW_some] <;> rfl), bsw_⟩
 rw [if_neg c6] at H
 have c6b0 : (a0_0 == 2) = false := beq_eq_false_iff_ne.mpr c6
 have c6b1 : (a0_0 != 2) = true := bne_iff_ne.mpr c6
 by_cases c12 : a0_0 = 3
 rotate_left
 · rw [if_neg c12] at H
   have c12b0 : (a0_0 == 3) = false := beq_eq_false_iff_ne.mpr c12
   have c12b1 : (a0_0 != 3) = true := bne_iff_ne.mpr c12
   obtain ⟨t104, A18, H⟩ := bd_ H
   by_cases c19 : t104 > 0
   rotate_left
   · rw [if_neg c19] at H
     have c19b0 : decide (0 < t104) = false := decide_eq_false c19
     clear c19
     obtain rfl := Option.some.inj H
     go_enter Try.func57, Try.ntmps57
     go_wp2_with (first | ((with_reducible refine gate_dst (N := 1) rfl ?_); refine box_event ?hg (N := 1) ?hd (cs := #[.int .i64 a0_0, .int .i64 a0_1]) (t := 50) ?hr ?_; (case hd => rfl); (case hg => rfl); (case hr => first | (go_simp; done) | (go_simp; rfl)); intro gb102 hg w24 hbox hb; replace BK102 := ak (hbox); replace GW102 := ak ((by rw [hg]; exact bsz_ : w.heap.size ≤ gb102)); replace HB := ak (bst_ hb); replace GE102 := GW102; clear hb hbox hg; obtain ⟨hcz25_0, hcz25_1, hfz25_0, hfz25_1⟩ := bz2_ BK102) | ((with_reducible refine gate_callee (f := 64) rfl ?_); refine goesL_ (some 31) rfl rfl Try.func64 (by kernel_rfl) rfl #[.agg #[.int .i64 a0_0, .int .i64 a0_1]] rfl mp_ ?_; (with_reducible refine (term_Op_takes.calls k a0_0 a0_1 t104 _ A18.out).mono ?_); rintro e w26 ⟨rfl, hb⟩; refine ⟨_, rfl, ?_⟩; replace BK102 := bb_ BK102 hb; replace HB := ak (below_step bsw_ hb); (try clear hb)))
     go_ret
     exact ⟨by first | rfl | (simp [errW_none, errW_some] <;> rfl) | (simp [*, errW_none, errW_some] <;> rfl), bsw_⟩
   rw [if_pos c19] at H
   have c19b0 : decide (0 < t104) = true := decide_eq_true c19
   clear c19
   obtain rfl := Option.some.inj H
   go_enter Try.func57, Try.ntmps57
   go_wp2_with (first | ((with_reducible refine gate_dst (N := 1) rfl ?_); refine box_event ?hg (N := 1) ?hd (cs := #[.int .i64 a0_0, .int .i64 a0_1]) (t := 50) ?hr ?_; (case hd => rfl); (case hg => rfl); (case hr => first | (go_simp; done) | (go_simp; rfl)); intro gb102 hg w20 hbox hb; replace BK102 := ak (hbox); replace GW102 := ak ((by rw [hg]; exact bsz_ : w.heap.size ≤ gb102)); replace HB := ak (bst_ hb); replace GE102 := GW102; clear hb hbox hg; obtain ⟨hcz21_0, hcz21_1, hfz21_0, hfz21_1⟩ := bz2_ BK102) | ((with_reducible refine gate_callee (f := 64) rfl ?_); refine goesL_ (some 31) rfl rfl Try.func64 (by kernel_rfl) rfl #[.agg #[.int .i64 a0_0, .int .i64 a0_1]] rfl mp_ ?_; (with_reducible refine (term_Op_takes.calls k a0_0 a0_1 t104 _ A18.out).mono ?_); rintro e w22 ⟨rfl, hb⟩; refine ⟨_, rfl, ?_⟩; replace BK102 := bb_ BK102 hb; replace HB := ak (below_step bsw_ hb); (try clear hb); obtain ⟨hcz23_0, hcz23_1, hfz23_0, hfz23_1⟩ := bz2_ BK102))
   go_ret
   exact ⟨by first | rfl | (simp [errW_none, errW_some] <;> rfl) | (simp [*, errW_none, errW_some] <;> rfl), bsw_⟩
 rw [if_pos c12] at H
 have c12b0 : (a0_0 == 3) = true := beq_iff_eq.mpr c12
 have c12b1 : (a0_0 != 3) = false := bne_eq_false_iff_eq.mpr c12
 clear c12
 by_cases c13 : a0_1 ≥ 0
 rotate_left
 · rw [if_neg c13] at H
   have c13b0 : decide (0 ≤ a0_1) = false := decide_eq_false c13
   clear c13
   obtain rfl := Option.some.inj H
   go_enter Try.func57, Try.ntmps57
   go_wp2_with (first | ((with_reducible refine gate_dst (N := 1) rfl ?_); refine box_event ?hg (N := 1) ?hd (cs := #[.int .i64 a0_0, .int .i64 a0_1]) (t := 50) ?hr ?_; (case hd => rfl); (case hg => rfl); (case hr => first | (go_simp; done) | (go_simp; rfl)); intro gb102 hg w16 hbox hb; replace BK102 := ak (hbox); replace GW102 := ak ((by rw [hg]; exact bsz_ : w.heap.size ≤ gb102)); replace HB := ak (bst_ hb); replace GE102 := GW102; clear hb hbox hg; obtain ⟨hcz17_0, hcz17_1, hfz17_0, hfz17_1⟩ := bz2_ BK102))
   go_ret
   exact ⟨by first | rfl | (simp [errW_none, errW_some] <;> rfl) | (simp [*, errW_none, errW_some] <;> rfl), bsw_⟩
 rw [if_pos c13] at H
 have c13b0 : decide (0 ≤ a0_1) = true := decide_eq_true c13
 clear c13
 obtain rfl := Option.some.inj H
 go_enter Try.func57, Try.ntmps57
 go_wp2_with (first | ((with_reducible refine gate_dst (N := 1) rfl ?_); refine box_event ?hg (N := 1) ?hd (cs := #[.int .i64 a0_0, .int .i64 a0_1]) (t := 50) ?hr ?_; (case hd => rfl); (case hg => rfl); (case hr => first | (go_simp; done) | (go_simp; rfl)); intro gb102 hg w14 hbox hb; replace BK102 := ak (hbox); replace GW102 := ak ((by rw [hg]; exact bsz_ : w.heap.size ≤ gb102)); replace HB := ak (bst_ hb); replace GE102 := GW102; clear hb hbox hg; obtain ⟨hcz15_0, hcz15_1, hfz15_0, hfz15_1⟩ := bz2_ BK102))
 go_ret
 exact ⟨by first | rfl | (simp [errW_none, errW_some] <;> rfl) | (simp [*, errW_none, errW_some] <;> rfl), bsw_⟩

/-! ### term_Check_1: function 56 -/
def term_Check_1.f (k : Nat) (a0_0 : Int) (a0_1 : Int) : Option (Bool) := (term_Op_may.f k a0_0 a0_1).bind fun t106 => (some (!t106))
theorem term_Check_1.mono : ∀ a0 a1 k, LeO (term_Check_1.f k a0 a1) (term_Check_1.f (k + 1) a0 a1) := by
 intro a0 a1 k
 unfold term_Check_1.f
 repeat' first
  | (with_reducible exact term_Op_may.mono _ _ _)
  | (with_reducible exact LeO.refl _)
  | (with_reducible exact LeO.none _)
  | (with_reducible refine LeO.ite ?_ ?_)
  | (with_reducible refine LeO.bind ?_ (fun _ => ?_))
  | exact term_Op_may.mono _ _ _
  | exact LeO.none _
  | refine LeO.ite ?_ ?_
  | refine LeO.bind ?_ (fun _ => ?_)
set_option maxHeartbeats 8000000 in
set_option maxRecDepth 100000 in
theorem term_Check_1.calls (k : Nat) (a0_0 : Int) (a0_1 : Int) (r : Bool) (w : World) (h : term_Check_1.f k a0_0 a0_1 = some r) :
 Calls Try.prog 56 #[.agg #[.int .i64 a0_0, .int .i64 a0_1]] w fun e w' => e = .returned (.bool r) ∧ Below w.heap.size w w' := by
 have hu50 := Try.underlying50
 have HB := ak (Below.refl w.heap.size w)
 have H : ((term_Op_may.f k a0_0 a0_1).bind fun t106 => (some (!t106))) = some r := h
 clear h
 obtain ⟨t106, A2, H⟩ := bd_ H
 obtain rfl := Option.some.inj H
 go_enter Try.func56, Try.ntmps56
 go_wp2_with (first | ((with_reducible refine gate_dst (N := 1) rfl ?_); refine box_event ?hg (N := 1) ?hd (cs := #[.int .i64 a0_0, .int .i64 a0_1]) (t := 50) ?hr ?_; (case hd => rfl); (case hg => rfl); (case hr => first | (go_simp; done) | (go_simp; rfl)); intro gb105 hg w3 hbox hb; replace BK105 := ak (hbox); replace GW105 := ak ((by rw [hg]; exact bsz_ : w.heap.size ≤ gb105)); replace HB := ak (bst_ hb); replace GE105 := GW105; clear hb hbox hg; obtain ⟨hcz4_0, hcz4_1, hfz4_0, hfz4_1⟩ := bz2_ BK105) | ((with_reducible refine gate_callee (f := 57) rfl ?_); refine goesL_ (some 4) rfl rfl Try.func57 (by kernel_rfl) rfl #[.agg #[.int .i64 a0_0, .int .i64 a0_1]] rfl mp_ ?_; (with_reducible refine (term_Op_may.calls k a0_0 a0_1 t106 _ A2.out).mono ?_); rintro e w5 ⟨rfl, hb⟩; refine ⟨_, rfl, ?_⟩; replace BK105 := bb_ BK105 hb; replace HB := ak (below_step bsw_ hb); (try clear hb)))
 go_ret
 exact ⟨by first | rfl | (simp [errW_none, errW_some] <;> rfl) | (simp [*, errW_none, errW_some] <;> rfl), bsw_⟩

/-! ### term_walk: function 58 -/
def term_walk.l0 : Nat → Int → Int → List (S50) → Int → Int → Option (Int × Int)
 | 0, _, _, _, _, _ => none
 | k + 1, x4, x5, x8, x9, x10 => if x10 < x9 then (if 0 ≤ x10 then (if x10 < (x8.length : Int) then ((term_Op_takes.f k ((rd_T50 x8 x10).f0) ((rd_T50 x8 x10).f1)).bind fun t109 => (if x4 < t109 then (some ((-1), 0)) else ((term_Op_takes.f k ((rd_T50 x8 x10).f0) ((rd_T50 x8 x10).f1)).bind fun t110 => (term_walk.l0 k (wrap64 (x4 + (wrap64 (1 - t110)))) (mx x5 (wrap64 (x4 + (wrap64 (1 - t110))))) x8 x9 (wrap64 (x10 + 1)))))) else (none)) else (none)) else (some (x4, x5))
def term_walk.f (k : Nat) (l0 : List (S50)) : Option (Int × Int) := term_walk.l0 k 0 0 l0 (l0.length : Int) 0
theorem term_walk.mono_l : ∀ k, (∀ y0 y1 y2 y3 y4, LeO (term_walk.l0 k y0 y1 y2 y3 y4) (term_walk.l0 (k + 1) y0 y1 y2 y3 y4))
 | 0 => fun _ _ _ _ _ r h => by simp [term_walk.l0] at h
 | k + 1 => by
  have ih0 := term_walk.mono_l k
  · intro y0 y1 y2 y3 y4
    unfold term_walk.l0
    repeat' first
    | (with_reducible exact ih0 _ _ _ _ _)
    | (with_reducible exact term_Op_takes.mono _ _ _)
    | (with_reducible exact LeO.refl _)
    | (with_reducible exact LeO.none _)
    | (with_reducible refine LeO.ite ?_ ?_)
    | (with_reducible refine LeO.bind ?_ (fun _ => ?_))
    | exact ih0 _ _ _ _ _
    | exact term_Op_takes.mono _ _ _
    | exact LeO.none _
    | refine LeO.ite ?_ ?_
    | refine LeO.bind ?_ (fun _ => ?_)
theorem term_walk.mono : ∀ a0 k, LeO (term_walk.f k a0) (term_walk.f (k + 1) a0) := by
 intro a0 k
 have ih0 := term_walk.mono_l k
 unfold term_walk.f
 repeat' first
  | (with_reducible exact ih0 _ _ _ _ _)
  | (with_reducible exact term_Op_takes.mono _ _ _)
  | (with_reducible exact LeO.refl _)
  | (with_reducible exact LeO.none _)
  | (with_reducible refine LeO.ite ?_ ?_)
  | (with_reducible refine LeO.bind ?_ (fun _ => ?_))
  | exact ih0 _ _ _ _ _
  | exact term_Op_takes.mono _ _ _
  | exact LeO.none _
  | refine LeO.ite ?_ ?_
  | refine LeO.bind ?_ (fun _ => ?_)
set_option maxHeartbeats 8000000 in
set_option maxRecDepth 100000 in
theorem term_walk.calls (k : Nat) (A0 : Option Addr) (c0 : Nat) (l0 : List (S50)) (r1 : Int) (r2 : Int) (w : World) (hr0 : Kd.C k50 w A0 l0.length l0) (hc0 : l0.length ≤ c0) (h : term_walk.f k l0 = some (r1, r2)) :
 Calls Try.prog 58 #[.slice A0 l0.length c0] w fun e w' => e = .returned (.tuple #[.int .i64 r1, .int .i64 r2]) ∧ Below w.heap.size w w' := by
 have hu50 := Try.underlying50
 have HR0 := ak hr0
 have HC0 := ak hc0
 clear hr0 hc0
 have HB := ak (Below.refl w.heap.size w)
 have H : (term_walk.l0 k 0 0 l0 (l0.length : Int) 0) = some (r1, r2) := h
 clear h
 have H' := ak H
 clear H
 go_enter Try.func58, Try.ntmps58
 go_wp2
 go_loopg [4, 5, 10] k (fun kq v4 v5 v10 w' => ∃ (x4_1 : Int) (x5_1 : Int) (x10_1 : Int), v4 = .int .i64 x4_1 ∧ v5 = .int .i64 x5_1 ∧ v10 = .int .i64 x10_1 ∧ Aside0 (term_walk.l0 kq x4_1 x5_1 l0 (l0.length : Int) x10_1 = some (r1, r2)) ∧ Aside0 (kq ≤ k) ∧ Aside0 (Below w.heap.size w w'))
 case atStart => exact ⟨(0), (0), (0), (by first | rfl | (simp; done) | (simp [*]; done)), (by first | rfl | (simp; done) | (simp [*]; done)), (by first | rfl | (simp; done) | (simp [*]; done)), H', ⟨Nat.le_refl _⟩, ⟨bsv_⟩⟩
 case round =>
  clear H'
  obtain ⟨x4_1, x5_1, x10_1, rfl, rfl, rfl, HA, HK1, HB⟩ := hrel
  cases gk with
  | zero => exact absurd HA.out (by simp [term_walk.l0])
  | succ k1 =>
   have H := HA.out
   clear HA
   simp only [term_walk.l0] at H
   by_cases c2 : x10_1 < (l0.length : Int)
   rotate_left
   · rw [if_neg c2] at H
     have c2b0 : decide (x10_1 < (l0.length : Int)) = false := decide_eq_false c2
     clear c2
     simp only [Option.some.injEq, Prod.mk.injEq] at H
     obtain ⟨rfl, rfl⟩ := H
     go_wp2
     go_ret2
     exact ⟨by first | rfl | (simp [errW_none, errW_some] <;> rfl) | (simp [*, errW_none, errW_some] <;> rfl), bsv_⟩
   rw [if_pos c2] at H
   have c2b0 : decide (x10_1 < (l0.length : Int)) = true := decide_eq_true c2
   clear c2
   by_cases c3 : 0 ≤ x10_1
   rotate_left
   · rw [if_neg c3] at H
     exact absurd H (by simp)
   rw [if_pos c3] at H
   have c3b0 : decide (0 ≤ x10_1) = true := decide_eq_true c3
   clear c3
   by_cases c4 : x10_1 < (l0.length : Int)
   rotate_left
   · rw [if_neg c4] at H
     exact absurd H (by simp)
   rw [if_pos c4] at H
   have c4b0 : decide (x10_1 < (l0.length : Int)) = true := decide_eq_true c4
   clear c4
   obtain ⟨t109, A5, H⟩ := bd_ H
   by_cases c6 : x4_1 < t109
   · rw [if_pos c6] at H
     have c6b0 : decide (x4_1 < t109) = true := decide_eq_true c6
     clear c6
     simp only [Option.some.injEq, Prod.mk.injEq] at H
     obtain ⟨rfl, rfl⟩ := H
     have p107 : 0 ≤ (x10_1 : Int) := oda_
     have q107 : x10_1 < (l0.length : Int) := oda_
     obtain ⟨ad107, e107, hx107_0, hx107_1⟩ := at_T50 HR0.out x10_1 p107 q107
     cases e107
     replace hx107_0 := bl_ HB hx107_0
     replace hx107_1 := bl_ HB hx107_1
     replace p107 := eq_true p107
     replace q107 := eq_true q107
     go_wp2_with (first | ((with_reducible refine gate_dst (N := 7) rfl ?_); refine box_event ?hg (N := 7) ?hd (cs := #[.int .i64 0, .int .i64 0]) (t := 50) ?hr ?_; (case hd => rfl); (case hg => rfl); (case hr => first | (go_simp; done) | (go_simp; rfl)); intro gb108 hg w7 hbox hb; replace BK108 := ak (hbox); replace GW108 := ak ((by rw [hg]; exact bsz_ : w.heap.size ≤ gb108)); replace HB := ak (bst_ hb); replace GE108 := GW108; clear hb hbox hg; obtain ⟨hcz8_0, hcz8_1, hfz8_0, hfz8_1⟩ := bz2_ BK108) | ((with_reducible refine gate_callee (f := 64) rfl ?_); refine goesL_ (some 16) rfl rfl Try.func64 (by kernel_rfl) rfl #[.agg #[.int .i64 ((rd_T50 l0 x10_1).f0), .int .i64 ((rd_T50 l0 x10_1).f1)]] rfl mp_ ?_; (with_reducible refine (term_Op_takes.calls k1 ((rd_T50 l0 x10_1).f0) ((rd_T50 l0 x10_1).f1) t109 _ A5.out).mono ?_); rintro e w9 ⟨rfl, hb⟩; refine ⟨_, rfl, ?_⟩; replace BK108 := ak (blk_below (g := gb108) (o := .cells #[.int .i64 ((rd_T50 l0 x10_1).f0), .int .i64 ((rd_T50 l0 x10_1).f1)] 50 (0, 0)) (by (with_reducible repeat (first | refine blk_drewN ?_ _ | refine blk_drew ?_ | refine blk_alloc ?_ _)); refine blk_put (cs := #[.int .i64 ((rd_T50 l0 x10_1).f0), .int .i64 0]) ?_ 1 _ rfl; (with_reducible repeat (first | refine blk_drewN ?_ _ | refine blk_drew ?_ | refine blk_alloc ?_ _)); refine blk_put (cs := #[.int .i64 0, .int .i64 0]) ?_ 0 _ rfl; (with_reducible repeat (first | refine blk_drewN ?_ _ | refine blk_drew ?_ | refine blk_alloc ?_ _)); exact BK108.out) hb); replace HB := ak (below_step bsw_ hb); (try clear hb)))
     go_ret2
     exact ⟨by first | rfl | (simp [errW_none, errW_some] <;> rfl) | (simp [*, errW_none, errW_some] <;> rfl), bsw_⟩
   rw [if_neg c6] at H
   have c6b0 : decide (x4_1 < t109) = false := decide_eq_false c6
   clear c6
   obtain ⟨t110, A10, H⟩ := bd_ H
   obtain ⟨ji11, hji11⟩ : ∃ j_ : Int, (mx x5_1 (wrap64 (x4_1 + (wrap64 (1 - t110))))) = j_ := ⟨_, rfl⟩
   replace H : (term_walk.l0 k1 (wrap64 (x4_1 + (wrap64 (1 - t110)))) ji11 l0 (l0.length : Int) (wrap64 (x10_1 + 1))) = some (r1, r2) := by first | (rw [hji11] at H; exact H) | (simp only [hji11] at H ⊢; exact H)
   (try rw [hji11] at A5)
   (try rw [hji11] at A10)
   have hji11_ : (if x5_1 < (wrap64 (x4_1 + (wrap64 (1 - t110)))) then (wrap64 (x4_1 + (wrap64 (1 - t110)))) else x5_1) = ji11 := hji11
   have H' := ak H
   clear H
   have p107 : 0 ≤ (x10_1 : Int) := oda_
   have q107 : x10_1 < (l0.length : Int) := oda_
   obtain ⟨ad107, e107, hx107_0, hx107_1⟩ := at_T50 HR0.out x10_1 p107 q107
   cases e107
   replace hx107_0 := bl_ HB hx107_0
   replace hx107_1 := bl_ HB hx107_1
   replace p107 := eq_true p107
   replace q107 := eq_true q107
   go_wp2_with (first | ((with_reducible refine gate_dst (N := 7) rfl ?_); refine box_event ?hg (N := 7) ?hd (cs := #[.int .i64 0, .int .i64 0]) (t := 50) ?hr ?_; (case hd => rfl); (case hg => rfl); (case hr => first | (go_simp; done) | (go_simp; rfl)); intro gb108 hg w12 hbox hb; replace BK108 := ak (hbox); replace GW108 := ak ((by rw [hg]; exact bsz_ : w.heap.size ≤ gb108)); replace HB := ak (bst_ hb); replace GE108 := GW108; clear hb hbox hg; obtain ⟨hcz13_0, hcz13_1, hfz13_0, hfz13_1⟩ := bz2_ BK108) | ((with_reducible refine gate_callee (f := 64) rfl ?_); refine goesL_ (some 16) rfl rfl Try.func64 (by kernel_rfl) rfl #[.agg #[.int .i64 ((rd_T50 l0 x10_1).f0), .int .i64 ((rd_T50 l0 x10_1).f1)]] rfl mp_ ?_; (with_reducible refine (term_Op_takes.calls k1 ((rd_T50 l0 x10_1).f0) ((rd_T50 l0 x10_1).f1) t109 _ A5.out).mono ?_); rintro e w14 ⟨rfl, hb⟩; refine ⟨_, rfl, ?_⟩; replace BK108 := ak (blk_below (g := gb108) (o := .cells #[.int .i64 ((rd_T50 l0 x10_1).f0), .int .i64 ((rd_T50 l0 x10_1).f1)] 50 (0, 0)) (by (with_reducible repeat (first | refine blk_drewN ?_ _ | refine blk_drew ?_ | refine blk_alloc ?_ _)); refine blk_put (cs := #[.int .i64 ((rd_T50 l0 x10_1).f0), .int .i64 0]) ?_ 1 _ rfl; (with_reducible repeat (first | refine blk_drewN ?_ _ | refine blk_drew ?_ | refine blk_alloc ?_ _)); refine blk_put (cs := #[.int .i64 0, .int .i64 0]) ?_ 0 _ rfl; (with_reducible repeat (first | refine blk_drewN ?_ _ | refine blk_drew ?_ | refine blk_alloc ?_ _)); exact BK108.out) hb); replace HB := ak (below_step bsw_ hb); (try clear hb); obtain ⟨hcz15_0, hcz15_1, hfz15_0, hfz15_1⟩ := bz2_ BK108) | ((with_reducible refine gate_callee (f := 64) rfl ?_); refine goesL_ (some 20) rfl rfl Try.func64 (by kernel_rfl) rfl #[.agg #[.int .i64 ((rd_T50 l0 x10_1).f0), .int .i64 ((rd_T50 l0 x10_1).f1)]] rfl mp_ ?_; (with_reducible refine (term_Op_takes.calls k1 ((rd_T50 l0 x10_1).f0) ((rd_T50 l0 x10_1).f1) t110 _ A10.out).mono ?_); rintro e w16 ⟨rfl, hb⟩; refine ⟨_, rfl, ?_⟩; replace BK108 := bb_ BK108 hb; replace HB := ak (below_step bsw_ hb); (try clear hb)))
   go_roundg k1
   case measure => have := HK1.out; omega
   case rel => exact ⟨(wrap64 (x4_1 + (wrap64 (1 - t110)))), (ji11), (wrap64 (x10_1 + 1)), (by first | rfl | (simp; done) | (simp [*]; done)), (by first | rfl | (simp; done) | (simp only [← hji11] <;> (first | rfl | simp)) | (simp [*]; done)), (by first | rfl | (simp; done) | (simp [*]; done)), H', ⟨by have := HK1.out; omega⟩, ⟨bsw_⟩⟩

/-! ### ho62: slices.IndexFunc, function 62, at whatever function value that reads -/
set_option maxHeartbeats 2000000 in
theorem ho62 (p : S50 → Option Bool) (g : Nat) (la lb : Array Value) (eg : ∀ args w, (callFunc g args).run Try.prog w = .ok (.enter g args) w) (A0 : Option Addr) (c0 : Nat) (l0 : List S50) (r : Int) (w : World)
 (hr0 : Kd.C k50 w A0 l0.length l0)
 (hp : ∀ (W : World) (x : S50) (b : Bool), Below w.heap.size w W → p x = some b → Calls Try.prog g (la ++ #[.agg #[.int .i64 x.f0, .int .i64 x.f1]] ++ lb) W fun e W' => e = .returned (.bool b) ∧ Below W.heap.size W W')
 (h : idxF p l0 0 = some r) :
 Calls Try.prog 62 #[.slice A0 l0.length c0, .func (.func g) la lb] w fun e w' => e = .returned (.int .i64 r) ∧ Below w.heap.size w w' := by
 have hmax : l0.length ≤ 9223372036854775807 := Kd.C_max hr0
 have hread : ∀ (W : World), Below w.heap.size w W → ∀ j : Nat, j < l0.length → ∃ ad, A0 = some ad ∧ W.cell? (ad.add (j * 2)) = some (.int .i64 ((rd_T50 l0 j).f0)) ∧ W.cell? ⟨(ad.add (j * 2)).block, (ad.add (j * 2)).off + 1, none⟩ = some (.int .i64 ((rd_T50 l0 j).f1)) := by
  intro W hW j hj
  have := at_T50 (Kd.C_below hr0 hW) (j : Int) (by omega) (by omega)
  simpa only [Int.toNat_natCast] using this
 generalize hn : l0.length = n at *
 have HR := ak hread
 have HP := ak hp
 have HH := ak h
 clear hread hp h hr0
 have HN := ak hn
 clear hn
 go_enter Try.func62, Try.ntmps62
 go_wp2
 go_loopg [5, 8] n (fun gg _ s8 wr => ∃ kk : Nat, kk ≤ n ∧ n - kk ≤ gg ∧ s8 = .int .i64 kk ∧ Aside0 (Below w.heap.size w wr) ∧ Aside0 (idxF p (l0.drop kk) kk = some r))
 case atStart => exact ⟨0, Nat.zero_le _, by omega, rfl, ⟨Below.refl _ w⟩, ⟨HH.out⟩⟩
 case round =>
  obtain ⟨kk, hkk, hg, rfl, BW, HI⟩ := hrel
  by_cases hlt : kk < n
  rotate_left
  · have hltz : ¬ (kk : Int) < (n : Int) := by omega
    have : kk = n := by omega
    subst this
    have hi := HI.out
    rw [List.drop_of_length_le (by rw [HN.out]; omega)] at hi
    have hi2 : -1 = r := by simpa [idxF] using hi
    clear hi HI
    have HE := ak hi2
    clear hi2
    go_wp2
    go_ret
    exact ⟨by first | rfl | (rw [← HE.out]; rfl) | simp [HE.out], BW.out⟩
  have hltz : (kk : Int) < (n : Int) := by omega
  obtain ⟨ad, e0, q0, q1⟩ := HR.out wr BW.out kk hlt
  have hi := HI.out
  rw [idxF_drop p l0 z50 kk (by rw [HN.out]; exact hlt)] at hi
  obtain ⟨b, hb, hi⟩ := Option.bind_eq_some_iff.mp hi
  have hcall := HP.out wr _ b BW.out hb
  (try rw [show l0.getD kk z50 = rd_T50 l0 kk from rfl] at hcall)
  generalize rd_T50 l0 kk = y at q0 q1 hcall
  subst e0
  clear hb HI
  cases b with
  | true =>
   have hi2 : (kk : Int) = r := by simpa using hi
   clear hi
   have HE := ak hi2
   clear hi2
   go_wp2_with (go_at_fn g; refine hcall.mono ?_; rintro e w' ⟨rfl, hb'⟩)
   go_ret
   exact ⟨by first | rfl | (rw [← HE.out]; rfl) | simp [HE.out], BW.out.trans (hb'.mono BW.out.size)⟩
  | false =>
   have hi2 : idxF p (l0.drop (kk + 1)) (kk + 1) = some r := by simpa using hi
   clear hi
   have HE := ak hi2
   clear hi2
   go_wp2_with (go_at_fn g; refine hcall.mono ?_; rintro e w' ⟨rfl, hb'⟩)
   go_roundg (n - (kk + 1))
   case measure => omega
   case rel =>
    exact ⟨kk + 1, by omega, by omega, by go_num, ⟨BW.out.trans (hb'.mono BW.out.size)⟩, ⟨HE.out⟩⟩

/-! ### ho55: slices.ContainsFunc, function 55 -/
set_option maxHeartbeats 2000000 in
theorem ho55 (p : S50 → Option Bool) (g : Nat) (la lb : Array Value) (eg : ∀ args w, (callFunc g args).run Try.prog w = .ok (.enter g args) w) (A0 : Option Addr) (c0 : Nat) (l0 : List S50) (r : Bool) (w : World)
 (hr0 : Kd.C k50 w A0 l0.length l0)
 (hp : ∀ (W : World) (x : S50) (b : Bool), Below w.heap.size w W → p x = some b → Calls Try.prog g (la ++ #[.agg #[.int .i64 x.f0, .int .i64 x.f1]] ++ lb) W fun e W' => e = .returned (.bool b) ∧ Below W.heap.size W W')
 (h : anyF p l0 = some r) :
 Calls Try.prog 55 #[.slice A0 l0.length c0, .func (.func g) la lb] w fun e w' => e = .returned (.bool r) ∧ Below w.heap.size w w' := by
 obtain ⟨i, hi, hd⟩ := any_idx l0 0 r (by decide) h
 have hc := ak (ho62 p g la lb eg A0 c0 l0 i w hr0 hp hi)
 have HD := ak hd
 clear hd hi h hp hr0 eg
 go_enter Try.func55, Try.ntmps55
 go_wp2_with (go_at_call 62; refine hc.out.mono ?_; rintro e w' ⟨rfl, hb⟩)
 go_ret
 exact ⟨by first | rfl | (rw [← HD.out]; rfl) | simp [HD.out], hb⟩

/-! ### any_at_term_Check_1: function 55 at the function value 56 -/
def any_at_term_Check_1.f (k : Nat) (l0 : List (S50)) : Option (Bool) := anyF (fun x => term_Check_1.f k  x.f0 x.f1) l0
theorem any_at_term_Check_1.mono : ∀ a0  k, LeO (any_at_term_Check_1.f k a0 ) (any_at_term_Check_1.f (k + 1) a0 ) := by
 intro a0  k
 unfold any_at_term_Check_1.f
 exact anyF_mono (fun x => term_Check_1.mono  x.f0 x.f1  k) a0
theorem any_at_term_Check_1.calls (k : Nat) (A0 : Option Addr) (c0 : Nat) (l0 : List (S50)) (r : Bool) (w : World) (hr0 : Kd.C k50 w A0 l0.length l0) (hc0 : l0.length ≤ c0) (h : any_at_term_Check_1.f k l0 = some r) :
 Calls Try.prog 55 #[.slice A0 l0.length c0, .func (.func 56) #[] #[]] w fun e w' => e = .returned (.bool r) ∧ Below w.heap.size w w' :=
 ho55 (fun x => term_Check_1.f k  x.f0 x.f1) 56 #[] #[] (enters_of Try.func56 (by kernel_rfl) rfl) A0 c0 l0 r w hr0 (fun W x b hW_ hx => by
  show Calls Try.prog 56 #[.agg #[.int .i64 x.f0, .int .i64 x.f1]] W _
  exact (term_Check_1.calls k  x.f0 x.f1 b W hx).mono (fun e W' ⟨he, hd⟩ => ⟨he, hd⟩)) h

/-! ### term_Check: function 50 -/
def term_Check.j0 : Nat → List (S50) → Bool → Option (Int)
 | 0, _, _ => none
 | k + 1, x0, x16 => if x16 = true then (some 1) else ((term_walk.f k x0).bind fun bt112 => (if bt112.1 = 1 then (some 0) else (some 2)))
def term_Check.f (k : Nat) (l0 : List (S50)) : Option (Int) := if (l0.length : Int) < 1 then (term_Check.j0 k l0 true) else (if (l0.length : Int) > 12 then (term_Check.j0 k l0 true) else ((any_at_term_Check_1.f k l0).bind fun t111 => (term_Check.j0 k l0 t111)))
theorem term_Check.mono_l : ∀ k, (∀ y0 y1, LeO (term_Check.j0 k y0 y1) (term_Check.j0 (k + 1) y0 y1))
 | 0 => fun _ _ r h => by simp [term_Check.j0] at h
 | k + 1 => by
  have ih0 := term_Check.mono_l k
  · intro y0 y1
    unfold term_Check.j0
    repeat' first
    | (with_reducible exact ih0 _ _)
    | (with_reducible exact any_at_term_Check_1.mono _ _)
    | (with_reducible exact term_walk.mono _ _)
    | (with_reducible exact LeO.refl _)
    | (with_reducible exact LeO.none _)
    | (with_reducible refine LeO.ite ?_ ?_)
    | (with_reducible refine LeO.bind ?_ (fun _ => ?_))
    | exact ih0 _ _
    | exact any_at_term_Check_1.mono _ _
    | exact term_walk.mono _ _
    | exact LeO.none _
    | refine LeO.ite ?_ ?_
    | refine LeO.bind ?_ (fun _ => ?_)
theorem term_Check.mono : ∀ a0 k, LeO (term_Check.f k a0) (term_Check.f (k + 1) a0) := by
 intro a0 k
 have ih0 := term_Check.mono_l k
 unfold term_Check.f
 repeat' first
  | (with_reducible exact ih0 _ _)
  | (with_reducible exact any_at_term_Check_1.mono _ _)
  | (with_reducible exact term_walk.mono _ _)
  | (with_reducible exact LeO.refl _)
  | (with_reducible exact LeO.none _)
  | (with_reducible refine LeO.ite ?_ ?_)
  | (with_reducible refine LeO.bind ?_ (fun _ => ?_))
  | exact ih0 _ _
  | exact any_at_term_Check_1.mono _ _
  | exact term_walk.mono _ _
  | exact LeO.none _
  | refine LeO.ite ?_ ?_
  | refine LeO.bind ?_ (fun _ => ?_)
set_option maxHeartbeats 8000000 in
set_option maxRecDepth 100000 in
theorem term_Check.calls (k : Nat) (A0 : Option Addr) (c0 : Nat) (l0 : List (S50)) (r : Int) (w : World) (hr0 : Kd.C k50 w A0 l0.length l0) (hc0 : l0.length ≤ c0) (h : term_Check.f k l0 = some r) :
 Calls Try.prog 50 #[.slice A0 l0.length c0] w fun e w' => e = .returned (.int .i64 r) ∧ Below w.heap.size w w' := by
 have HR0 := ak hr0
 have HC0 := ak hc0
 clear hr0 hc0
 have HB := ak (Below.refl w.heap.size w)
 have H : (if (l0.length : Int) < 1 then (term_Check.j0 k l0 true) else (if (l0.length : Int) > 12 then (term_Check.j0 k l0 true) else ((any_at_term_Check_1.f k l0).bind fun t111 => (term_Check.j0 k l0 t111)))) = some r := h
 clear h
 have HC2 := ak H
 clear H
 go_enter Try.func50, Try.ntmps50
 go_upto_region 1 with (fail)
 go_cut [16] (fun v16 wc => ∃ (kq : Nat) (x16_1 : Bool), v16 = .bool x16_1 ∧ Aside0 (term_Check.j0 kq l0 x16_1 = some r) ∧ Aside0 (kq ≤ k) ∧ Aside0 (Below w.heap.size w wc))
 case first =>
  have H := HC2.out
  clear HC2
  by_cases c3 : (l0.length : Int) < 1
  · rw [if_pos c3] at H
    have c3b0 : decide ((l0.length : Int) < 1) = true := decide_eq_true c3
    have c3b1 : decide (l0.length < 1) = true := decide_eq_true (by omega)
    clear c3
    (first | rw [c3b0] | (simp only [i64_w, i32_w]; rw [c3b0]) | skip)
    have H' := ak H
    clear H
    go_wp2
    go_meet
    case rel => exact ⟨_, (true), (by first | rfl | (simp; done) | (simp [*]; done)), H', ⟨by first | omega | exact Nat.le_refl _⟩, ⟨bsv_⟩⟩
  rw [if_neg c3] at H
  have c3b0 : decide ((l0.length : Int) < 1) = false := decide_eq_false c3
  have c3b1 : decide (l0.length < 1) = false := decide_eq_false (by omega)
  clear c3
  (first | rw [c3b0] | (simp only [i64_w, i32_w]; rw [c3b0]) | skip)
  by_cases c4 : (l0.length : Int) > 12
  · rw [if_pos c4] at H
    have c4b0 : decide (12 < (l0.length : Int)) = true := decide_eq_true c4
    have c4b1 : decide (12 < l0.length) = true := decide_eq_true (by omega)
    clear c4
    have H' := ak H
    clear H
    go_wp2
    go_meet
    case rel => exact ⟨_, (true), (by first | rfl | (simp; done) | (simp [*]; done)), H', ⟨by first | omega | exact Nat.le_refl _⟩, ⟨bsv_⟩⟩
  rw [if_neg c4] at H
  have c4b0 : decide (12 < (l0.length : Int)) = false := decide_eq_false c4
  have c4b1 : decide (12 < l0.length) = false := decide_eq_false (by omega)
  clear c4
  obtain ⟨t111, A5, H⟩ := bd_ H
  have H' := ak H
  clear H
  go_wp2_with (first | (go_at_call 55; (with_reducible refine (any_at_term_Check_1.calls k _ _ l0 t111 _ ?side1 ?side2 A5.out).mono ?_); (case side1 => exact cb_ HR0 HB); (case side2 => exact HC0.out); rintro e w6 ⟨rfl, hb⟩; replace HB := ak (bst_ hb); (try clear hb)))
  go_meet
  case rel => exact ⟨_, (t111), (by first | rfl | (simp; done) | (simp [*]; done)), H', ⟨by first | omega | exact Nat.le_refl _⟩, ⟨bsv_⟩⟩
 case rest =>
  clear HC2
  try clear p2
  try clear c3
  try clear c3b0
  try clear c3b1
  try clear c4
  try clear c4b0
  try clear c4b1
  try clear c5
  obtain ⟨kq, x16_1, rfl, HA, HJ1, HB⟩ := hcut
  cases kq with
  | zero => exact absurd HA.out (by simp [term_Check.j0])
  | succ kj1 =>
   have H := HA.out
   clear HA
   simp only [term_Check.j0] at H
   by_cases c7 : x16_1 = true
   · subst c7
     rw [if_pos rfl] at H
     obtain rfl := Option.some.inj H
     go_wp2
     go_ret
     exact ⟨by first | rfl | (simp [errW_none, errW_some] <;> rfl) | (simp [*, errW_none, errW_some] <;> rfl), bsv_⟩
   replace c7 := Bool.eq_false_iff.mpr c7
   subst c7
   rw [if_neg (show ¬ (false = true) by decide)] at H
   replace H := Option.bind_eq_some_iff.mp H
   obtain ⟨⟨t112, t113⟩, A80, H⟩ := H
   have A8 := ak A80
   clear A80
   by_cases c9 : t112 = 1
   rotate_left
   · rw [if_neg c9] at H
     have c9b0 : (t112 == 1) = false := beq_eq_false_iff_ne.mpr c9
     have c9b1 : (t112 != 1) = true := bne_iff_ne.mpr c9
     obtain rfl := Option.some.inj H
     go_wp2_with (first | ((with_reducible refine gate_callee (f := 58) rfl ?_); refine goesL_ (some 19) rfl rfl Try.func58 (by kernel_rfl) rfl #[.slice A0 l0.length c0] rfl mp_ ?_; (with_reducible refine (term_walk.calls kj1 _ _ l0 t112 t113 _ ?side1 ?side2 A8.out).mono ?_); (case side1 => exact cb_ HR0 HB); (case side2 => exact HC0.out); rintro e w11 ⟨rfl, hb⟩; refine ⟨_, rfl, ?_⟩; replace HB := ak (bst_ hb); (try clear hb)))
     go_ret
     exact ⟨by first | rfl | (simp [errW_none, errW_some] <;> rfl) | (simp [*, errW_none, errW_some] <;> rfl), bsv_⟩
   rw [if_pos c9] at H
   have c9b0 : (t112 == 1) = true := beq_iff_eq.mpr c9
   have c9b1 : (t112 != 1) = false := bne_eq_false_iff_eq.mpr c9
   clear c9
   obtain rfl := Option.some.inj H
   go_wp2_with (first | ((with_reducible refine gate_callee (f := 58) rfl ?_); refine goesL_ (some 19) rfl rfl Try.func58 (by kernel_rfl) rfl #[.slice A0 l0.length c0] rfl mp_ ?_; (with_reducible refine (term_walk.calls kj1 _ _ l0 t112 t113 _ ?side1 ?side2 A8.out).mono ?_); (case side1 => exact cb_ HR0 HB); (case side2 => exact HC0.out); rintro e w10 ⟨rfl, hb⟩; refine ⟨_, rfl, ?_⟩; replace HB := ak (bst_ hb); (try clear hb)))
   go_ret
   exact ⟨by first | rfl | (simp [errW_none, errW_some] <;> rfl) | (simp [*, errW_none, errW_some] <;> rfl), bsv_⟩

/-! ### slices_Sort: function 59: the library's, by its contract -/
def slices_Sort.f (l0 : List Int) : Option (List Int) := if l0.length < 4611686018427387904 then some (l0.mergeSort fun x y => decide (x ≤ y)) else none
set_option maxHeartbeats 2000000 in
theorem slices_Sort.calls (P0_ : Nat → Prop) (u9000_ : Value) (l0 : List Int) (r : List Int) (w0 w : World) (hB : Below w0.heap.size w0 w) (ho0 : Kd.R (Kd.int .i64) 3 w w0.heap.size P0_ u9000_ l0) (h : slices_Sort.f l0 = some r) :
 Calls Try.prog 59 #[u9000_] w fun e w' => e = .returned (.tuple #[]) ∧ Kd.R (Kd.int .i64) 3 w' w0.heap.size (fun k_ => (P0_ k_ ∨ w.heap.size ≤ k_)) u9000_ r ∧ Below w0.heap.size w0 w' ∧ Kept w w' (fun k_ => P0_ k_) := by
 unfold slices_Sort.f at h
 split at h
 case isFalse => exact absurd h (by simp)
 rename_i hlen
 obtain rfl := Option.some.inj h
 rcases Nat.eq_zero_or_pos l0.length with h0 | h0
 · obtain rfl : l0 = [] := List.length_eq_zero_iff.1 h0
   obtain ⟨_, ho⟩ := Kd.R_own ho0
   obtain ⟨A, c, rfl⟩ := own_slice ho
   refine (Try.slices_Sort_int_none A c w).mono ?_
   rintro e w' ⟨rfl, rfl⟩
   exact ⟨rfl, Kd.R_mono (by simpa using ho0) (fun k hk => .inl hk), hB, Kept.refl _ _⟩
 · obtain ⟨g, cap, rfl, hbg, hgl, _⟩ := Kd.R_form ho0 h0
   refine (Try.slices_Sort_int g 0 cap l0 w (So.holds_of ho0) hgl hlen).mono ?_
   rintro e w' ⟨rfl, n, os, rfl⟩
   have hl : (l0.mergeSort fun x y => decide (x ≤ y)).length = l0.length := List.length_mergeSort _
   have hr := So.put_row ho0 n _ (l0.mergeSort fun x y => decide (x ≤ y)) os hl (by rw [List.take_length]) h0
   rw [hl] at hr
   exact ⟨rfl, Kd.R_mono hr (fun k hk => .inl hk), So.put_below hB n g _ os hgl hbg, So.put_kept n g _ os hgl (ho0.1 g rfl)⟩

/-! ### slices_Compact: function 60: the library's, by its contract -/
def slices_Compact.f (l0 : List Int) : Option (List Int) := if l0.length ≤ 9223372036854775807 then some (Go.Lib.compact l0) else none
set_option maxHeartbeats 2000000 in
theorem slices_Compact.calls (P0_ : Nat → Prop) (u9000_ : Value) (l0 : List Int) (r : List Int) (w0 w : World) (hB : Below w0.heap.size w0 w) (ho0 : Kd.R (Kd.int .i64) 3 w w0.heap.size P0_ u9000_ l0) (h : slices_Compact.f l0 = some r) :
 Calls Try.prog 60 #[u9000_] w fun e w' => ∃ v0_ : Value, e = .returned (v0_) ∧ Kd.R (Kd.int .i64) 3 w' w0.heap.size (fun k_ => (P0_ k_ ∨ w.heap.size ≤ k_)) v0_ r ∧ Below w0.heap.size w0 w' ∧ Kept w w' (fun k_ => P0_ k_) := by
 unfold slices_Compact.f at h
 split at h
 case isFalse => exact absurd h (by simp)
 rename_i hlen
 obtain rfl := Option.some.inj h
 rcases Nat.eq_zero_or_pos l0.length with h0 | h0
 · obtain rfl : l0 = [] := List.length_eq_zero_iff.1 h0
   obtain ⟨_, ho⟩ := Kd.R_own ho0
   obtain ⟨A, c, rfl⟩ := own_slice ho
   refine (Try.slices_Compact_int_empty A c w).mono ?_
   rintro e w' ⟨rfl, rfl⟩
   exact ⟨_, rfl, Kd.R_mono (by simpa [Go.Lib.compact, Go.Lib.compactUpTo] using ho0) (fun k hk => .inl hk), hB, Kept.refl _ _⟩
 · obtain ⟨g, cap, rfl, hbg, hgl, _⟩ := Kd.R_form ho0 h0
   have hcap : l0.length ≤ cap := by
    rcases (Kd.own_of_R (enc := Value.int .i64) (h1 := fun _ => rfl) ho0).2 with ⟨e1, _⟩ | ⟨g', cap', cur, e1, _, _, hn, _⟩
    · cases e1
    · injection e1 with e1 e2 e3
      omega
   refine (Try.slices_Compact_int g 0 cap l0 w (So.holds_of ho0) hlen hcap).mono ?_
   rintro e w' ⟨rfl, q, rfl⟩
   have hcl : (Go.Lib.compact l0).length ≤ l0.length := So.compact_len l0
   rw [← Go.Sort.grow_empty (Go.Sort.putRow _ _ _ _ _)]
   have hr := So.put_row ho0 q (Go.Lib.compact l0 ++ List.replicate (l0.length - (Go.Lib.compact l0).length) 0) (Go.Lib.compact l0) #[] (by rw [List.length_append, List.length_replicate]; omega) (by rw [List.take_left']; rfl) h0
   exact ⟨_, rfl, Kd.R_mono hr (fun k hk => .inl hk), So.put_below hB q g _ #[] hgl hbg, So.put_kept q g _ #[] hgl (ho0.1 g rfl)⟩

end Go.Proofs.Ytpeblomhhofhkaa.H
