-- PRINTED by print.py (a twelfth state) out of the translation. Not trusted: Lean checks it.
import Derived.Test.YtjnkpocfmpbpoaaFx0
import Derived.Test.YtjnkpocfmpbpoaaFx3
import Derived.Test.YtjnkpocfmpbpoaaFx8
namespace Go.Proofs.Ytjnkpocfmpbpoaa.F
open Go.Proofs.Ytjnkpocfmpbpoaa.Ho
open Go.RowKit Go.Proofs.YtjnkpocfmpbpoaaW.PrintWords Go.Proofs.YtjnkpocfmpbpoaaW.PrintLast Go.Proofs.YtjnkpocfmpbpoaaW.PrintMore
attribute [local go_sem] max2_int min2_int max_two min_two max_three min_three max_four min_four   -- for this text's walks alone
set_option linter.unusedVariables false
set_option linter.unusedSimpArgs false

/-! ### heap_Put_1: function 64 -/
def heap_Put_1.f (a0_0 : Int) (a0_1 : Int) : Option (Bool) := (span_Right.f a0_1).bind fun t399 => (some (!t399))
set_option maxHeartbeats 8000000 in
set_option maxRecDepth 100000 in
theorem heap_Put_1.calls (a0_0 : Int) (a0_1 : Int) (r : Bool) (w : World) (h : heap_Put_1.f a0_0 a0_1 = some r) :
 Calls Try.prog 64 #[.agg #[.int .i64 a0_0, .int .i64 a0_1]] w fun e w' => e = .returned (.bool r) ∧ Below w.heap.size w w' := by
 have hu62 := Try.underlying62
 have HB := ak (Below.refl w.heap.size w)
 have H : ((span_Right.f a0_1).bind fun t399 => (some (!t399))) = some r := h
 clear h
 obtain ⟨t399, A2, H⟩ := bd_ H
 obtain rfl := Option.some.inj H
 go_enter Try.func64, Try.ntmps64
 go_wp2_with (first | ((with_reducible refine gate_dst (N := 1) rfl ?_); refine box_event ?hg (N := 1) ?hd (cs := #[.int .i64 a0_0, .int .i64 a0_1]) (t := 62) ?hr ?_; (case hd => rfl); (case hg => rfl); (case hr => first | (go_simp; done) | (go_simp; rfl)); intro gb398 hg w3 hbox hb; replace BK398 := ak (hbox); replace GW398 := ak ((by rw [hg]; exact bsz_ : w.heap.size ≤ gb398)); replace HB := ak (bst_ hb); replace GE398 := GW398; clear hb hbox hg; obtain ⟨hcz4_0, hcz4_1, hfz4_0, hfz4_1⟩ := bz2_ BK398) | ((with_reducible refine gate_callee (f := 59) rfl ?_); refine goesL_ (some 5) rfl rfl Try.func59 (by kernel_rfl) rfl #[.int .i64 a0_1] rfl mp_ ?_; (with_reducible refine (span_Right.calls a0_1 t399 _ A2.out).mono ?_); rintro e w' ⟨rfl, ⟨nd, rfl⟩⟩; refine ⟨_, rfl, ?_⟩))
 go_ret
 exact ⟨by first | rfl | (simp [errW_none, errW_some] <;> rfl) | (simp [*, errW_none, errW_some] <;> rfl), bsw_⟩

/-! ### slices_Clone_65: function 65 -/
def slices_Clone_65.f (l0 : List (S98)) : Option ((List (S98))) := (some (([] : List (S98)) : List (S98))).bind fun y400 => (if y400.length + l0.length < 8796093022208 then (some (y400 ++ l0)) else (none))
set_option maxHeartbeats 8000000 in
set_option maxRecDepth 100000 in
theorem slices_Clone_65.callsN (A0 : Option Addr) (c0 : Nat) (l0 : List (S98)) (r : List (S98)) (w : World) (hr0 : Kd.C k98 w A0 l0.length l0) (hc0 : l0.length ≤ c0) (h : slices_Clone_65.f l0 = some r) (hnn : A0.isNone = false) :
 Calls Try.prog 65 #[.slice A0 l0.length c0] w fun e w' => ∃ v0_ : Value, e = .returned (v0_) ∧ Kd.R k98 98 w' w.heap.size (fun _ => True) v0_ r ∧ Below w.heap.size w w' := by
 have heql : ∀ W : World, (binOp .eql 66 (.slice A0 l0.length c0) (.slice none 0 0)).run Try.prog W = .ok (.bool false) W := fun W => by rw [Lib.run_eql_slice_nil W 66 98 A0 l0.length c0 0 0 Try.underlying66]; rw [hnn]
 clear hnn
 have HR0 := ak hr0
 have HC0 := ak hc0
 clear hr0 hc0
 have HB := ak (Below.refl w.heap.size w)
 have H : ((some (([] : List (S98)) : List (S98))).bind fun y400 => (if y400.length + l0.length < 8796093022208 then (some (y400 ++ l0)) else (none))) = some r := h
 clear h
 obtain ⟨y400, hy400⟩ : ∃ y_ : List (S98), y_ = (([] : List (S98))) := ⟨_, rfl⟩
 replace H : (if y400.length + l0.length < 8796093022208 then (some (y400 ++ l0)) else (none)) = some r := by first | (rw [hy400]; with_reducible exact H) | (have H2_ := (Option.bind_some _ _).symm.trans H; rw [hy400]; with_reducible exact H2_) | (have H2_ := (Option.bind_some _ _).symm.trans H; with_reducible exact H2_) | with_reducible exact H | (rw [hy400]; exact H) | exact H
 have Ny400 := ak hy400
 clear hy400
 by_cases c2 : y400.length + l0.length < 8796093022208
 · rw [if_pos c2] at H
   have LMc2 := ak c2
   clear c2
   obtain ⟨y403, hy403⟩ : ∃ y_ : List (S98), y_ = (y400 ++ l0) := ⟨_, rfl⟩
   replace H : (some y403) = some r := by first | (rw [hy403]; with_reducible exact H) | (have H2_ := (Option.bind_some _ _).symm.trans H; rw [hy403]; with_reducible exact H2_) | (have H2_ := (Option.bind_some _ _).symm.trans H; with_reducible exact H2_) | with_reducible exact H | (rw [hy403]; exact H) | exact H
   have Ny403 := ak hy403
   clear hy403
   obtain rfl := Option.some.inj H
   go_enter Try.func65, Try.ntmps65
   go_wp2_with (first | ((with_reducible refine gate_dst (N := 5) rfl ?_); refine Kd.R_lit k98 _ 98 ?hg (N := 5) ?hd (xs := ([] : List (S98))) (inner := []) (ok := fun _ => True) (okp := fun _ => True) ?hr ?hp (fun _ hk => hk) trivial (Below.refl _ _) (Nat.le_refl _) (by simp) ?_; (case hd => rfl); (case hg => rfl); (case hr => first | (go_simp; done) | (go_simp; rfl)); (case hp => exact (Reps.none _ _)); intro v401 w3 ho4 hb hg_ hnew_; clear hg_ hnew_; (first | rw [← Ny400.out] at ho4 | (simp only [Int.reduceToNat] at ho4; rw [← Ny400.out] at ho4)); replace HO402 := ak (Kd.R_lower ho4 bsz_); replace HB := ak (bst_ hb); clear hb ho4) | ((with_reducible refine gate_builtin (b := .append) (xs := #[.tmp 5, .tmp 6]) rfl ?_); at_builtin; refine Kd.R_append_rows k98 (w0 := w) w.heap.size rfl (.tmp 5) (.tmp 6) 66 98 (.agg #[(.bool false), (.int .i64 0)]) 16 rfl Try.underlying66 info98 rfl (by decide) (by omega) v401 y400 l0 _ _ _ (fun _ => True) (fun _ => False) rfl rfl ?aO ?aR (fun _ _ h => h) (fun _ h => h.elim) ?aF ?aB ?aS ?aL ?_; (case aR => repeat (first | exact (Kd.C_below HR0.out HB.out) | with_reducible first | refine Kd.C_alloc ?_ _ | refine Kd.C_drewN ?_ _ | refine Kd.C_drew ?_)); (case aB => exact bsv_); (case aF => exact (fun _ _ => trivial)); (case aO => exact (rq_ HO402)); (case aS => exact bsz_); (case aL => have := LMc2.out; omega); intro v404 w5 ho hb hg hat; rw [← Ny403.out] at ho; replace HB := ak (hb); replace HO405 := ak (ho); clear HO402; clear ho hb hg hat))
   go_ret
   exact ⟨_, by first | rfl | (simp [errW_none, errW_some] <;> rfl) | (simp [*, errW_none, errW_some] <;> rfl), rq_ HO405, bsv_⟩
 · rw [if_neg c2] at H
   exact absurd H (by simp)

set_option maxHeartbeats 2000000 in
theorem slices_Clone_65.calls (A0 : Option Addr) (c0 : Nat) (l0 : List (S98)) (r : List (S98)) (w : World) (hr0 : Kd.C k98 w A0 l0.length l0) (hc0 : l0.length ≤ c0) (h : slices_Clone_65.f l0 = some r) :
 Calls Try.prog 65 #[.slice A0 l0.length c0] w fun e w' => ∃ v0_ : Value, e = .returned (v0_) ∧ Kd.R k98 98 w' w.heap.size (fun _ => True) v0_ r ∧ Below w.heap.size w w' := by
 cases hA : A0 with
 | some ad => subst hA; exact slices_Clone_65.callsN (some ad) c0 l0 r w hr0 hc0 h rfl
 | none =>
  subst hA
  obtain rfl : l0 = [] := by
   rcases Nat.eq_zero_or_pos l0.length with h0 | h0
   · exact List.length_eq_zero_iff.1 h0
   · obtain ⟨ad, c, e0, _⟩ := Kd.C_get hr0 z98 0 (by omega) (by omega)
     cases e0
  obtain rfl : [] = r := by simpa [slices_Clone_65.f] using h
  have heql : ∀ W : World, (binOp .eql 66 (.slice none 0 c0) (.slice none 0 0)).run Try.prog W = .ok (.bool true) W := fun W => by rw [Lib.run_eql_slice_nil W 66 98 none 0 c0 0 0 Try.underlying66]; rfl
  clear hr0 hc0 h
  simp only [List.length_nil]
  go_enter Try.func65, Try.ntmps65
  go_wp2
  go_ret
  exact ⟨_, rfl, by first | exact Kd.R_nil _ _ _ _ _ | exact Kd.N_nil _ _ _ _ _ | exact Kd.V_nil _ _ _ _ _, Below.refl _ _⟩

/-! ### any_at_heap_Put_1: function 63 at the function value 64 -/
def any_at_heap_Put_1.f (l0 : List (S62)) : Option (Bool) := anyF (fun x => heap_Put_1.f  x.f0 x.f1) l0
theorem any_at_heap_Put_1.calls (A0 : Option Addr) (c0 : Nat) (l0 : List (S62)) (r : Bool) (w : World) (hr0 : Kd.C k62 w A0 l0.length l0) (hc0 : l0.length ≤ c0) (h : any_at_heap_Put_1.f l0 = some r) :
 Calls Try.prog 63 #[.slice A0 l0.length c0, .func (.func 64) #[] #[]] w fun e w' => e = .returned (.bool r) ∧ Below w.heap.size w w' :=
 ho63 (fun x => heap_Put_1.f  x.f0 x.f1) 64 #[] #[] (enters_of Try.func64 (by kernel_rfl) rfl) A0 c0 l0 r w hr0 (fun W x b hW_ hx => by
  show Calls Try.prog 64 #[.agg #[.int .i64 x.f0, .int .i64 x.f1]] W _
  exact (heap_Put_1.calls  x.f0 x.f1 b W hx).mono (fun e W' ⟨he, hd⟩ => ⟨he, hd⟩)) h

/-! ### heap_Put: function 39 -/
mutual
def heap_Put.j0 : Nat → List (S98) → List (S62) → Bool → Option ((List (S98)) × Int)
 | 0, _, _, _ => none
 | k + 1, x0, x1, x15 => if x15 = true then (some (x0, 1)) else ((slices_Clone_65.f x0).bind fun t408 => (heap_Put.l0 k x0 t408 x1 (x1.length : Int) 0))
def heap_Put.l0 : Nat → List (S98) → List (S98) → List (S62) → Int → Int → Option ((List (S98)) × Int)
 | 0, _, _, _, _, _ => none
 | k + 1, x0, x6, x19, x20, x21 => if x21 < x20 then (if 0 ≤ x21 then (if x21 < (x19.length : Int) then ((heap_there.f x0 ((rd_T62 x19 x21).f0)).bind fun t413 => (if t413 = true then (if 0 ≤ ((rd_T62 x19 x21).f0) then (if ((rd_T62 x19 x21).f0) < (x6.length : Int) then (heap_Put.l0 k x0 (x6.set (((rd_T62 x19 x21).f0) : Int).toNat (⟨(rd_T98 x6 ((rd_T62 x19 x21).f0)).f0, (rd_T62 x19 x21).f1⟩ : S98)) x19 x20 (wrap64 (x21 + 1))) else (none)) else (none)) else (some (x0, 3)))) else (none)) else (none)) else (some (x6, 0))
end
def heap_Put.f (k : Nat) (l0 : List (S98)) (l1 : List (S62)) : Option ((List (S98)) × Int) := (heap_Right.f l0).bind fun t406 => (if t406 = true then ((any_at_heap_Put_1.f l1).bind fun t407 => (heap_Put.j0 k l0 l1 t407)) else (heap_Put.j0 k l0 l1 true))
theorem heap_Put.mono_l : ∀ k, (∀ y0 y1 y2, LeO (heap_Put.j0 k y0 y1 y2) (heap_Put.j0 (k + 1) y0 y1 y2)) ∧ (∀ y0 y1 y2 y3 y4, LeO (heap_Put.l0 k y0 y1 y2 y3 y4) (heap_Put.l0 (k + 1) y0 y1 y2 y3 y4))
 | 0 => ⟨fun _ _ _ r h => by simp [heap_Put.j0] at h, fun _ _ _ _ _ r h => by simp [heap_Put.l0] at h⟩
 | k + 1 => by
  obtain ⟨ih0, ih1⟩ := heap_Put.mono_l k
  refine ⟨?_, ?_⟩
  · intro y0 y1 y2
    unfold heap_Put.j0
    repeat' first
    | (with_reducible exact ih0 _ _ _)
    | (with_reducible exact ih1 _ _ _ _ _)
    | (with_reducible exact LeO.refl _)
    | (with_reducible exact LeO.none _)
    | (with_reducible refine LeO.ite ?_ ?_)
    | (with_reducible refine LeO.bind ?_ (fun _ => ?_))
    | exact ih0 _ _ _
    | exact ih1 _ _ _ _ _
    | exact LeO.none _
    | refine LeO.ite ?_ ?_
    | refine LeO.bind ?_ (fun _ => ?_)
  · intro y0 y1 y2 y3 y4
    unfold heap_Put.l0
    repeat' first
    | (with_reducible exact ih0 _ _ _)
    | (with_reducible exact ih1 _ _ _ _ _)
    | (with_reducible exact LeO.refl _)
    | (with_reducible exact LeO.none _)
    | (with_reducible refine LeO.ite ?_ ?_)
    | (with_reducible refine LeO.bind ?_ (fun _ => ?_))
    | exact ih0 _ _ _
    | exact ih1 _ _ _ _ _
    | exact LeO.none _
    | refine LeO.ite ?_ ?_
    | refine LeO.bind ?_ (fun _ => ?_)
theorem heap_Put.mono : ∀ a0 a1 k, LeO (heap_Put.f k a0 a1) (heap_Put.f (k + 1) a0 a1) := by
 intro a0 a1 k
 obtain ⟨ih0, ih1⟩ := heap_Put.mono_l k
 unfold heap_Put.f
 repeat' first
  | (with_reducible exact ih0 _ _ _)
  | (with_reducible exact ih1 _ _ _ _ _)
  | (with_reducible exact LeO.refl _)
  | (with_reducible exact LeO.none _)
  | (with_reducible refine LeO.ite ?_ ?_)
  | (with_reducible refine LeO.bind ?_ (fun _ => ?_))
  | exact ih0 _ _ _
  | exact ih1 _ _ _ _ _
  | exact LeO.none _
  | refine LeO.ite ?_ ?_
  | refine LeO.bind ?_ (fun _ => ?_)
set_option maxHeartbeats 8000000 in
set_option maxRecDepth 100000 in
theorem heap_Put.calls (k : Nat) (P0_ : Nat → Prop) (A0 : Option Addr) (c0 : Nat) (l0 : List (S98)) (A1 : Option Addr) (c1 : Nat) (l1 : List (S62)) (r1 : List (S98)) (r2 : Int) (w : World) (hs0 : Kd.V k98 98 w w.heap.size (fun k_ => P0_ k_) (.slice A0 l0.length c0) l0) (hr1 : Kd.C k62 w A1 l1.length l1) (hc1 : l1.length ≤ c1) (h : heap_Put.f k l0 l1 = some (r1, r2)) :
 Calls Try.prog 39 #[.slice A0 l0.length c0, .slice A1 l1.length c1] w fun e w' => ∃ v0_ : Value, e = .returned (.tuple #[v0_, .int .i64 r2]) ∧ Kd.V k98 98 w' w.heap.size (fun k_ => (P0_ k_ ∨ w.heap.size ≤ k_)) v0_ r1 ∧ Below w.heap.size w w' := by
 have hu62 := Try.underlying62
 have HO0 := ak (show Kd.V k98 98 w w.heap.size (fun k_ => (P0_ k_ ∨ w.heap.size ≤ k_)) (.slice A0 l0.length c0) l0 from Kd.V_mono hs0 (fun k_ hk => .inl hk))
 have HR1 := ak hr1
 have HC1 := ak hc1
 clear hr1 hc1
 have HB := ak (Below.refl w.heap.size w)
 have H : ((heap_Right.f l0).bind fun t406 => (if t406 = true then ((any_at_heap_Put_1.f l1).bind fun t407 => (heap_Put.j0 k l0 l1 t407)) else (heap_Put.j0 k l0 l1 true))) = some (r1, r2) := h
 clear h
 have HC3 := ak H
 clear H
 go_enter Try.func39, Try.ntmps39
 go_upto_region 1 with (fail)
 go_cut [15] (fun v15 wc => ∃ (kq : Nat) (x15_2 : Bool), v15 = .bool x15_2 ∧ Aside0 (heap_Put.j0 kq l0 l1 x15_2 = some (r1, r2)) ∧ Aside0 (kq ≤ k) ∧ Aside0 (Kd.V k98 98 wc w.heap.size (fun k_ => (P0_ k_ ∨ w.heap.size ≤ k_)) (.slice A0 l0.length c0) l0) ∧ Aside0 (Below w.heap.size w wc))
 case first =>
  have H := HC3.out
  clear HC3
  obtain ⟨t406, A4, H⟩ := bd_ H
  by_cases c5 : t406 = true
  · subst c5
    rw [if_pos rfl] at H
    obtain ⟨t407, A6, H⟩ := bd_ H
    have H' := ak H
    clear H
    go_wp2_with (first | ((with_reducible refine gate_callee (f := 61) rfl ?_); refine goesL_ (some 10) rfl rfl Try.func61 (by kernel_rfl) rfl #[.slice A0 l0.length c0] rfl mp_ ?_; (with_reducible refine (heap_Right.calls _ _ l0 true _ ?side1 ?side2 A4.out).mono ?_); (case side1 => exact vc_ HO0); (case side2 => exact vl_ HO0); rintro e w7 ⟨rfl, hb⟩; refine ⟨_, rfl, ?_⟩; replace HO0 := vb_ HO0 hb; replace HB := ak (bst_ hb); (try clear hb); (try clear hb2); (try clear hk); (try clear hi)) | (go_at_call 63; (with_reducible refine (any_at_heap_Put_1.calls _ _ l1 t407 _ ?side1 ?side2 A6.out).mono ?_); (case side1 => repeat (first | exact (Kd.C_below HR1.out HB.out) | with_reducible first | refine Kd.C_alloc ?_ _ | refine Kd.C_drewN ?_ _ | refine Kd.C_drew ?_)); (case side2 => exact HC1.out); rintro e w8 ⟨rfl, hb⟩; replace HO0 := vb_ HO0 hb; replace HB := ak (bst_ hb); (try clear hb); (try clear hb2); (try clear hk); (try clear hi)))
    go_meet
    case rel => exact ⟨_, (t407), (by first | rfl | (simp; done) | (simp [*]; done)), H', ⟨by first | omega | exact Nat.le_refl _⟩, ⟨vq_ HO0⟩, ⟨bsv_⟩⟩
  · replace c5 := Bool.eq_false_iff.mpr c5
    subst c5
    rw [if_neg (show ¬ (false = true) by decide)] at H
    have H' := ak H
    clear H
    go_wp2_with (first | ((with_reducible refine gate_callee (f := 61) rfl ?_); refine goesL_ (some 10) rfl rfl Try.func61 (by kernel_rfl) rfl #[.slice A0 l0.length c0] rfl mp_ ?_; (with_reducible refine (heap_Right.calls _ _ l0 false _ ?side1 ?side2 A4.out).mono ?_); (case side1 => exact vc_ HO0); (case side2 => exact vl_ HO0); rintro e w9 ⟨rfl, hb⟩; refine ⟨_, rfl, ?_⟩; replace HO0 := vb_ HO0 hb; replace HB := ak (bst_ hb); (try clear hb); (try clear hb2); (try clear hk); (try clear hi)))
    go_meet
    case rel => exact ⟨_, (true), (by first | rfl | (simp; done) | (simp [*]; done)), H', ⟨by first | omega | exact Nat.le_refl _⟩, ⟨vq_ HO0⟩, ⟨bsv_⟩⟩
 case rest =>
  clear HC3
  try clear c1
  try clear p2
  try clear c3
  try clear c5
  try clear c6
  obtain ⟨kq, x15_2, rfl, HA, HJ2, HO_0, HB⟩ := hcut
  cases kq with
  | zero => exact absurd HA.out (by simp [heap_Put.j0])
  | succ kj2 =>
   have H := HA.out
   clear HA
   simp only [heap_Put.j0] at H
   by_cases c10 : x15_2 = true
   · subst c10
     rw [if_pos rfl] at H
     simp only [Option.some.injEq, Prod.mk.injEq] at H
     obtain ⟨rfl, rfl⟩ := H
     go_wp2
     go_ret2
     exact ⟨_, by first | rfl | (simp [errW_none, errW_some] <;> rfl) | (simp [*, errW_none, errW_some] <;> rfl), vq_ HO_0, bsv_⟩
   · replace c10 := Bool.eq_false_iff.mpr c10
     subst c10
     rw [if_neg (show ¬ (false = true) by decide)] at H
     obtain ⟨t408, A11, H⟩ := bd_ H
     have H' := ak H
     clear H
     go_wp2_with (first | ((with_reducible refine gate_callee (f := 65) rfl ?_); refine goesL_ (some 18) rfl rfl Try.func65 (by kernel_rfl) rfl #[.slice A0 l0.length c0] rfl mp_ ?_; (with_reducible refine (slices_Clone_65.calls _ _ l0 t408 _ ?side1 ?side2 A11.out).mono ?_); (case side1 => exact vc_ HO_0); (case side2 => exact vl_ HO_0); rintro e w12 ⟨v409, rfl, ho0, hb⟩; refine ⟨_, rfl, ?_⟩; replace HO_0 := ak (Kd.V_elder' (vq_ HO_0) (Kd.R_base ho0) hb); replace HO410 := ak (Kd.R_lower (Kd.R_newM (M := fun k_ => (w.heap.size ≤ k_)) ho0 bsz_ (fun k_ h_ => h_)) bsz_); replace HB := ak (bst_ hb); (try clear hb); (try clear hb2); (try clear hk); (try clear hi); (try clear ho0)))
     go_loopg [21] kj2 (fun kq v21 w' => ∃ (x6_2 : List (S98)) (x21_2 : Int), v21 = .int .i64 x21_2 ∧ Aside0 (heap_Put.l0 kq l0 x6_2 l1 (l1.length : Int) x21_2 = some (r1, r2)) ∧ Aside0 (kq ≤ kj2) ∧ Aside0 (Kd.V k98 98 w' w.heap.size (fun k_ => (P0_ k_ ∨ w.heap.size ≤ k_) ∧ some k_ ≠ (v409 : Value).ownBlock) (.slice A0 l0.length c0) l0) ∧ Aside0 (Kd.R k98 98 w' w.heap.size (fun k_ => (w.heap.size ≤ k_)) v409 x6_2) ∧ Aside0 (Below w.heap.size w w'))
     case atStart => exact ⟨(t408), (0), (by first | rfl | (simp; done) | (simp [*]; done)), H', ⟨Nat.le_refl _⟩, ⟨vq_ HO_0⟩, ⟨Kd.R_mono (rq_ HO410) (fun _ hk => hk.1)⟩, ⟨bsv_⟩⟩
     case round =>
      clear H'
      try clear c1
      try clear p2
      try clear c3
      try clear c5
      try clear c6
      try clear c10
      try clear p2
      obtain ⟨x6_2, x21_2, rfl, HA, HK2, HO_0, HO_6, HB⟩ := hrel
      cases gk with
      | zero => exact absurd HA.out (by simp [heap_Put.l0])
      | succ k2 =>
       have H := HA.out
       clear HA
       simp only [heap_Put.l0] at H
       by_cases c13 : x21_2 < (l1.length : Int)
       · rw [if_pos c13] at H
         have c13b0 : decide (x21_2 < (l1.length : Int)) = true := decide_eq_true c13
         clear c13
         by_cases c14 : 0 ≤ x21_2
         · rw [if_pos c14] at H
           have c14b0 : decide (0 ≤ x21_2) = true := decide_eq_true c14
           clear c14
           by_cases c15 : x21_2 < (l1.length : Int)
           · rw [if_pos c15] at H
             have c15b0 : decide (x21_2 < (l1.length : Int)) = true := decide_eq_true c15
             clear c15
             obtain ⟨t413, A16, H⟩ := bd_ H
             by_cases c17 : t413 = true
             · subst c17
               rw [if_pos rfl] at H
               by_cases c18 : 0 ≤ ((rd_T62 l1 x21_2).f0)
               · rw [if_pos c18] at H
                 have c18b0 : decide (0 ≤ ((rd_T62 l1 x21_2).f0)) = true := decide_eq_true c18
                 clear c18
                 by_cases c19 : ((rd_T62 l1 x21_2).f0) < (x6_2.length : Int)
                 · rw [if_pos c19] at H
                   have c19b0 : decide (((rd_T62 l1 x21_2).f0) < (x6_2.length : Int)) = true := decide_eq_true c19
                   clear c19
                   obtain ⟨y414, hy414⟩ : ∃ y_ : List (S98), y_ = (x6_2.set (((rd_T62 l1 x21_2).f0) : Int).toNat (⟨(rd_T98 x6_2 ((rd_T62 l1 x21_2).f0)).f0, (rd_T62 l1 x21_2).f1⟩ : S98)) := ⟨_, rfl⟩
                   replace H : (heap_Put.l0 k2 l0 y414 l1 (l1.length : Int) (wrap64 (x21_2 + 1))) = some (r1, r2) := by first | (rw [hy414]; with_reducible exact H) | (have H2_ := (Option.bind_some _ _).symm.trans H; rw [hy414]; with_reducible exact H2_) | (have H2_ := (Option.bind_some _ _).symm.trans H; with_reducible exact H2_) | with_reducible exact H | (rw [hy414]; exact H) | exact H
                   have Ny414 := ak hy414
                   clear hy414
                   have H' := ak H
                   clear H
                   have p411 : 0 ≤ (x21_2 : Int) := oda_
                   have q411 : x21_2 < (l1.length : Int) := oda_
                   obtain ⟨ad411, e411, hx411_0, hx411_1⟩ := at_T62 HR1.out x21_2 p411 q411
                   cases e411
                   replace hx411_0 := bl_ HB hx411_0
                   replace hx411_1 := bl_ HB hx411_1
                   replace p411 := eq_true p411
                   replace q411 := eq_true q411
                   go_wp2_with (first | ((with_reducible refine gate_dst (N := 8) rfl ?_); refine box_event ?hg (N := 8) ?hd (cs := #[.int .i64 0, .int .i64 0]) (t := 62) ?hr ?_; (case hd => rfl); (case hg => rfl); (case hr => first | (go_simp; done) | (go_simp; rfl)); intro gb412 hg w21 hbox hb; replace HO_0 := ak (Kd.V_below (Kd.V_elderB (vq_ HO_0) gb412 (Nat.le_of_eq hg.symm)) hb); replace HO_6 := rb_ HO_6 hb; replace BK412 := ak (hbox); replace GW412 := ak ((by rw [hg]; exact bsz_ : w.heap.size ≤ gb412)); replace HB := ak (bst_ hb); replace GE412 := GW412; clear hb hbox hg; obtain ⟨hcz22_0, hcz22_1, hfz22_0, hfz22_1⟩ := bz2_ BK412) | ((with_reducible refine gate_store (t := 62) (p := 8) rfl ?_); refine store_event (t := 62) (p := 8) (v := ?vo_w23) (w1 := ((w21.setCell ⟨gb412, 0, none⟩ (.int .i64 ((rd_T62 l1 x21_2).f0))).setCell ⟨gb412, 1, none⟩ (.int .i64 ((rd_T62 l1 x21_2).f1)))) ?hg ?ho ?hn ?hr ?_; (case ho => rfl); (case hg => rfl); (case hn => rfl); (case hr => first | (go_simp; done) | (go_simp; rfl)); intro w23 hw; have n0_ : Aside0 (Kd.V k98 98 w23 w.heap.size (fun k_ => (P0_ k_ ∨ w.heap.size ≤ k_) ∧ some k_ ≠ (v409 : Value).ownBlock ∧ k_ ≠ gb412) (.slice A0 l0.length c0) l0) := ⟨(by rw [hw]; exact (by (with_reducible repeat (first | apply Kd.V_alloc | apply Kd.V_drewN | apply Kd.V_drew)); exact Kd.V_mono (Kd.V_far (p := ⟨gb412, 1, none⟩) (Kd.V_far (p := ⟨gb412, 0, none⟩) (Kd.V_mono HO_0.out (fun k_ hk => (⟨hk, hk.2⟩ : _ ∧ k_ ≠ gb412))) (fun _ hk => hk.2) (.int .i64 ((rd_T62 l1 x21_2).f0))) (fun _ hk => hk.2) (.int .i64 ((rd_T62 l1 x21_2).f1))) (fun _ hk => ⟨hk.1.1.1, ⟨hk.1.1.2, hk.1.2⟩⟩)))⟩; have n1_ : Aside0 (Kd.R k98 98 w23 w.heap.size (fun k_ => (w.heap.size ≤ k_)) v409 x6_2) := ⟨(by rw [hw]; exact (by (with_reducible repeat (first | apply Kd.R_alloc | apply Kd.R_drewN | apply Kd.R_drew)); exact Kd.R_mono (Kd.R_far (p := ⟨gb412, 1, none⟩) (Kd.R_far (p := ⟨gb412, 0, none⟩) (Kd.R_types HO_6.out BK412.out (by decide)) (fun _ hk => hk.2) (.int .i64 ((rd_T62 l1 x21_2).f0))) (fun _ hk => hk.2) (.int .i64 ((rd_T62 l1 x21_2).f1))) (fun _ hk => hk.1)))⟩; have n2_ : Aside0 (w23.heap[gb412]? = some (.cells #[.int .i64 ((rd_T62 l1 x21_2).f0), .int .i64 ((rd_T62 l1 x21_2).f1)] 62 (0, 0))) := ⟨(by rw [hw]; exact (by (with_reducible repeat (first | refine blk_drewN ?_ _ | refine blk_drew ?_ | refine blk_alloc ?_ _)); refine blk_put (cs := #[.int .i64 ((rd_T62 l1 x21_2).f0), .int .i64 0]) ?_ 1 _ rfl; (with_reducible repeat (first | refine blk_drewN ?_ _ | refine blk_drew ?_ | refine blk_alloc ?_ _)); refine blk_put (cs := #[.int .i64 0, .int .i64 0]) ?_ 0 _ rfl; (with_reducible repeat (first | refine blk_drewN ?_ _ | refine blk_drew ?_ | refine blk_alloc ?_ _)); exact BK412.out))⟩; have n3_ : Aside0 (Below w.heap.size w w23) := ⟨(by rw [hw]; exact bsw_)⟩; clear hw; clear HO_0; clear HO_6; clear BK412; clear HB; have HO_0 := n0_; have HO_6 := n1_; have BK412 := n2_; have HB := n3_; clear n0_ n1_ n2_ n3_; obtain ⟨hcz24_0, hcz24_1, hfz24_0, hfz24_1⟩ := bz2_ BK412) | ((with_reducible refine gate_callee (f := 66) rfl ?_); refine goesL_ (some 28) rfl rfl Try.func66 (by kernel_rfl) rfl #[.slice A0 l0.length c0, .int .i64 ((rd_T62 l1 x21_2).f0)] rfl mp_ ?_; (with_reducible refine (heap_there.calls _ _ l0 ((rd_T62 l1 x21_2).f0) true _ ?side1 ?side2 A16.out).mono ?_); (case side1 => exact vc_ HO_0); (case side2 => exact vl_ HO_0); rintro e w' ⟨rfl, ⟨nd, rfl⟩⟩; refine ⟨_, rfl, ?_⟩; (try (rw [drewN_self w23]; generalize hq_ : World.drewN w23 _ = w23; have n0_ : Aside0 (Kd.V k98 98 w23 w.heap.size (fun k_ => (P0_ k_ ∨ w.heap.size ≤ k_) ∧ some k_ ≠ (v409 : Value).ownBlock ∧ k_ ≠ gb412) (.slice A0 l0.length c0) l0) := ⟨by rw [← hq_]; exact (vq_ HO_0)⟩; have n1_ : Aside0 (Kd.R k98 98 w23 w.heap.size (fun k_ => (w.heap.size ≤ k_)) v409 x6_2) := ⟨by rw [← hq_]; exact (rq_ HO_6)⟩; have n2_ : Aside0 (w23.heap[gb412]? = some (.cells #[.int .i64 ((rd_T62 l1 x21_2).f0), .int .i64 ((rd_T62 l1 x21_2).f1)] 62 (0, 0))) := ⟨by rw [← hq_]; exact (bq_ BK412)⟩; have n3_ : Aside0 (Below w.heap.size w w23) := ⟨by rw [← hq_]; exact bsw_⟩; clear HO_0 HO_6 BK412 HB hq_; have HO_0 := n0_; have HO_6 := n1_; have BK412 := n2_; have HB := n3_; clear n0_ n1_ n2_ n3_)); (try have hcu412_0 : w23.cell? ⟨gb412, 0, none⟩ = some (.int .i64 ((rd_T62 l1 x21_2).f0)) := (blk_cell BK412.out 0).trans rfl); (try have hcu412_1 : w23.cell? ⟨gb412, 1, none⟩ = some (.int .i64 ((rd_T62 l1 x21_2).f1)) := (blk_cell BK412.out 1).trans rfl); have p20 : 0 ≤ (((rd_T62 l1 x21_2).f0) : Int) := oda_; have q20 : (((rd_T62 l1 x21_2).f0) : Int) < ((x6_2.length : Int) : Int) := oda_; obtain ⟨go20, co20, eo20, gb20, gl20, cl20, HG20⟩ := Kd.R_form HO_6.out (by omega); (first | cases eo20 | (injection eo20 with ea_ en_ ec_; (first | subst ea_ | (injection ea_ with ea_; subst ea_)); subst ec_; clear en_)); have GB20 := ak gb20; have GG20 := ak HG20; clear gb20 gl20 HG20; obtain ⟨ce20, hcl20, hM20, hcc20, hfr20⟩ := Kd.R_elem HO_6.out z98 (((rd_T62 l1 x21_2).f0) : Int) p20 q20; obtain rfl := k98_openM hM20; have hx20_0 : w23.cell? ⟨go20, (((rd_T62 l1 x21_2).f0) : Int).toNat * 2, none⟩ = some (.bool ((rd_T98 x6_2 ((rd_T62 l1 x21_2).f0)).f0)) := hcc20 0 _ rfl; have hx20_1 : w23.cell? ⟨go20, (((rd_T62 l1 x21_2).f0) : Int).toNat * 2 + 1, none⟩ = some (.int .i64 ((rd_T98 x6_2 ((rd_T62 l1 x21_2).f0)).f1)) := hcc20 1 _ rfl; have hf20_0 : w23.frozen? ⟨go20, (((rd_T62 l1 x21_2).f0) : Int).toNat * 2, none⟩ = false := hfr20 0; have hf20_1 : w23.frozen? ⟨go20, (((rd_T62 l1 x21_2).f0) : Int).toNat * 2 + 1, none⟩ = false := hfr20 1; clear hcl20 hcc20 hfr20 hM20; replace p20 := eq_true p20; replace q20 := eq_true q20; have HX25 := ak (show Kd.R k98 98 w23 w.heap.size (fun k_ => (w.heap.size ≤ k_)) (.slice (some ⟨go20, 0, none⟩) x6_2.length co20) x6_2 from (rq_ HO_6)); obtain ⟨ce25, hcl25, hM25, hcc25, hfr25⟩ := Kd.R_elem HX25.out z98 (((rd_T62 l1 x21_2).f0) : Int) (oda_) (by have h_ : (((rd_T62 l1 x21_2).f0) : Int) < ((x6_2.length : Int) : Int) := oda_; first | exact h_ | (have e_ := (Kd.R_reads' HO_6.out).1; omega) | simpa using h_); obtain rfl := k98_openM hM25; have HP25 := Kd.R_seg HX25.out (((rd_T62 l1 x21_2).f0) : Int) (oda_) (by have h_ : (((rd_T62 l1 x21_2).f0) : Int) < ((x6_2.length : Int) : Int) := oda_; first | exact h_ | (have e_ := (Kd.R_reads' HO_6.out).1; omega) | simpa using h_) (seg := [.int .i64 ((rd_T62 l1 x21_2).f1)]) (j := 1) hcl25 hcc25 (show 2 ≤ 2 from by decide) (x' := (⟨(rd_T98 x6_2 ((rd_T62 l1 x21_2).f0)).f0, (rd_T62 l1 x21_2).f1⟩ : S98)) (k98_mkM _ _ _ (⟨(rd_T98 x6_2 ((rd_T62 l1 x21_2).f0)).f0, (rd_T62 l1 x21_2).f1⟩ : S98) ) (fun _ hk => hk); have hx25_1 := hcc25 1 _ rfl; (try simp only [show (k98).sz = 2 from rfl, Nat.mul_one, Nat.add_zero] at hx25_1); have hf25_1 := hfr25 1; (try simp only [show (k98).sz = 2 from rfl, Nat.mul_one, Nat.add_zero] at hf25_1); clear hcl25 hcc25 hfr25 hM25) | ((with_reducible refine gate_store (t := 3) (p := 37) rfl ?_); refine store_event (t := 3) (p := 37) (v := ?vo_w26) (w1 := (w23.setCell ⟨go20, (((rd_T62 l1 x21_2).f0) : Int).toNat * 2 + 1, none⟩ (.int .i64 ((rd_T62 l1 x21_2).f1)))) ?hg ?ho ?hn ?hr ?_; (case ho => rfl); (case hg => rfl); (case hn => rfl); (case hr => first | (go_simp; done) | (go_simp; rfl)); intro w26 hw; have hg : w23.grownBy w26 (some go20) := (by rw [hw]; exact HP25.2); have hp_ : Kd.R k98 98 w26 w.heap.size (fun k_ => (w.heap.size ≤ k_)) (.slice (some ⟨go20, 0, none⟩) x6_2.length co20) y414 := (by rw [hw, Ny414.out]; exact HP25.1); clear HP25; replace HO_0 := ak (Kd.V_afterv (v := (.slice (some ⟨go20, 0, none⟩) x6_2.length co20)) (v1 := (.slice (some ⟨go20, 0, none⟩) x6_2.length co20)) (ok := (fun k_ => (P0_ k_ ∨ w.heap.size ≤ k_) ∧ k_ ≠ gb412)) (Kd.V_mono (vq_ HO_0) (fun _ hk => ⟨⟨hk.1, hk.2.2⟩, hk.2.1⟩)) hg (.inl rfl)); replace BK412 := ak (blk_grown (g := gb412) (o := .cells #[.int .i64 ((rd_T62 l1 x21_2).f0), .int .i64 ((rd_T62 l1 x21_2).f1)] 62 (0, 0)) (bq_ BK412) hg (Kd.R_ne HO_6.out BK412.out (by decide))); replace HO_6 := ak (hp_); replace HB := ak ((by rw [hw]; exact below_set (HB.out) GB20.out : Below w.heap.size w w26)); clear hg hw hp_))
                   go_roundg k2
                   case measure => have := HJ2.out; have := HK2.out; omega
                   case rel => exact ⟨(y414), (wrap64 (x21_2 + 1)), (by first | rfl | (simp; done) | (simp [*]; done)), H', ⟨by have := HJ2.out; have := HK2.out; omega⟩, ⟨Kd.V_mono (vq_ HO_0) (fun _ hk => ⟨hk.1.1, hk.2⟩)⟩, ⟨rq_ HO_6⟩, ⟨bsw_⟩⟩
                 · rw [if_neg c19] at H
                   exact absurd H (by simp)
               · rw [if_neg c18] at H
                 exact absurd H (by simp)
             · replace c17 := Bool.eq_false_iff.mpr c17
               subst c17
               rw [if_neg (show ¬ (false = true) by decide)] at H
               simp only [Option.some.injEq, Prod.mk.injEq] at H
               obtain ⟨rfl, rfl⟩ := H
               have p411 : 0 ≤ (x21_2 : Int) := oda_
               have q411 : x21_2 < (l1.length : Int) := oda_
               obtain ⟨ad411, e411, hx411_0, hx411_1⟩ := at_T62 HR1.out x21_2 p411 q411
               cases e411
               replace hx411_0 := bl_ HB hx411_0
               replace hx411_1 := bl_ HB hx411_1
               replace p411 := eq_true p411
               replace q411 := eq_true q411
               go_wp2_with (first | ((with_reducible refine gate_dst (N := 8) rfl ?_); refine box_event ?hg (N := 8) ?hd (cs := #[.int .i64 0, .int .i64 0]) (t := 62) ?hr ?_; (case hd => rfl); (case hg => rfl); (case hr => first | (go_simp; done) | (go_simp; rfl)); intro gb412 hg w27 hbox hb; replace HO_0 := ak (Kd.V_below (Kd.V_elderB (vq_ HO_0) gb412 (Nat.le_of_eq hg.symm)) hb); replace HO_6 := rb_ HO_6 hb; replace BK412 := ak (hbox); replace GW412 := ak ((by rw [hg]; exact bsz_ : w.heap.size ≤ gb412)); replace HB := ak (bst_ hb); replace GE412 := GW412; clear hb hbox hg; obtain ⟨hcz28_0, hcz28_1, hfz28_0, hfz28_1⟩ := bz2_ BK412) | ((with_reducible refine gate_callee (f := 66) rfl ?_); refine goesL_ (some 28) rfl rfl Try.func66 (by kernel_rfl) rfl #[.slice A0 l0.length c0, .int .i64 ((rd_T62 l1 x21_2).f0)] rfl mp_ ?_; (with_reducible refine (heap_there.calls _ _ l0 ((rd_T62 l1 x21_2).f0) false _ ?side1 ?side2 A16.out).mono ?_); (case side1 => refine (Kd.V_reads' (e := 98) (base := w.heap.size) (ok := fun k_ => ((((P0_ k_ ∨ w.heap.size ≤ k_)) ∧ some k_ ≠ (v409 : Value).ownBlock) ∧ k_ ≠ gb412)) (n := l0.length) (c := c0) ?_).2.2; exact (by (with_reducible repeat (first | apply Kd.V_alloc | apply Kd.V_drewN | apply Kd.V_drew)); exact (Kd.V_mono (Kd.V_far (p := ⟨gb412, 1, none⟩) (Kd.V_far (p := ⟨gb412, 0, none⟩) (Kd.V_mono HO_0.out (fun k_ hk => (⟨hk, hk.2⟩ : _ ∧ k_ ≠ gb412))) (fun _ hk => hk.2) (.int .i64 ((rd_T62 l1 x21_2).f0))) (fun _ hk => hk.2) (.int .i64 ((rd_T62 l1 x21_2).f1))) (fun _ h_ => h_.1)))); (case side2 => exact vl_ HO_0); rintro e w' ⟨rfl, ⟨nd, rfl⟩⟩; refine ⟨_, rfl, ?_⟩))
               go_ret2
               exact ⟨_, by first | rfl | (simp [errW_none, errW_some] <;> rfl) | (simp [*, errW_none, errW_some] <;> rfl), by (with_reducible repeat (first | apply Kd.V_alloc | apply Kd.V_drewN | apply Kd.V_drew)); exact Kd.V_mono (Kd.V_far (p := ⟨gb412, 1, none⟩) (Kd.V_far (p := ⟨gb412, 0, none⟩) (Kd.V_mono HO_0.out (fun k_ hk => (⟨hk, hk.2⟩ : _ ∧ k_ ≠ gb412))) (fun _ hk => hk.2) (.int .i64 ((rd_T62 l1 x21_2).f0))) (fun _ hk => hk.2) (.int .i64 ((rd_T62 l1 x21_2).f1))) (fun _ hk => hk.1.1.1), bsw_⟩
           · rw [if_neg c15] at H
             exact absurd H (by simp)
         · rw [if_neg c14] at H
           exact absurd H (by simp)
       · rw [if_neg c13] at H
         have c13b0 : decide (x21_2 < (l1.length : Int)) = false := decide_eq_false c13
         clear c13
         simp only [Option.some.injEq, Prod.mk.injEq] at H
         obtain ⟨rfl, rfl⟩ := H
         go_wp2
         go_ret2
         exact ⟨_, by first | rfl | (simp [errW_none, errW_some] <;> rfl) | (simp [*, errW_none, errW_some] <;> rfl), Kd.V_mono (Kd.R_V (rq_ HO_6)) (fun k_ hk => by first | exact ⟨(.inr (hk.1)), hk.2⟩ | exact (.inr (hk))), bsv_⟩

/-! ### wfS62 -/
def wfS62 (x : S62) : Prop := (Lit.int .i64 x.f0).wf = true ∧ (Lit.int .i64 x.f1).wf = true

/-! ### wfS98 -/
def wfS98 (x : S98) : Prop := True ∧ (Lit.int .i64 x.f1).wf = true

end Go.Proofs.Ytjnkpocfmpbpoaa.F
