-- PRINTED by print.py (a twelfth state) out of the translation. Not trusted: Lean checks it.
import Derived.Test.YtihcnbhcemkncaaBx0
import Derived.Test.YtihcnbhcemkncaaBx3
import Derived.Test.YtihcnbhcemkncaaBx4
import Derived.Test.YtihcnbhcemkncaaBx5
namespace Go.Proofs.Ytihcnbhcemkncaa.B
open Go.Proofs.Ytihcnbhcemkncaa.Ho
open Go.RowKit Go.Proofs.YtihcnbhcemkncaaW.PrintWords Go.Proofs.YtihcnbhcemkncaaW.PrintLast Go.Proofs.YtihcnbhcemkncaaW.PrintMore
attribute [local go_sem] max2_int min2_int max_two min_two max_three min_three max_four min_four   -- for this text's walks alone
set_option linter.unusedVariables false
set_option linter.unusedSimpArgs false

/-! ### heap_Put_1: function 79 -/
def heap_Put_1.f (a0_0 : Int) (a0_1 : Int) : Option (Bool) := (span_Right.f a0_1).bind fun t162 => (some (!t162))
set_option maxHeartbeats 8000000 in
set_option maxRecDepth 100000 in
theorem heap_Put_1.calls (a0_0 : Int) (a0_1 : Int) (r : Bool) (w : World) (h : heap_Put_1.f a0_0 a0_1 = some r) :
 Calls Try.prog 79 #[.agg #[.int .i64 a0_0, .int .i64 a0_1]] w fun e w' => e = .returned (.bool r) ∧ Below w.heap.size w w' := by
 have hu77 := Try.underlying77
 have HB := Aside0.mk (Below.refl w.heap.size w)
 have H : ((span_Right.f a0_1).bind fun t162 => (some (!t162))) = some r := h
 clear h
 replace H := Option.bind_eq_some_iff.mp H
 obtain ⟨t162, A20, H⟩ := H
 have A2 := Aside0.mk A20
 clear A20
 obtain rfl := Option.some.inj H
 go_enter Try.func79, Try.ntmps79
 go_wp2_with (first | ((with_reducible refine gate_dst (N := 1) rfl ?_); refine box_event ?hg (N := 1) ?hd (cs := #[.int .i64 a0_0, .int .i64 a0_1]) (t := 77) ?hr ?_; (case hd => rfl); (case hg => rfl); (case hr => first | (go_simp; done) | (go_simp; rfl)); intro gb161 hg w3 hbox hb; replace BK161 := Aside0.mk (hbox); replace GW161 := Aside0.mk ((by rw [hg]; exact bsz_ : w.heap.size ≤ gb161)); replace HB := Aside0.mk (bst_ hb); replace GE161 := GW161; clear hb hbox hg; have hcz4_0 : w3.cell? ⟨gb161, 0, none⟩ = some (.int .i64 a0_0) := (blk_cell BK161.out 0).trans rfl; have hcz4_1 : w3.cell? ⟨gb161, 1, none⟩ = some (.int .i64 a0_1) := (blk_cell BK161.out 1).trans rfl; have hfz4_0 := blk_frozen BK161.out 0; have hfz4_1 := blk_frozen BK161.out 1) | ((with_reducible refine gate_callee (f := 80) rfl ?_); refine goesL_ (some 5) rfl rfl Try.func80 (by kernel_rfl) rfl #[.int .i64 a0_1] rfl mp_ ?_; (with_reducible refine (span_Right.calls a0_1 t162 _ A2.out).mono ?_); rintro e w' ⟨rfl, ⟨nd, rfl⟩⟩; refine ⟨_, rfl, ?_⟩))
 go_ret
 exact ⟨by first | rfl | (simp [errW_none, errW_some] <;> rfl) | (simp [*, errW_none, errW_some] <;> rfl), bsw_⟩

/-! ### ho89: slices.IndexFunc, function 89, at whatever function value that reads -/
set_option maxHeartbeats 2000000 in
theorem ho89 (p : S77 → Option Bool) (g : Nat) (la lb : Array Value) (eg : ∀ args w, (callFunc g args).run Try.prog w = .ok (.enter g args) w) (A0 : Option Addr) (c0 : Nat) (l0 : List S77) (r : Int) (w : World)
 (hr0 : Kd.C k77 w A0 l0.length l0)
 (hp : ∀ (W : World) (x : S77) (b : Bool), Below w.heap.size w W → p x = some b → Calls Try.prog g (la ++ #[.agg #[.int .i64 x.f0, .int .i64 x.f1]] ++ lb) W fun e W' => e = .returned (.bool b) ∧ Below W.heap.size W W')
 (h : idxF p l0 0 = some r) :
 Calls Try.prog 89 #[.slice A0 l0.length c0, .func (.func g) la lb] w fun e w' => e = .returned (.int .i64 r) ∧ Below w.heap.size w w' := by
 have hmax : l0.length ≤ 9223372036854775807 := Kd.C_max hr0
 have hread : ∀ (W : World), Below w.heap.size w W → ∀ j : Nat, j < l0.length → ∃ ad, A0 = some ad ∧ W.cell? (ad.add (j * 2)) = some (.int .i64 ((rd_T77 l0 j).f0)) ∧ W.cell? ⟨(ad.add (j * 2)).block, (ad.add (j * 2)).off + 1, none⟩ = some (.int .i64 ((rd_T77 l0 j).f1)) := by
  intro W hW j hj
  have := at_T77 (Kd.C_below hr0 hW) (j : Int) (by omega) (by omega)
  simpa only [Int.toNat_natCast] using this
 generalize hn : l0.length = n at *
 have HR := Aside0.mk hread
 have HP := Aside0.mk hp
 have HH := Aside0.mk h
 clear hread hp h hr0
 have HN := Aside0.mk hn
 clear hn
 go_enter Try.func89, Try.ntmps89
 go_wp2
 go_loopg [5, 8] n (fun gg _ s8 wr => ∃ kk : Nat, kk ≤ n ∧ n - kk ≤ gg ∧ s8 = .int .i64 kk ∧ Aside0 (Below w.heap.size w wr) ∧ Aside0 (idxF p (l0.drop kk) kk = some r))
 case atStart => exact ⟨0, Nat.zero_le _, by omega, rfl, ⟨Below.refl _ w⟩, ⟨HH.out⟩⟩
 case round =>
  obtain ⟨kk, hkk, hg, rfl, BW, HI⟩ := hrel
  by_cases hlt : kk < n
  · have hltz : (kk : Int) < (n : Int) := by omega
    obtain ⟨ad, e0, q0, q1⟩ := HR.out wr BW.out kk hlt
    have hi := HI.out
    rw [idxF_drop p l0 z77 kk (by rw [HN.out]; exact hlt)] at hi
    obtain ⟨b, hb, hi⟩ := Option.bind_eq_some_iff.mp hi
    have hcall := HP.out wr _ b BW.out hb
    (try rw [show l0.getD kk z77 = rd_T77 l0 kk from rfl] at hcall)
    generalize rd_T77 l0 kk = y at q0 q1 hcall
    subst e0
    clear hb HI
    cases b with
    | true =>
     have hi2 : (kk : Int) = r := by simpa using hi
     clear hi
     have HE := Aside0.mk hi2
     clear hi2
     go_wp2_with (go_at_fn g; refine hcall.mono ?_; rintro e w' ⟨rfl, hb'⟩)
     go_ret
     exact ⟨by first | rfl | (rw [← HE.out]; rfl) | simp [HE.out], BW.out.trans (hb'.mono BW.out.size)⟩
    | false =>
     have hi2 : idxF p (l0.drop (kk + 1)) (kk + 1) = some r := by simpa using hi
     clear hi
     have HE := Aside0.mk hi2
     clear hi2
     go_wp2_with (go_at_fn g; refine hcall.mono ?_; rintro e w' ⟨rfl, hb'⟩)
     go_roundg (n - (kk + 1))
     case measure => omega
     case rel =>
      exact ⟨kk + 1, by omega, by omega, by go_num, ⟨BW.out.trans (hb'.mono BW.out.size)⟩, ⟨HE.out⟩⟩
  · have hltz : ¬ (kk : Int) < (n : Int) := by omega
    have : kk = n := by omega
    subst this
    have hi := HI.out
    rw [List.drop_of_length_le (by rw [HN.out]; omega)] at hi
    have hi2 : -1 = r := by simpa [idxF] using hi
    clear hi HI
    have HE := Aside0.mk hi2
    clear hi2
    go_wp2
    go_ret
    exact ⟨by first | rfl | (rw [← HE.out]; rfl) | simp [HE.out], BW.out⟩

/-! ### ho78: slices.ContainsFunc, function 78 -/
set_option maxHeartbeats 2000000 in
theorem ho78 (p : S77 → Option Bool) (g : Nat) (la lb : Array Value) (eg : ∀ args w, (callFunc g args).run Try.prog w = .ok (.enter g args) w) (A0 : Option Addr) (c0 : Nat) (l0 : List S77) (r : Bool) (w : World)
 (hr0 : Kd.C k77 w A0 l0.length l0)
 (hp : ∀ (W : World) (x : S77) (b : Bool), Below w.heap.size w W → p x = some b → Calls Try.prog g (la ++ #[.agg #[.int .i64 x.f0, .int .i64 x.f1]] ++ lb) W fun e W' => e = .returned (.bool b) ∧ Below W.heap.size W W')
 (h : anyF p l0 = some r) :
 Calls Try.prog 78 #[.slice A0 l0.length c0, .func (.func g) la lb] w fun e w' => e = .returned (.bool r) ∧ Below w.heap.size w w' := by
 obtain ⟨i, hi, hd⟩ := any_idx l0 0 r (by decide) h
 have hc := Aside0.mk (ho89 p g la lb eg A0 c0 l0 i w hr0 hp hi)
 have HD := Aside0.mk hd
 clear hd hi h hp hr0 eg
 go_enter Try.func78, Try.ntmps78
 go_wp2_with (go_at_call 89; refine hc.out.mono ?_; rintro e w' ⟨rfl, hb⟩)
 go_ret
 exact ⟨by first | rfl | (rw [← HD.out]; rfl) | simp [HD.out], hb⟩

/-! ### any_at_heap_Put_1: function 78 at the function value 79 -/
def any_at_heap_Put_1.f (l0 : List (S77)) : Option (Bool) := anyF (fun x => heap_Put_1.f  x.f0 x.f1) l0
theorem any_at_heap_Put_1.calls (A0 : Option Addr) (c0 : Nat) (l0 : List (S77)) (r : Bool) (w : World) (hr0 : Kd.C k77 w A0 l0.length l0) (hc0 : l0.length ≤ c0) (h : any_at_heap_Put_1.f l0 = some r) :
 Calls Try.prog 78 #[.slice A0 l0.length c0, .func (.func 79) #[] #[]] w fun e w' => e = .returned (.bool r) ∧ Below w.heap.size w w' :=
 ho78 (fun x => heap_Put_1.f  x.f0 x.f1) 79 #[] #[] (enters_of Try.func79 (by kernel_rfl) rfl) A0 c0 l0 r w hr0 (fun W x b hW_ hx => by
  show Calls Try.prog 79 #[.agg #[.int .i64 x.f0, .int .i64 x.f1]] W _
  exact (heap_Put_1.calls  x.f0 x.f1 b W hx).mono (fun e W' ⟨he, hd⟩ => ⟨he, hd⟩)) h

/-! ### heap_Put: function 61 -/
mutual
def heap_Put.j0 : Nat → List (S66) → List (S77) → Bool → Option ((List (S66)) × Int)
 | 0, _, _, _ => none
 | k + 1, x0, x1, x15 => if x15 = true then (some (x0, 1)) else ((slices_Clone_76.f x0).bind fun t165 => (heap_Put.l0 k x0 t165 x1 (x1.length : Int) 0))
def heap_Put.l0 : Nat → List (S66) → List (S66) → List (S77) → Int → Int → Option ((List (S66)) × Int)
 | 0, _, _, _, _, _ => none
 | k + 1, x0, x6, x19, x20, x21 => if x21 < x20 then (if 0 ≤ x21 then (if x21 < (x19.length : Int) then ((heap_there.f x0 ((rd_T77 x19 x21).f0)).bind fun t170 => (if t170 = true then (if 0 ≤ ((rd_T77 x19 x21).f0) then (if ((rd_T77 x19 x21).f0) < (x6.length : Int) then (heap_Put.l0 k x0 (x6.set (((rd_T77 x19 x21).f0) : Int).toNat (⟨(rd_T66 x6 ((rd_T77 x19 x21).f0)).f0, (rd_T77 x19 x21).f1⟩ : S66)) x19 x20 (wrap64 (x21 + 1))) else (none)) else (none)) else (some (x0, 3)))) else (none)) else (none)) else (some (x6, 0))
end
def heap_Put.f (k : Nat) (l0 : List (S66)) (l1 : List (S77)) : Option ((List (S66)) × Int) := (heap_Right.f l0).bind fun t163 => (if t163 = true then ((any_at_heap_Put_1.f l1).bind fun t164 => (heap_Put.j0 k l0 l1 t164)) else (heap_Put.j0 k l0 l1 true))
theorem heap_Put.mono_l : ∀ k, (∀ y0 y1 y2, LeO (heap_Put.j0 k y0 y1 y2) (heap_Put.j0 (k + 1) y0 y1 y2)) ∧ (∀ y0 y1 y2 y3 y4, LeO (heap_Put.l0 k y0 y1 y2 y3 y4) (heap_Put.l0 (k + 1) y0 y1 y2 y3 y4))
 | 0 => ⟨fun _ _ _ r h => by simp [heap_Put.j0] at h, fun _ _ _ _ _ r h => by simp [heap_Put.l0] at h⟩
 | k + 1 => by
  obtain ⟨ih0, ih1⟩ := heap_Put.mono_l k
  refine ⟨?_, ?_⟩
  · intro y0 y1 y2
    unfold heap_Put.j0
    repeat' first
    | (with_reducible exact ih0 _ _ _)
    | (with_reducible exact ih1 _ _ _ _ _)
    | (with_reducible exact LeO.refl _)
    | (with_reducible exact LeO.none _)
    | (with_reducible refine LeO.ite ?_ ?_)
    | (with_reducible refine LeO.bind ?_ (fun _ => ?_))
    | exact ih0 _ _ _
    | exact ih1 _ _ _ _ _
    | exact LeO.none _
    | refine LeO.ite ?_ ?_
    | refine LeO.bind ?_ (fun _ => ?_)
  · intro y0 y1 y2 y3 y4
    unfold heap_Put.l0
    repeat' first
    | (with_reducible exact ih0 _ _ _)
    | (with_reducible exact ih1 _ _ _ _ _)
    | (with_reducible exact LeO.refl _)
    | (with_reducible exact LeO.none _)
    | (with_reducible refine LeO.ite ?_ ?_)
    | (with_reducible refine LeO.bind ?_ (fun _ => ?_))
    | exact ih0 _ _ _
    | exact ih1 _ _ _ _ _
    | exact LeO.none _
    | refine LeO.ite ?_ ?_
    | refine LeO.bind ?_ (fun _ => ?_)
theorem heap_Put.mono : ∀ a0 a1 k, LeO (heap_Put.f k a0 a1) (heap_Put.f (k + 1) a0 a1) := by
 intro a0 a1 k
 obtain ⟨ih0, ih1⟩ := heap_Put.mono_l k
 unfold heap_Put.f
 repeat' first
  | (with_reducible exact ih0 _ _ _)
  | (with_reducible exact ih1 _ _ _ _ _)
  | (with_reducible exact LeO.refl _)
  | (with_reducible exact LeO.none _)
  | (with_reducible refine LeO.ite ?_ ?_)
  | (with_reducible refine LeO.bind ?_ (fun _ => ?_))
  | exact ih0 _ _ _
  | exact ih1 _ _ _ _ _
  | exact LeO.none _
  | refine LeO.ite ?_ ?_
  | refine LeO.bind ?_ (fun _ => ?_)
set_option maxHeartbeats 8000000 in
set_option maxRecDepth 100000 in
theorem heap_Put.calls (k : Nat) (P0_ : Nat → Prop) (A0 : Option Addr) (c0 : Nat) (l0 : List (S66)) (A1 : Option Addr) (c1 : Nat) (l1 : List (S77)) (r1 : List (S66)) (r2 : Int) (w : World) (hs0 : Kd.V k66 66 w w.heap.size (fun k_ => P0_ k_) (.slice A0 l0.length c0) l0) (hr1 : Kd.C k77 w A1 l1.length l1) (hc1 : l1.length ≤ c1) (h : heap_Put.f k l0 l1 = some (r1, r2)) :
 Calls Try.prog 61 #[.slice A0 l0.length c0, .slice A1 l1.length c1] w fun e w' => ∃ v0_ : Value, e = .returned (.tuple #[v0_, .int .i64 r2]) ∧ Kd.V k66 66 w' w.heap.size (fun k_ => (P0_ k_ ∨ w.heap.size ≤ k_)) v0_ r1 ∧ Below w.heap.size w w' := by
 have hu77 := Try.underlying77
 have HO0 := Aside0.mk (show Kd.V k66 66 w w.heap.size (fun k_ => (P0_ k_ ∨ w.heap.size ≤ k_)) (.slice A0 l0.length c0) l0 from Kd.V_mono hs0 (fun k_ hk => .inl hk))
 have HR1 := Aside0.mk hr1
 have HC1 := Aside0.mk hc1
 clear hr1 hc1
 have HB := Aside0.mk (Below.refl w.heap.size w)
 have H : ((heap_Right.f l0).bind fun t163 => (if t163 = true then ((any_at_heap_Put_1.f l1).bind fun t164 => (heap_Put.j0 k l0 l1 t164)) else (heap_Put.j0 k l0 l1 true))) = some (r1, r2) := h
 clear h
 have HC3 := Aside0.mk H
 clear H
 go_enter Try.func61, Try.ntmps61
 go_upto_region 1 with (fail)
 go_cut [15] (fun v15 wc => ∃ (kq : Nat) (x15_2 : Bool), v15 = .bool x15_2 ∧ Aside0 (heap_Put.j0 kq l0 l1 x15_2 = some (r1, r2)) ∧ Aside0 (kq ≤ k) ∧ Aside0 (Kd.V k66 66 wc w.heap.size (fun k_ => (P0_ k_ ∨ w.heap.size ≤ k_)) (.slice A0 l0.length c0) l0) ∧ Aside0 (Below w.heap.size w wc))
 case first =>
  have H := HC3.out
  clear HC3
  replace H := Option.bind_eq_some_iff.mp H
  obtain ⟨t163, A40, H⟩ := H
  have A4 := Aside0.mk A40
  clear A40
  by_cases c5 : t163 = true
  · subst c5
    rw [if_pos rfl] at H
    replace H := Option.bind_eq_some_iff.mp H
    obtain ⟨t164, A60, H⟩ := H
    have A6 := Aside0.mk A60
    clear A60
    have H' := Aside0.mk H
    clear H
    go_wp2_with (first | ((with_reducible refine gate_callee (f := 45) rfl ?_); refine goesL_ (some 10) rfl rfl Try.func45 (by kernel_rfl) rfl #[.slice A0 l0.length c0] rfl mp_ ?_; (with_reducible refine (heap_Right.calls _ _ l0 true _ ?side1 ?side2 A4.out).mono ?_); (case side1 => repeat (first | exact (Kd.V_reads' HO0.out).2.2 | with_reducible first | refine Kd.C_alloc ?_ _ | refine Kd.C_drewN ?_ _ | refine Kd.C_drew ?_)); (case side2 => exact (Kd.V_reads' HO0.out).2.1); rintro e w7 ⟨rfl, hb⟩; refine ⟨_, rfl, ?_⟩; replace HO0 := vb_ HO0 hb; replace HB := Aside0.mk (bst_ hb); (try clear hb); (try clear hb2); (try clear hk); (try clear hi)) | (go_at_call 78; (with_reducible refine (any_at_heap_Put_1.calls _ _ l1 t164 _ ?side1 ?side2 A6.out).mono ?_); (case side1 => repeat (first | exact (Kd.C_below HR1.out HB.out) | with_reducible first | refine Kd.C_alloc ?_ _ | refine Kd.C_drewN ?_ _ | refine Kd.C_drew ?_)); (case side2 => exact HC1.out); rintro e w8 ⟨rfl, hb⟩; replace HO0 := vb_ HO0 hb; replace HB := Aside0.mk (bst_ hb); (try clear hb); (try clear hb2); (try clear hk); (try clear hi)))
    go_meet
    case rel => exact ⟨_, (t164), (by first | rfl | (simp; done) | (simp [*]; done)), H', ⟨by first | omega | exact Nat.le_refl _⟩, ⟨vq_ HO0⟩, ⟨bsv_⟩⟩
  · replace c5 := Bool.eq_false_iff.mpr c5
    subst c5
    rw [if_neg (show ¬ (false = true) by decide)] at H
    have H' := Aside0.mk H
    clear H
    go_wp2_with (first | ((with_reducible refine gate_callee (f := 45) rfl ?_); refine goesL_ (some 10) rfl rfl Try.func45 (by kernel_rfl) rfl #[.slice A0 l0.length c0] rfl mp_ ?_; (with_reducible refine (heap_Right.calls _ _ l0 false _ ?side1 ?side2 A4.out).mono ?_); (case side1 => repeat (first | exact (Kd.V_reads' HO0.out).2.2 | with_reducible first | refine Kd.C_alloc ?_ _ | refine Kd.C_drewN ?_ _ | refine Kd.C_drew ?_)); (case side2 => exact (Kd.V_reads' HO0.out).2.1); rintro e w9 ⟨rfl, hb⟩; refine ⟨_, rfl, ?_⟩; replace HO0 := vb_ HO0 hb; replace HB := Aside0.mk (bst_ hb); (try clear hb); (try clear hb2); (try clear hk); (try clear hi)))
    go_meet
    case rel => exact ⟨_, (true), (by first | rfl | (simp; done) | (simp [*]; done)), H', ⟨by first | omega | exact Nat.le_refl _⟩, ⟨vq_ HO0⟩, ⟨bsv_⟩⟩
 case rest =>
  clear HC3
  try clear c1
  try clear p2
  try clear c4
  try clear c5
  try clear c6
  obtain ⟨kq, x15_2, rfl, HA, HJ2, HO_0, HB⟩ := hcut
  cases kq with
  | zero => exact absurd HA.out (by simp [heap_Put.j0])
  | succ kj2 =>
   have H := HA.out
   clear HA
   simp only [heap_Put.j0] at H
   by_cases c10 : x15_2 = true
   · subst c10
     rw [if_pos rfl] at H
     simp only [Option.some.injEq, Prod.mk.injEq] at H
     obtain ⟨rfl, rfl⟩ := H
     go_wp2
     go_ret2
     exact ⟨_, by first | rfl | (simp [errW_none, errW_some] <;> rfl) | (simp [*, errW_none, errW_some] <;> rfl), vq_ HO_0, bsv_⟩
   · replace c10 := Bool.eq_false_iff.mpr c10
     subst c10
     rw [if_neg (show ¬ (false = true) by decide)] at H
     replace H := Option.bind_eq_some_iff.mp H
     obtain ⟨t165, A110, H⟩ := H
     have A11 := Aside0.mk A110
     clear A110
     have H' := Aside0.mk H
     clear H
     go_wp2_with (first | ((with_reducible refine gate_callee (f := 76) rfl ?_); refine goesL_ (some 18) rfl rfl Try.func76 (by kernel_rfl) rfl #[.slice A0 l0.length c0] rfl mp_ ?_; (with_reducible refine (slices_Clone_76.calls _ _ l0 t165 _ ?side1 ?side2 A11.out).mono ?_); (case side1 => repeat (first | exact (Kd.V_reads' HO_0.out).2.2 | with_reducible first | refine Kd.C_alloc ?_ _ | refine Kd.C_drewN ?_ _ | refine Kd.C_drew ?_)); (case side2 => exact (Kd.V_reads' HO_0.out).2.1); rintro e w12 ⟨v166, rfl, ho0, hb⟩; refine ⟨_, rfl, ?_⟩; replace HO_0 := Aside0.mk (Kd.V_elder' (vq_ HO_0) (Kd.R_base ho0) hb); replace HO167 := Aside0.mk (Kd.R_lower (Kd.R_newM (M := fun k_ => (w.heap.size ≤ k_)) ho0 bsz_ (fun k_ h_ => h_)) bsz_); replace HB := Aside0.mk (bst_ hb); (try clear hb); (try clear hb2); (try clear hk); (try clear hi); (try clear ho0)))
     go_loopg [21] kj2 (fun kq v21 w' => ∃ (x6_2 : List (S66)) (x21_2 : Int), v21 = .int .i64 x21_2 ∧ Aside0 (heap_Put.l0 kq l0 x6_2 l1 (l1.length : Int) x21_2 = some (r1, r2)) ∧ Aside0 (kq ≤ kj2) ∧ Aside0 (Kd.V k66 66 w' w.heap.size (fun k_ => (P0_ k_ ∨ w.heap.size ≤ k_) ∧ some k_ ≠ (v166 : Value).ownBlock) (.slice A0 l0.length c0) l0) ∧ Aside0 (Kd.R k66 66 w' w.heap.size (fun k_ => (w.heap.size ≤ k_)) v166 x6_2) ∧ Aside0 (Below w.heap.size w w'))
     case atStart => exact ⟨(t165), (0), (by first | rfl | (simp; done) | (simp [*]; done)), H', ⟨Nat.le_refl _⟩, ⟨vq_ HO_0⟩, ⟨Kd.R_mono (rq_ HO167) (fun _ hk => hk.1)⟩, ⟨bsv_⟩⟩
     case round =>
      clear H'
      try clear c1
      try clear p2
      try clear c4
      try clear c5
      try clear c6
      try clear c7
      try clear c10
      try clear p2
      obtain ⟨x6_2, x21_2, rfl, HA, HK2, HO_0, HO_6, HB⟩ := hrel
      cases gk with
      | zero => exact absurd HA.out (by simp [heap_Put.l0])
      | succ k2 =>
       have H := HA.out
       clear HA
       simp only [heap_Put.l0] at H
       by_cases c13 : x21_2 < (l1.length : Int)
       · rw [if_pos c13] at H
         have c13b0 : decide (x21_2 < (l1.length : Int)) = true := decide_eq_true c13
         clear c13
         by_cases c14 : 0 ≤ x21_2
         · rw [if_pos c14] at H
           have c14b0 : decide (0 ≤ x21_2) = true := decide_eq_true c14
           clear c14
           by_cases c15 : x21_2 < (l1.length : Int)
           · rw [if_pos c15] at H
             have c15b0 : decide (x21_2 < (l1.length : Int)) = true := decide_eq_true c15
             clear c15
             replace H := Option.bind_eq_some_iff.mp H
             obtain ⟨t170, A160, H⟩ := H
             have A16 := Aside0.mk A160
             clear A160
             by_cases c17 : t170 = true
             · subst c17
               rw [if_pos rfl] at H
               by_cases c18 : 0 ≤ ((rd_T77 l1 x21_2).f0)
               · rw [if_pos c18] at H
                 have c18b0 : decide (0 ≤ ((rd_T77 l1 x21_2).f0)) = true := decide_eq_true c18
                 clear c18
                 by_cases c19 : ((rd_T77 l1 x21_2).f0) < (x6_2.length : Int)
                 · rw [if_pos c19] at H
                   have c19b0 : decide (((rd_T77 l1 x21_2).f0) < (x6_2.length : Int)) = true := decide_eq_true c19
                   clear c19
                   obtain ⟨y171, hy171⟩ : ∃ y_ : List (S66), y_ = (x6_2.set (((rd_T77 l1 x21_2).f0) : Int).toNat (⟨(rd_T66 x6_2 ((rd_T77 l1 x21_2).f0)).f0, (rd_T77 l1 x21_2).f1⟩ : S66)) := ⟨_, rfl⟩
                   replace H : (heap_Put.l0 k2 l0 y171 l1 (l1.length : Int) (wrap64 (x21_2 + 1))) = some (r1, r2) := by first | (rw [hy171]; with_reducible exact H) | (have H2_ := (Option.bind_some _ _).symm.trans H; rw [hy171]; with_reducible exact H2_) | (have H2_ := (Option.bind_some _ _).symm.trans H; with_reducible exact H2_) | with_reducible exact H | (rw [hy171]; exact H) | exact H
                   have Ny171 := Aside0.mk hy171
                   clear hy171
                   have H' := Aside0.mk H
                   clear H
                   have p168 : 0 ≤ (x21_2 : Int) := oda_
                   have q168 : x21_2 < (l1.length : Int) := oda_
                   obtain ⟨ad168, e168, hx168_0, hx168_1⟩ := at_T77 HR1.out x21_2 p168 q168
                   cases e168
                   replace hx168_0 := (HB.out.cell (World.block_lt_of_cell? w _ hx168_0)).trans hx168_0
                   replace hx168_1 := (HB.out.cell (World.block_lt_of_cell? w _ hx168_1)).trans hx168_1
                   replace p168 := eq_true p168
                   replace q168 := eq_true q168
                   go_wp2_with (first | ((with_reducible refine gate_dst (N := 8) rfl ?_); refine box_event ?hg (N := 8) ?hd (cs := #[.int .i64 0, .int .i64 0]) (t := 77) ?hr ?_; (case hd => rfl); (case hg => rfl); (case hr => first | (go_simp; done) | (go_simp; rfl)); intro gb169 hg w21 hbox hb; replace HO_0 := Aside0.mk (Kd.V_below (Kd.V_elderB (vq_ HO_0) gb169 (Nat.le_of_eq hg.symm)) hb); replace HO_6 := rb_ HO_6 hb; replace BK169 := Aside0.mk (hbox); replace GW169 := Aside0.mk ((by rw [hg]; exact bsz_ : w.heap.size ≤ gb169)); replace HB := Aside0.mk (bst_ hb); replace GE169 := GW169; clear hb hbox hg; have hcz22_0 : w21.cell? ⟨gb169, 0, none⟩ = some (.int .i64 0) := (blk_cell BK169.out 0).trans rfl; have hcz22_1 : w21.cell? ⟨gb169, 1, none⟩ = some (.int .i64 0) := (blk_cell BK169.out 1).trans rfl; have hfz22_0 := blk_frozen BK169.out 0; have hfz22_1 := blk_frozen BK169.out 1) | ((with_reducible refine gate_store (t := 77) (p := 8) rfl ?_); refine store_event (t := 77) (p := 8) (v := ?vo_w23) (w1 := ((w21.setCell ⟨gb169, 0, none⟩ (.int .i64 ((rd_T77 l1 x21_2).f0))).setCell ⟨gb169, 1, none⟩ (.int .i64 ((rd_T77 l1 x21_2).f1)))) ?hg ?ho ?hn ?hr ?_; (case ho => rfl); (case hg => rfl); (case hn => rfl); (case hr => first | (go_simp; done) | (go_simp; rfl)); intro w23 hw; have n0_ : Aside0 (Kd.V k66 66 w23 w.heap.size (fun k_ => (P0_ k_ ∨ w.heap.size ≤ k_) ∧ some k_ ≠ (v166 : Value).ownBlock ∧ k_ ≠ gb169) (.slice A0 l0.length c0) l0) := ⟨(by rw [hw]; exact (by (with_reducible repeat (first | apply Kd.V_alloc | apply Kd.V_drewN | apply Kd.V_drew)); exact Kd.V_mono (Kd.V_far (p := ⟨gb169, 1, none⟩) (Kd.V_far (p := ⟨gb169, 0, none⟩) (Kd.V_mono HO_0.out (fun k_ hk => (⟨hk, hk.2⟩ : _ ∧ k_ ≠ gb169))) (fun _ hk => hk.2) (.int .i64 ((rd_T77 l1 x21_2).f0))) (fun _ hk => hk.2) (.int .i64 ((rd_T77 l1 x21_2).f1))) (fun _ hk => ⟨hk.1.1.1, ⟨hk.1.1.2, hk.1.2⟩⟩)))⟩; have n1_ : Aside0 (Kd.R k66 66 w23 w.heap.size (fun k_ => (w.heap.size ≤ k_)) v166 x6_2) := ⟨(by rw [hw]; exact (by (with_reducible repeat (first | apply Kd.R_alloc | apply Kd.R_drewN | apply Kd.R_drew)); exact Kd.R_mono (Kd.R_far (p := ⟨gb169, 1, none⟩) (Kd.R_far (p := ⟨gb169, 0, none⟩) (Kd.R_types HO_6.out BK169.out (by decide)) (fun _ hk => hk.2) (.int .i64 ((rd_T77 l1 x21_2).f0))) (fun _ hk => hk.2) (.int .i64 ((rd_T77 l1 x21_2).f1))) (fun _ hk => hk.1)))⟩; have n2_ : Aside0 (w23.heap[gb169]? = some (.cells #[.int .i64 ((rd_T77 l1 x21_2).f0), .int .i64 ((rd_T77 l1 x21_2).f1)] 77 (0, 0))) := ⟨(by rw [hw]; exact (by (with_reducible repeat (first | refine blk_drewN ?_ _ | refine blk_drew ?_ | refine blk_alloc ?_ _)); refine blk_put (cs := #[.int .i64 ((rd_T77 l1 x21_2).f0), .int .i64 0]) ?_ 1 _ rfl; (with_reducible repeat (first | refine blk_drewN ?_ _ | refine blk_drew ?_ | refine blk_alloc ?_ _)); refine blk_put (cs := #[.int .i64 0, .int .i64 0]) ?_ 0 _ rfl; (with_reducible repeat (first | refine blk_drewN ?_ _ | refine blk_drew ?_ | refine blk_alloc ?_ _)); exact BK169.out))⟩; have n3_ : Aside0 (Below w.heap.size w w23) := ⟨(by rw [hw]; exact bsw_)⟩; clear hw; clear HO_0; clear HO_6; clear BK169; clear HB; have HO_0 := n0_; have HO_6 := n1_; have BK169 := n2_; have HB := n3_; clear n0_ n1_ n2_ n3_; have hcz24_0 : w23.cell? ⟨gb169, 0, none⟩ = some (.int .i64 ((rd_T77 l1 x21_2).f0)) := (blk_cell BK169.out 0).trans rfl; have hcz24_1 : w23.cell? ⟨gb169, 1, none⟩ = some (.int .i64 ((rd_T77 l1 x21_2).f1)) := (blk_cell BK169.out 1).trans rfl; have hfz24_0 := blk_frozen BK169.out 0; have hfz24_1 := blk_frozen BK169.out 1) | ((with_reducible refine gate_callee (f := 56) rfl ?_); refine goesL_ (some 28) rfl rfl Try.func56 (by kernel_rfl) rfl #[.slice A0 l0.length c0, .int .i64 ((rd_T77 l1 x21_2).f0)] rfl mp_ ?_; (with_reducible refine (heap_there.calls _ _ l0 ((rd_T77 l1 x21_2).f0) true _ ?side1 ?side2 A16.out).mono ?_); (case side1 => repeat (first | exact (Kd.V_reads' HO_0.out).2.2 | with_reducible first | refine Kd.C_alloc ?_ _ | refine Kd.C_drewN ?_ _ | refine Kd.C_drew ?_)); (case side2 => exact (Kd.V_reads' HO_0.out).2.1); rintro e w' ⟨rfl, ⟨nd, rfl⟩⟩; refine ⟨_, rfl, ?_⟩; (try (rw [drewN_self w23]; generalize hq_ : World.drewN w23 _ = w23; have n0_ : Aside0 (Kd.V k66 66 w23 w.heap.size (fun k_ => (P0_ k_ ∨ w.heap.size ≤ k_) ∧ some k_ ≠ (v166 : Value).ownBlock ∧ k_ ≠ gb169) (.slice A0 l0.length c0) l0) := ⟨by rw [← hq_]; exact (vq_ HO_0)⟩; have n1_ : Aside0 (Kd.R k66 66 w23 w.heap.size (fun k_ => (w.heap.size ≤ k_)) v166 x6_2) := ⟨by rw [← hq_]; exact (rq_ HO_6)⟩; have n2_ : Aside0 (w23.heap[gb169]? = some (.cells #[.int .i64 ((rd_T77 l1 x21_2).f0), .int .i64 ((rd_T77 l1 x21_2).f1)] 77 (0, 0))) := ⟨by rw [← hq_]; exact (bq_ BK169)⟩; have n3_ : Aside0 (Below w.heap.size w w23) := ⟨by rw [← hq_]; exact bsw_⟩; clear HO_0 HO_6 BK169 HB hq_; have HO_0 := n0_; have HO_6 := n1_; have BK169 := n2_; have HB := n3_; clear n0_ n1_ n2_ n3_)); (try have hcu169_0 : w23.cell? ⟨gb169, 0, none⟩ = some (.int .i64 ((rd_T77 l1 x21_2).f0)) := (blk_cell BK169.out 0).trans rfl); (try have hcu169_1 : w23.cell? ⟨gb169, 1, none⟩ = some (.int .i64 ((rd_T77 l1 x21_2).f1)) := (blk_cell BK169.out 1).trans rfl); have p20 : 0 ≤ (((rd_T77 l1 x21_2).f0) : Int) := oda_; have q20 : (((rd_T77 l1 x21_2).f0) : Int) < ((x6_2.length : Int) : Int) := oda_; obtain ⟨go20, co20, eo20, gb20, gl20, cl20, HG20⟩ := Kd.R_form HO_6.out (by omega); (first | cases eo20 | (injection eo20 with ea_ en_ ec_; (first | subst ea_ | (injection ea_ with ea_; subst ea_)); subst ec_; clear en_)); have GB20 := Aside0.mk gb20; have GG20 := Aside0.mk HG20; clear gb20 gl20 HG20; obtain ⟨ce20, hcl20, hM20, hcc20, hfr20⟩ := Kd.R_elem HO_6.out z66 (((rd_T77 l1 x21_2).f0) : Int) p20 q20; obtain rfl := k66_openM hM20; have hx20_0 : w23.cell? ⟨go20, (((rd_T77 l1 x21_2).f0) : Int).toNat * 2, none⟩ = some (.bool ((rd_T66 x6_2 ((rd_T77 l1 x21_2).f0)).f0)) := hcc20 0 _ rfl; have hx20_1 : w23.cell? ⟨go20, (((rd_T77 l1 x21_2).f0) : Int).toNat * 2 + 1, none⟩ = some (.int .i64 ((rd_T66 x6_2 ((rd_T77 l1 x21_2).f0)).f1)) := hcc20 1 _ rfl; have hf20_0 : w23.frozen? ⟨go20, (((rd_T77 l1 x21_2).f0) : Int).toNat * 2, none⟩ = false := hfr20 0; have hf20_1 : w23.frozen? ⟨go20, (((rd_T77 l1 x21_2).f0) : Int).toNat * 2 + 1, none⟩ = false := hfr20 1; clear hcl20 hcc20 hfr20 hM20; replace p20 := eq_true p20; replace q20 := eq_true q20; have HX25 := Aside0.mk (show Kd.R k66 66 w23 w.heap.size (fun k_ => (w.heap.size ≤ k_)) (.slice (some ⟨go20, 0, none⟩) x6_2.length co20) x6_2 from (rq_ HO_6)); obtain ⟨ce25, hcl25, hM25, hcc25, hfr25⟩ := Kd.R_elem HX25.out z66 (((rd_T77 l1 x21_2).f0) : Int) (oda_) (by have h_ : (((rd_T77 l1 x21_2).f0) : Int) < ((x6_2.length : Int) : Int) := oda_; first | exact h_ | (have e_ := (Kd.R_reads' HO_6.out).1; omega) | simpa using h_); obtain rfl := k66_openM hM25; have HP25 := Kd.R_seg HX25.out (((rd_T77 l1 x21_2).f0) : Int) (oda_) (by have h_ : (((rd_T77 l1 x21_2).f0) : Int) < ((x6_2.length : Int) : Int) := oda_; first | exact h_ | (have e_ := (Kd.R_reads' HO_6.out).1; omega) | simpa using h_) (seg := [.int .i64 ((rd_T77 l1 x21_2).f1)]) (j := 1) hcl25 hcc25 (show 2 ≤ 2 from by decide) (x' := (⟨(rd_T66 x6_2 ((rd_T77 l1 x21_2).f0)).f0, (rd_T77 l1 x21_2).f1⟩ : S66)) (k66_mkM _ _ _ (⟨(rd_T66 x6_2 ((rd_T77 l1 x21_2).f0)).f0, (rd_T77 l1 x21_2).f1⟩ : S66) ) (fun _ hk => hk); have hx25_1 := hcc25 1 _ rfl; (try simp only [show (k66).sz = 2 from rfl, Nat.mul_one, Nat.add_zero] at hx25_1); have hf25_1 := hfr25 1; (try simp only [show (k66).sz = 2 from rfl, Nat.mul_one, Nat.add_zero] at hf25_1); clear hcl25 hcc25 hfr25 hM25) | ((with_reducible refine gate_store (t := 3) (p := 37) rfl ?_); refine store_event (t := 3) (p := 37) (v := ?vo_w26) (w1 := (w23.setCell ⟨go20, (((rd_T77 l1 x21_2).f0) : Int).toNat * 2 + 1, none⟩ (.int .i64 ((rd_T77 l1 x21_2).f1)))) ?hg ?ho ?hn ?hr ?_; (case ho => rfl); (case hg => rfl); (case hn => rfl); (case hr => first | (go_simp; done) | (go_simp; rfl)); intro w26 hw; have hg : w23.grownBy w26 (some go20) := (by rw [hw]; exact HP25.2); have hp_ : Kd.R k66 66 w26 w.heap.size (fun k_ => (w.heap.size ≤ k_)) (.slice (some ⟨go20, 0, none⟩) x6_2.length co20) y171 := (by rw [hw, Ny171.out]; exact HP25.1); clear HP25; replace HO_0 := Aside0.mk (Kd.V_afterv (v := (.slice (some ⟨go20, 0, none⟩) x6_2.length co20)) (v1 := (.slice (some ⟨go20, 0, none⟩) x6_2.length co20)) (ok := (fun k_ => (P0_ k_ ∨ w.heap.size ≤ k_) ∧ k_ ≠ gb169)) (Kd.V_mono (vq_ HO_0) (fun _ hk => ⟨⟨hk.1, hk.2.2⟩, hk.2.1⟩)) hg (.inl rfl)); replace BK169 := Aside0.mk (blk_grown (g := gb169) (o := .cells #[.int .i64 ((rd_T77 l1 x21_2).f0), .int .i64 ((rd_T77 l1 x21_2).f1)] 77 (0, 0)) (bq_ BK169) hg (Kd.R_ne HO_6.out BK169.out (by decide))); replace HO_6 := Aside0.mk (hp_); replace HB := Aside0.mk ((by rw [hw]; exact below_set (HB.out) GB20.out : Below w.heap.size w w26)); clear hg hw hp_))
                   go_roundg k2
                   case measure => have := HJ2.out; have := HK2.out; omega
                   case rel => exact ⟨(y171), (wrap64 (x21_2 + 1)), (by first | rfl | (simp; done) | (simp [*]; done)), H', ⟨by have := HJ2.out; have := HK2.out; omega⟩, ⟨Kd.V_mono (vq_ HO_0) (fun _ hk => ⟨hk.1.1, hk.2⟩)⟩, ⟨rq_ HO_6⟩, ⟨bsw_⟩⟩
                 · rw [if_neg c19] at H
                   exact absurd H (by simp)
               · rw [if_neg c18] at H
                 exact absurd H (by simp)
             · replace c17 := Bool.eq_false_iff.mpr c17
               subst c17
               rw [if_neg (show ¬ (false = true) by decide)] at H
               simp only [Option.some.injEq, Prod.mk.injEq] at H
               obtain ⟨rfl, rfl⟩ := H
               have p168 : 0 ≤ (x21_2 : Int) := oda_
               have q168 : x21_2 < (l1.length : Int) := oda_
               obtain ⟨ad168, e168, hx168_0, hx168_1⟩ := at_T77 HR1.out x21_2 p168 q168
               cases e168
               replace hx168_0 := (HB.out.cell (World.block_lt_of_cell? w _ hx168_0)).trans hx168_0
               replace hx168_1 := (HB.out.cell (World.block_lt_of_cell? w _ hx168_1)).trans hx168_1
               replace p168 := eq_true p168
               replace q168 := eq_true q168
               go_wp2_with (first | ((with_reducible refine gate_dst (N := 8) rfl ?_); refine box_event ?hg (N := 8) ?hd (cs := #[.int .i64 0, .int .i64 0]) (t := 77) ?hr ?_; (case hd => rfl); (case hg => rfl); (case hr => first | (go_simp; done) | (go_simp; rfl)); intro gb169 hg w27 hbox hb; replace HO_0 := Aside0.mk (Kd.V_below (Kd.V_elderB (vq_ HO_0) gb169 (Nat.le_of_eq hg.symm)) hb); replace HO_6 := rb_ HO_6 hb; replace BK169 := Aside0.mk (hbox); replace GW169 := Aside0.mk ((by rw [hg]; exact bsz_ : w.heap.size ≤ gb169)); replace HB := Aside0.mk (bst_ hb); replace GE169 := GW169; clear hb hbox hg; have hcz28_0 : w27.cell? ⟨gb169, 0, none⟩ = some (.int .i64 0) := (blk_cell BK169.out 0).trans rfl; have hcz28_1 : w27.cell? ⟨gb169, 1, none⟩ = some (.int .i64 0) := (blk_cell BK169.out 1).trans rfl; have hfz28_0 := blk_frozen BK169.out 0; have hfz28_1 := blk_frozen BK169.out 1) | ((with_reducible refine gate_callee (f := 56) rfl ?_); refine goesL_ (some 28) rfl rfl Try.func56 (by kernel_rfl) rfl #[.slice A0 l0.length c0, .int .i64 ((rd_T77 l1 x21_2).f0)] rfl mp_ ?_; (with_reducible refine (heap_there.calls _ _ l0 ((rd_T77 l1 x21_2).f0) false _ ?side1 ?side2 A16.out).mono ?_); (case side1 => refine (Kd.V_reads' (e := 66) (base := w.heap.size) (ok := fun k_ => ((((P0_ k_ ∨ w.heap.size ≤ k_)) ∧ some k_ ≠ (v166 : Value).ownBlock) ∧ k_ ≠ gb169)) (n := l0.length) (c := c0) ?_).2.2; exact (by (with_reducible repeat (first | apply Kd.V_alloc | apply Kd.V_drewN | apply Kd.V_drew)); exact (Kd.V_mono (Kd.V_far (p := ⟨gb169, 1, none⟩) (Kd.V_far (p := ⟨gb169, 0, none⟩) (Kd.V_mono HO_0.out (fun k_ hk => (⟨hk, hk.2⟩ : _ ∧ k_ ≠ gb169))) (fun _ hk => hk.2) (.int .i64 ((rd_T77 l1 x21_2).f0))) (fun _ hk => hk.2) (.int .i64 ((rd_T77 l1 x21_2).f1))) (fun _ h_ => h_.1)))); (case side2 => exact (Kd.V_reads' HO_0.out).2.1); rintro e w' ⟨rfl, ⟨nd, rfl⟩⟩; refine ⟨_, rfl, ?_⟩))
               go_ret2
               exact ⟨_, by first | rfl | (simp [errW_none, errW_some] <;> rfl) | (simp [*, errW_none, errW_some] <;> rfl), by (with_reducible repeat (first | apply Kd.V_alloc | apply Kd.V_drewN | apply Kd.V_drew)); exact Kd.V_mono (Kd.V_far (p := ⟨gb169, 1, none⟩) (Kd.V_far (p := ⟨gb169, 0, none⟩) (Kd.V_mono HO_0.out (fun k_ hk => (⟨hk, hk.2⟩ : _ ∧ k_ ≠ gb169))) (fun _ hk => hk.2) (.int .i64 ((rd_T77 l1 x21_2).f0))) (fun _ hk => hk.2) (.int .i64 ((rd_T77 l1 x21_2).f1))) (fun _ hk => hk.1.1.1), bsw_⟩
           · rw [if_neg c15] at H
             exact absurd H (by simp)
         · rw [if_neg c14] at H
           exact absurd H (by simp)
       · rw [if_neg c13] at H
         have c13b0 : decide (x21_2 < (l1.length : Int)) = false := decide_eq_false c13
         clear c13
         simp only [Option.some.injEq, Prod.mk.injEq] at H
         obtain ⟨rfl, rfl⟩ := H
         go_wp2
         go_ret2
         exact ⟨_, by first | rfl | (simp [errW_none, errW_some] <;> rfl) | (simp [*, errW_none, errW_some] <;> rfl), Kd.V_mono (Kd.R_V (rq_ HO_6)) (fun k_ hk => by first | exact ⟨(.inr (hk.1)), hk.2⟩ | exact (.inr (hk))), bsv_⟩

/-! ### after_done: function 46 -/
def after_done.l0 : Nat → List (S66) → List (S66) → List (S61) → Int → Int → Option ((List (S66)) × Int)
 | 0, _, _, _, _, _ => none
 | k + 1, x1, x6, x14, x15, x16 => if x16 < x15 then (if 0 ≤ x16 then (if x16 < (x14.length : Int) then ((heap_Get.f x6 ((rd_T61 x14 x16).f0)).bind fun bt175 => (if bt175.2 = 0 then (if ((rd_T61 x14 x16).f1) = 2 then ((span_Add.f bt175.1 ((rd_T61 x14 x16).f2)).bind fun t177 => ((heap_Put.f k x6 (([(⟨(rd_T61 x14 x16).f0, t177⟩ : S77)] : List (S77)))).bind fun bt181 => (after_done.l0 k x1 bt181.1 x14 x15 (wrap64 (x16 + 1))))) else ((heap_Put.f k x6 (([(⟨(rd_T61 x14 x16).f0, (rd_T61 x14 x16).f2⟩ : S77)] : List (S77)))).bind fun bt188 => (after_done.l0 k x1 bt188.1 x14 x15 (wrap64 (x16 + 1))))) else (some (x1, bt175.2)))) else (none)) else (none)) else (some (x6, 0))
def after_done.f (k : Nat) (a0_0 : Int) (l0_1 : List (S61)) (l1 : List (S66)) : Option ((List (S66)) × Int) := after_done.l0 k l1 l1 l0_1 (l0_1.length : Int) 0
theorem after_done.mono_l : ∀ k, (∀ y0 y1 y2 y3 y4, LeO (after_done.l0 k y0 y1 y2 y3 y4) (after_done.l0 (k + 1) y0 y1 y2 y3 y4))
 | 0 => fun _ _ _ _ _ r h => by simp [after_done.l0] at h
 | k + 1 => by
  have ih0 := after_done.mono_l k
  · intro y0 y1 y2 y3 y4
    unfold after_done.l0
    repeat' first
    | (with_reducible exact ih0 _ _ _ _ _)
    | (with_reducible exact heap_Put.mono _ _ _)
    | (with_reducible exact LeO.refl _)
    | (with_reducible exact LeO.none _)
    | (with_reducible refine LeO.ite ?_ ?_)
    | (with_reducible refine LeO.bind ?_ (fun _ => ?_))
    | exact ih0 _ _ _ _ _
    | exact heap_Put.mono _ _ _
    | exact LeO.none _
    | refine LeO.ite ?_ ?_
    | refine LeO.bind ?_ (fun _ => ?_)
theorem after_done.mono : ∀ a0 a1 a2 k, LeO (after_done.f k a0 a1 a2) (after_done.f (k + 1) a0 a1 a2) := by
 intro a0 a1 a2 k
 have ih0 := after_done.mono_l k
 unfold after_done.f
 repeat' first
  | (with_reducible exact ih0 _ _ _ _ _)
  | (with_reducible exact heap_Put.mono _ _ _)
  | (with_reducible exact LeO.refl _)
  | (with_reducible exact LeO.none _)
  | (with_reducible refine LeO.ite ?_ ?_)
  | (with_reducible refine LeO.bind ?_ (fun _ => ?_))
  | exact ih0 _ _ _ _ _
  | exact heap_Put.mono _ _ _
  | exact LeO.none _
  | refine LeO.ite ?_ ?_
  | refine LeO.bind ?_ (fun _ => ?_)
set_option maxHeartbeats 8000000 in
set_option maxRecDepth 100000 in
theorem after_done.calls (k : Nat) (a0_0 : Int) (A0_1 : Option Addr) (c0_1 : Nat) (l0_1 : List (S61)) (P1_ : Nat → Prop) (A1 : Option Addr) (c1 : Nat) (l1 : List (S66)) (r1 : List (S66)) (r2 : Int) (w : World) (hr0_1 : Kd.C k61 w A0_1 l0_1.length l0_1) (hc0_1 : l0_1.length ≤ c0_1) (hs1 : Kd.V k66 66 w w.heap.size (fun k_ => P1_ k_) (.slice A1 l1.length c1) l1) (h : after_done.f k a0_0 l0_1 l1 = some (r1, r2)) :
 Calls Try.prog 46 #[.agg #[.int .i64 a0_0, .slice A0_1 l0_1.length c0_1], .slice A1 l1.length c1] w fun e w' => ∃ v0_ : Value, e = .returned (.tuple #[v0_, .int .i64 r2]) ∧ Kd.V k66 66 w' w.heap.size (fun k_ => (P1_ k_ ∨ w.heap.size ≤ k_)) v0_ r1 ∧ Below w.heap.size w w' := by
 have hu25 := Try.underlying25
 have hu61 := Try.underlying61
 have hu77 := Try.underlying77
 have HR0_1 := Aside0.mk hr0_1
 have HC0_1 := Aside0.mk hc0_1
 clear hr0_1 hc0_1
 have HO1 := Aside0.mk (show Kd.V k66 66 w w.heap.size (fun k_ => (P1_ k_ ∨ w.heap.size ≤ k_)) (.slice A1 l1.length c1) l1 from Kd.V_mono hs1 (fun k_ hk => .inl hk))
 have HB := Aside0.mk (Below.refl w.heap.size w)
 have H : (after_done.l0 k l1 l1 l0_1 (l0_1.length : Int) 0) = some (r1, r2) := h
 clear h
 have H' := Aside0.mk H
 clear H
 go_enter Try.func46, Try.ntmps46
 go_wp2_with (first | ((with_reducible refine gate_dst (N := 2) rfl ?_); refine box_event ?hg (N := 2) ?hd (cs := #[.int .i64 a0_0, .slice A0_1 l0_1.length c0_1]) (t := 25) ?hr ?_; (case hd => rfl); (case hg => rfl); (case hr => first | (go_simp; done) | (go_simp; rfl)); intro gb172 hg w3 hbox hb; replace HO1 := Aside0.mk (Kd.V_below (Kd.V_elderB (vq_ HO1) gb172 (Nat.le_of_eq hg.symm)) hb); replace BK172 := Aside0.mk (hbox); replace GW172 := Aside0.mk ((by rw [hg]; exact bsz_ : w.heap.size ≤ gb172)); replace HB := Aside0.mk (bst_ hb); replace GE172 := GW172; clear hb hbox hg; have hcz4_0 : w3.cell? ⟨gb172, 0, none⟩ = some (.int .i64 a0_0) := (blk_cell BK172.out 0).trans rfl; have hcz4_1 : w3.cell? ⟨gb172, 1, none⟩ = some (.slice A0_1 l0_1.length c0_1) := (blk_cell BK172.out 1).trans rfl; have hfz4_0 := blk_frozen BK172.out 0; have hfz4_1 := blk_frozen BK172.out 1))
 go_loopg [6, 16] k (fun kq v6 v16 w' => ∃ (x6_1 : List (S66)) (x16_1 : Int), v16 = .int .i64 x16_1 ∧ Aside0 (after_done.l0 kq l1 x6_1 l0_1 (l0_1.length : Int) x16_1 = some (r1, r2)) ∧ Aside0 (kq ≤ k) ∧ Aside0 (Kd.V k66 66 w' w.heap.size (fun k_ => (P1_ k_ ∨ w.heap.size ≤ k_) ∧ k_ ≠ gb172) (.slice A1 l1.length c1) l1) ∧ Aside0 (Kd.V k66 66 w' w.heap.size (fun k_ => (P1_ k_ ∨ w.heap.size ≤ k_) ∧ k_ ≠ gb172) v6 x6_1) ∧ Aside0 (w'.heap[gb172]? = some (.cells #[.int .i64 a0_0, (.slice A0_1 l0_1.length c0_1)] 25 (0, 0))) ∧ Aside0 (Below w.heap.size w w'))
 case atStart => exact ⟨(l1), (0), (by first | rfl | (simp; done) | (simp [*]; done)), H', ⟨Nat.le_refl _⟩, ⟨vq_ HO1⟩, ⟨vq_ HO1⟩, ⟨bq_ BK172⟩, ⟨bsw_⟩⟩
 case round =>
  clear H'
  try clear c1
  try clear p2
  try clear c4
  try clear hcz4_0
  try clear hcz4_1
  try clear hfz4_0
  try clear hfz4_1
  obtain ⟨x6_1, x16_1, rfl, HA, HK1, HO_1, HO_6, BK172, HB⟩ := hrel
  cases gk with
  | zero => exact absurd HA.out (by simp [after_done.l0])
  | succ k1 =>
   have H := HA.out
   clear HA
   simp only [after_done.l0] at H
   by_cases c5 : x16_1 < (l0_1.length : Int)
   · rw [if_pos c5] at H
     have c5b0 : decide (x16_1 < (l0_1.length : Int)) = true := decide_eq_true c5
     clear c5
     by_cases c6 : 0 ≤ x16_1
     · rw [if_pos c6] at H
       have c6b0 : decide (0 ≤ x16_1) = true := decide_eq_true c6
       clear c6
       by_cases c7 : x16_1 < (l0_1.length : Int)
       · rw [if_pos c7] at H
         have c7b0 : decide (x16_1 < (l0_1.length : Int)) = true := decide_eq_true c7
         clear c7
         replace H := Option.bind_eq_some_iff.mp H
         obtain ⟨⟨t175, t176⟩, A80, H⟩ := H
         have A8 := Aside0.mk A80
         clear A80
         by_cases c9 : t176 = 0
         · rw [if_pos c9] at H
           have c9b0 : (t176 == 0) = true := beq_iff_eq.mpr c9
           have c9b1 : (t176 != 0) = false := bne_eq_false_iff_eq.mpr c9
           clear c9
           by_cases c10 : ((rd_T61 l0_1 x16_1).f1) = 2
           · rw [if_pos c10] at H
             have c10b0 : (((rd_T61 l0_1 x16_1).f1) == 2) = true := beq_iff_eq.mpr c10
             have c10b1 : (((rd_T61 l0_1 x16_1).f1) != 2) = false := bne_eq_false_iff_eq.mpr c10
             clear c10
             replace H := Option.bind_eq_some_iff.mp H
             obtain ⟨t177, A110, H⟩ := H
             have A11 := Aside0.mk A110
             clear A110
             obtain ⟨y178, hy178⟩ : ∃ y_ : List (S77), y_ = (([(⟨(rd_T61 l0_1 x16_1).f0, t177⟩ : S77)] : List (S77))) := ⟨_, rfl⟩
             replace H : ((heap_Put.f k1 x6_1 y178).bind fun bt181 => (after_done.l0 k1 l1 bt181.1 l0_1 (l0_1.length : Int) (wrap64 (x16_1 + 1)))) = some (r1, r2) := by first | (rw [hy178]; with_reducible exact H) | (have H2_ := (Option.bind_some _ _).symm.trans H; rw [hy178]; with_reducible exact H2_) | (have H2_ := (Option.bind_some _ _).symm.trans H; with_reducible exact H2_) | with_reducible exact H | (rw [hy178]; exact H) | exact H
             have Ny178 := Aside0.mk hy178
             clear hy178
             replace H := Option.bind_eq_some_iff.mp H
             obtain ⟨⟨t181, t184⟩, A120, H⟩ := H
             have A12 := Aside0.mk A120
             clear A120
             have H' := Aside0.mk H
             clear H
             have p173 : 0 ≤ (x16_1 : Int) := oda_
             have q173 : x16_1 < (l0_1.length : Int) := oda_
             obtain ⟨ad173, e173, hx173_0, hx173_1, hx173_2⟩ := at_T61 HR0_1.out x16_1 p173 q173
             cases e173
             replace hx173_0 := (HB.out.cell (World.block_lt_of_cell? w _ hx173_0)).trans hx173_0
             replace hx173_1 := (HB.out.cell (World.block_lt_of_cell? w _ hx173_1)).trans hx173_1
             replace hx173_2 := (HB.out.cell (World.block_lt_of_cell? w _ hx173_2)).trans hx173_2
             replace p173 := eq_true p173
             replace q173 := eq_true q173
             go_wp2_with (first | ((with_reducible refine gate_dst (N := 8) rfl ?_); refine box_event ?hg (N := 8) ?hd (cs := #[.int .i64 0, .int .i64 0, .int .i64 0]) (t := 61) ?hr ?_; (case hd => rfl); (case hg => rfl); (case hr => first | (go_simp; done) | (go_simp; rfl)); intro gb174 hg w13 hbox hb; replace HO_1 := Aside0.mk (Kd.V_below (Kd.V_elderB (vq_ HO_1) gb174 (Nat.le_of_eq hg.symm)) hb); replace HO_6 := Aside0.mk (Kd.V_below (Kd.V_elderB (vq_ HO_6) gb174 (Nat.le_of_eq hg.symm)) hb); replace BK174 := Aside0.mk (hbox); replace GW174 := Aside0.mk ((by rw [hg]; exact (below_size bsw_) : w.heap.size ≤ gb174)); replace HB := Aside0.mk (below_step bsw_ hb); replace GE174 := GW174; replace NB172_174 := Aside0.mk ((by rw [hg]; exact Nat.ne_of_lt (blk_lt (g := gb172) (o := .cells #[.int .i64 a0_0, .slice (some ad173) l0_1.length c0_1] 25 (0, 0)) (bq_ BK172)) : gb172 ≠ gb174)); replace NB174_172 := Aside0.mk ((by rw [hg]; exact Nat.ne_of_gt (blk_lt (g := gb172) (o := .cells #[.int .i64 a0_0, .slice (some ad173) l0_1.length c0_1] 25 (0, 0)) (bq_ BK172)) : gb174 ≠ gb172)); replace BK172 := bb_ BK172 hb; clear hb hbox hg; have hnb14 := NB174_172.out; have hnc14 := NB172_174.out; have hcz15_0 : w13.cell? ⟨gb174, 0, none⟩ = some (.int .i64 0) := (blk_cell BK174.out 0).trans rfl; have hcz15_1 : w13.cell? ⟨gb174, 1, none⟩ = some (.int .i64 0) := (blk_cell BK174.out 1).trans rfl; have hcz15_2 : w13.cell? ⟨gb174, 2, none⟩ = some (.int .i64 0) := (blk_cell BK174.out 2).trans rfl; have hfz15_0 := blk_frozen BK174.out 0; have hfz15_1 := blk_frozen BK174.out 1; have hfz15_2 := blk_frozen BK174.out 2; obtain ⟨Ao16, co16, eo16⟩ := Kd.V_slice HO_6.out; subst eo16) | ((with_reducible refine gate_callee (f := 28) rfl ?_); refine goesL_ (some 24) rfl rfl Try.func28 (by kernel_rfl) rfl #[.slice Ao16 x6_1.length co16, .int .i64 ((rd_T61 l0_1 x16_1).f0)] rfl mp_ ?_; (with_reducible refine (heap_Get.calls _ _ x6_1 ((rd_T61 l0_1 x16_1).f0) t175 t176 _ ?side1 ?side2 A8.out).mono ?_); (case side1 => refine (Kd.V_reads' (e := 66) (base := w.heap.size) (ok := fun k_ => ((((P1_ k_ ∨ w.heap.size ≤ k_)) ∧ k_ ≠ gb172) ∧ k_ ≠ gb174)) (n := x6_1.length) (c := co16) ?_).2.2; exact (by (with_reducible repeat (first | apply Kd.V_alloc | apply Kd.V_drewN | apply Kd.V_drew)); exact (Kd.V_mono (Kd.V_far (p := ⟨gb174, 2, none⟩) (Kd.V_far (p := ⟨gb174, 1, none⟩) (Kd.V_far (p := ⟨gb174, 0, none⟩) (Kd.V_mono HO_6.out (fun k_ hk => (⟨hk, hk.2⟩ : _ ∧ k_ ≠ gb174))) (fun _ hk => hk.2) (.int .i64 ((rd_T61 l0_1 x16_1).f0))) (fun _ hk => hk.2) (.int .i64 ((rd_T61 l0_1 x16_1).f1))) (fun _ hk => hk.2) (.int .i64 ((rd_T61 l0_1 x16_1).f2))) (fun _ h_ => h_.1)))); (case side2 => exact (Kd.V_reads' HO_6.out).2.1); rintro e w17 ⟨rfl, hb⟩; refine ⟨_, rfl, ?_⟩; replace HO_1 := Aside0.mk (Kd.V_below (by (with_reducible repeat (first | apply Kd.V_alloc | apply Kd.V_drewN | apply Kd.V_drew)); exact (Kd.V_mono (Kd.V_far (p := ⟨gb174, 2, none⟩) (Kd.V_far (p := ⟨gb174, 1, none⟩) (Kd.V_far (p := ⟨gb174, 0, none⟩) (Kd.V_mono HO_1.out (fun k_ hk => (⟨hk, hk.2⟩ : _ ∧ k_ ≠ gb174))) (fun _ hk => hk.2) (.int .i64 ((rd_T61 l0_1 x16_1).f0))) (fun _ hk => hk.2) (.int .i64 ((rd_T61 l0_1 x16_1).f1))) (fun _ hk => hk.2) (.int .i64 ((rd_T61 l0_1 x16_1).f2))) (fun _ h_ => h_.1))) hb); replace HO_6 := Aside0.mk (Kd.V_below (by (with_reducible repeat (first | apply Kd.V_alloc | apply Kd.V_drewN | apply Kd.V_drew)); exact (Kd.V_mono (Kd.V_far (p := ⟨gb174, 2, none⟩) (Kd.V_far (p := ⟨gb174, 1, none⟩) (Kd.V_far (p := ⟨gb174, 0, none⟩) (Kd.V_mono HO_6.out (fun k_ hk => (⟨hk, hk.2⟩ : _ ∧ k_ ≠ gb174))) (fun _ hk => hk.2) (.int .i64 ((rd_T61 l0_1 x16_1).f0))) (fun _ hk => hk.2) (.int .i64 ((rd_T61 l0_1 x16_1).f1))) (fun _ hk => hk.2) (.int .i64 ((rd_T61 l0_1 x16_1).f2))) (fun _ h_ => h_.1))) hb); replace BK172 := Aside0.mk (blk_below (g := gb172) (o := .cells #[.int .i64 a0_0, .slice (some ad173) l0_1.length c0_1] 25 (0, 0)) (by (with_reducible repeat (first | refine blk_drewN ?_ _ | refine blk_drew ?_ | refine blk_alloc ?_ _)); refine blk_far ?_ NB172_174.out _; (with_reducible repeat (first | refine blk_drewN ?_ _ | refine blk_drew ?_ | refine blk_alloc ?_ _)); refine blk_far ?_ NB172_174.out _; (with_reducible repeat (first | refine blk_drewN ?_ _ | refine blk_drew ?_ | refine blk_alloc ?_ _)); refine blk_far ?_ NB172_174.out _; (with_reducible repeat (first | refine blk_drewN ?_ _ | refine blk_drew ?_ | refine blk_alloc ?_ _)); exact BK172.out) hb); replace BK174 := Aside0.mk (blk_below (g := gb174) (o := .cells #[.int .i64 ((rd_T61 l0_1 x16_1).f0), .int .i64 ((rd_T61 l0_1 x16_1).f1), .int .i64 ((rd_T61 l0_1 x16_1).f2)] 61 (0, 0)) (by (with_reducible repeat (first | refine blk_drewN ?_ _ | refine blk_drew ?_ | refine blk_alloc ?_ _)); refine blk_put (cs := #[.int .i64 ((rd_T61 l0_1 x16_1).f0), .int .i64 ((rd_T61 l0_1 x16_1).f1), .int .i64 0]) ?_ 2 _ rfl; (with_reducible repeat (first | refine blk_drewN ?_ _ | refine blk_drew ?_ | refine blk_alloc ?_ _)); refine blk_put (cs := #[.int .i64 ((rd_T61 l0_1 x16_1).f0), .int .i64 0, .int .i64 0]) ?_ 1 _ rfl; (with_reducible repeat (first | refine blk_drewN ?_ _ | refine blk_drew ?_ | refine blk_alloc ?_ _)); refine blk_put (cs := #[.int .i64 0, .int .i64 0, .int .i64 0]) ?_ 0 _ rfl; (with_reducible repeat (first | refine blk_drewN ?_ _ | refine blk_drew ?_ | refine blk_alloc ?_ _)); exact BK174.out) hb); replace HB := Aside0.mk (below_step (by repeat (first | (with_reducible first | exact HB.out | apply below_alloc | apply pw_below_drewN | apply below_drew1 | refine below_set ?_ GE172.out | refine below_set ?_ GE174.out) | exact HB.out)) hb); (try clear hb); (try clear hb2); (try clear hk); (try clear hi); have hcz18_0 : w17.cell? ⟨gb174, 0, none⟩ = some (.int .i64 ((rd_T61 l0_1 x16_1).f0)) := (blk_cell BK174.out 0).trans rfl; have hcz18_1 : w17.cell? ⟨gb174, 1, none⟩ = some (.int .i64 ((rd_T61 l0_1 x16_1).f1)) := (blk_cell BK174.out 1).trans rfl; have hcz18_2 : w17.cell? ⟨gb174, 2, none⟩ = some (.int .i64 ((rd_T61 l0_1 x16_1).f2)) := (blk_cell BK174.out 2).trans rfl; have hfz18_0 := blk_frozen BK174.out 0; have hfz18_1 := blk_frozen BK174.out 1; have hfz18_2 := blk_frozen BK174.out 2) | ((with_reducible refine gate_callee (f := 29) rfl ?_); refine goesL_ (some 38) rfl rfl Try.func29 (by kernel_rfl) rfl #[.int .i64 t175, .int .i64 ((rd_T61 l0_1 x16_1).f2)] rfl mp_ ?_; (with_reducible refine (span_Add.calls t175 ((rd_T61 l0_1 x16_1).f2) t177 _ A11.out).mono ?_); rintro e w' ⟨rfl, ⟨nd, rfl⟩⟩; refine ⟨_, rfl, ?_⟩) | ((with_reducible refine gate_dst (N := 45) rfl ?_); refine Kd.R_lit k77 _ 77 ?hg (N := 45) ?hd (xs := ([(⟨(rd_T61 l0_1 x16_1).f0, t177⟩ : S77)] : List (S77))) (inner := [.int .i64 ((rd_T61 l0_1 x16_1).f0), .int .i64 t177]) (ok := fun _ => True) (okp := fun _ => True) ?hr ?hp (fun _ hk => hk) trivial (Below.refl _ _) (Nat.le_refl _) (by simp) ?_; (case hd => rfl); (case hg => rfl); (case hr => first | (go_simp; done) | (go_simp; rfl)); (case hp => exact (Reps.c2 (show Kd.M k77 _ _ _ (⟨(rd_T61 l0_1 x16_1).f0, t177⟩ : S77) [.int .i64 ((rd_T61 l0_1 x16_1).f0), .int .i64 t177] from (k77_mkM _ _ _ (⟨(rd_T61 l0_1 x16_1).f0, t177⟩ : S77) )) (Reps.none _ _))); intro v179 w19 ho20 hb hg_ hnew_; clear hg_ hnew_; (first | rw [← Ny178.out] at ho20 | (simp only [Int.reduceToNat] at ho20; rw [← Ny178.out] at ho20)); replace HO_1 := Aside0.mk (Kd.V_elder' (vq_ HO_1) (Kd.R_base ho20) hb); replace HO_6 := Aside0.mk (Kd.V_elder' (vq_ HO_6) (Kd.R_base ho20) hb); replace HO180 := Aside0.mk (Kd.R_lower (Kd.R_newM (M := fun k_ => (w.heap.size ≤ k_)) ho20 (below_size (by repeat (first | (with_reducible first | exact HB.out | apply below_alloc | apply pw_below_drewN | apply below_drew1 | refine below_set ?_ GE172.out | refine below_set ?_ GE174.out) | exact HB.out))) (fun k_ h_ => h_)) (below_size (by repeat (first | (with_reducible first | exact HB.out | apply below_alloc | apply pw_below_drewN | apply below_drew1 | refine below_set ?_ GE172.out | refine below_set ?_ GE174.out) | exact HB.out)))); replace BK172 := bb_ BK172 hb; replace BK174 := bb_ BK174 hb; replace HB := Aside0.mk (below_step (by repeat (first | (with_reducible first | exact HB.out | apply below_alloc | apply pw_below_drewN | apply below_drew1 | refine below_set ?_ GE172.out | refine below_set ?_ GE174.out) | exact HB.out)) hb); clear hb ho20; obtain ⟨Ao21, co21, eo21⟩ := Kd.R_slice HO180.out; subst eo21) | ((with_reducible refine gate_callee (f := 61) rfl ?_); refine goesL_ (some 46) rfl rfl Try.func61 (by kernel_rfl) rfl #[.slice Ao16 x6_1.length co16, .slice Ao21 y178.length co21] rfl mp_ ?_; (with_reducible refine (heap_Put.calls k1 (fun k_ => ((((P1_ k_ ∨ w.heap.size ≤ k_) ∧ k_ ≠ gb172) ∧ k_ ≠ gb174) ∧ some k_ ≠ (.slice Ao21 y178.length co21 : Value).ownBlock)) _ _ x6_1 _ _ y178 t181 t184 _ ?side1 ?side2 ?side3 A12.out).mono ?_); (case side1 => exact HO_6.out); (case side2 => repeat (first | exact (Kd.R_reads' HO180.out).2.2 | with_reducible first | refine Kd.C_alloc ?_ _ | refine Kd.C_drewN ?_ _ | refine Kd.C_drew ?_)); (case side3 => exact (Kd.R_reads' HO180.out).2.1); rintro e w22 ⟨v182, rfl, ho0, hb⟩; refine ⟨_, rfl, ?_⟩; replace HO_1 := vb_ HO_1 hb; replace HO_6 := vb_ HO_6 hb; replace HO183 := Aside0.mk (Kd.V_lower (Kd.V_mono (ok' := fun k_ => (P1_ k_ ∨ w.heap.size ≤ k_) ∧ some k_ ≠ (.slice Ao21 y178.length co21 : Value).ownBlock ∧ k_ ≠ gb172 ∧ k_ ≠ gb174) ho0 (fun k_ hk_ => ⟨Or.elim hk_ (fun hs_ => hs_.1.1.1) (fun hn_ => (.inr (Nat.le_trans (below_size (by repeat (first | (with_reducible first | exact HB.out | apply below_alloc | apply pw_below_drewN | apply below_drew1 | refine below_set ?_ GE172.out | refine below_set ?_ GE174.out) | exact HB.out))) hn_))), Or.elim hk_ (fun hs_ => hs_.2) (fun hn_ => (Kd.fresh' (Kd.R_lt (rq_ HO180)) k_ hn_)), Or.elim hk_ (fun hs_ => hs_.1.1.2) (fun hn_ => (Kd.freshB (g := gb172) (o := .cells #[.int .i64 a0_0, .slice (some ad173) l0_1.length c0_1] 25 (0, 0)) (bq_ BK172) k_ hn_)), Or.elim hk_ (fun hs_ => hs_.1.2) (fun hn_ => (Kd.freshB (g := gb174) (o := .cells #[.int .i64 ((rd_T61 l0_1 x16_1).f0), .int .i64 ((rd_T61 l0_1 x16_1).f1), .int .i64 ((rd_T61 l0_1 x16_1).f2)] 61 (0, 0)) (bq_ BK174) k_ hn_))⟩)) (below_size (by repeat (first | (with_reducible first | exact HB.out | apply below_alloc | apply pw_below_drewN | apply below_drew1 | refine below_set ?_ GE172.out | refine below_set ?_ GE174.out) | exact HB.out)))); replace HO180 := rb_ HO180 hb; replace BK172 := bb_ BK172 hb; replace BK174 := bb_ BK174 hb; replace HB := Aside0.mk (below_step (by repeat (first | (with_reducible first | exact HB.out | apply below_alloc | apply pw_below_drewN | apply below_drew1 | refine below_set ?_ GE172.out | refine below_set ?_ GE174.out) | exact HB.out)) hb); (try clear hb); (try clear hb2); (try clear hk); (try clear hi); (try clear ho0)))
             go_roundg k1
             case measure => have := HK1.out; omega
             case rel => exact ⟨(t181), (wrap64 (x16_1 + 1)), (by first | rfl | (simp; done) | (simp [*]; done)), H', ⟨by have := HK1.out; omega⟩, ⟨Kd.V_mono (vq_ HO_1) (fun _ hk => ⟨hk.1.1.1, hk.1.1.2⟩)⟩, ⟨Kd.V_mono (vq_ HO183) (fun _ hk => ⟨hk.1, hk.2.2.1⟩)⟩, ⟨bq_ BK172⟩, ⟨by repeat (first | (with_reducible first | exact HB.out | apply below_alloc | apply pw_below_drewN | apply below_drew1 | refine below_set ?_ GE172.out | refine below_set ?_ GE174.out) | exact HB.out)⟩⟩
           · rw [if_neg c10] at H
             have c10b0 : (((rd_T61 l0_1 x16_1).f1) == 2) = false := beq_eq_false_iff_ne.mpr c10
             have c10b1 : (((rd_T61 l0_1 x16_1).f1) != 2) = true := bne_iff_ne.mpr c10
             obtain ⟨y185, hy185⟩ : ∃ y_ : List (S77), y_ = (([(⟨(rd_T61 l0_1 x16_1).f0, (rd_T61 l0_1 x16_1).f2⟩ : S77)] : List (S77))) := ⟨_, rfl⟩
             replace H : ((heap_Put.f k1 x6_1 y185).bind fun bt188 => (after_done.l0 k1 l1 bt188.1 l0_1 (l0_1.length : Int) (wrap64 (x16_1 + 1)))) = some (r1, r2) := by first | (rw [hy185]; with_reducible exact H) | (have H2_ := (Option.bind_some _ _).symm.trans H; rw [hy185]; with_reducible exact H2_) | (have H2_ := (Option.bind_some _ _).symm.trans H; with_reducible exact H2_) | with_reducible exact H | (rw [hy185]; exact H) | exact H
             have Ny185 := Aside0.mk hy185
             clear hy185
             replace H := Option.bind_eq_some_iff.mp H
             obtain ⟨⟨t188, t191⟩, A230, H⟩ := H
             have A23 := Aside0.mk A230
             clear A230
             have H' := Aside0.mk H
             clear H
             have p173 : 0 ≤ (x16_1 : Int) := oda_
             have q173 : x16_1 < (l0_1.length : Int) := oda_
             obtain ⟨ad173, e173, hx173_0, hx173_1, hx173_2⟩ := at_T61 HR0_1.out x16_1 p173 q173
             cases e173
             replace hx173_0 := (HB.out.cell (World.block_lt_of_cell? w _ hx173_0)).trans hx173_0
             replace hx173_1 := (HB.out.cell (World.block_lt_of_cell? w _ hx173_1)).trans hx173_1
             replace hx173_2 := (HB.out.cell (World.block_lt_of_cell? w _ hx173_2)).trans hx173_2
             replace p173 := eq_true p173
             replace q173 := eq_true q173
             go_wp2_with (first | ((with_reducible refine gate_dst (N := 8) rfl ?_); refine box_event ?hg (N := 8) ?hd (cs := #[.int .i64 0, .int .i64 0, .int .i64 0]) (t := 61) ?hr ?_; (case hd => rfl); (case hg => rfl); (case hr => first | (go_simp; done) | (go_simp; rfl)); intro gb174 hg w24 hbox hb; replace HO_1 := Aside0.mk (Kd.V_below (Kd.V_elderB (vq_ HO_1) gb174 (Nat.le_of_eq hg.symm)) hb); replace HO_6 := Aside0.mk (Kd.V_below (Kd.V_elderB (vq_ HO_6) gb174 (Nat.le_of_eq hg.symm)) hb); replace BK174 := Aside0.mk (hbox); replace GW174 := Aside0.mk ((by rw [hg]; exact (below_size bsw_) : w.heap.size ≤ gb174)); replace HB := Aside0.mk (below_step bsw_ hb); replace GE174 := GW174; replace NB172_174 := Aside0.mk ((by rw [hg]; exact Nat.ne_of_lt (blk_lt (g := gb172) (o := .cells #[.int .i64 a0_0, .slice (some ad173) l0_1.length c0_1] 25 (0, 0)) (bq_ BK172)) : gb172 ≠ gb174)); replace NB174_172 := Aside0.mk ((by rw [hg]; exact Nat.ne_of_gt (blk_lt (g := gb172) (o := .cells #[.int .i64 a0_0, .slice (some ad173) l0_1.length c0_1] 25 (0, 0)) (bq_ BK172)) : gb174 ≠ gb172)); replace BK172 := bb_ BK172 hb; clear hb hbox hg; have hnb25 := NB174_172.out; have hnc25 := NB172_174.out; have hcz26_0 : w24.cell? ⟨gb174, 0, none⟩ = some (.int .i64 0) := (blk_cell BK174.out 0).trans rfl; have hcz26_1 : w24.cell? ⟨gb174, 1, none⟩ = some (.int .i64 0) := (blk_cell BK174.out 1).trans rfl; have hcz26_2 : w24.cell? ⟨gb174, 2, none⟩ = some (.int .i64 0) := (blk_cell BK174.out 2).trans rfl; have hfz26_0 := blk_frozen BK174.out 0; have hfz26_1 := blk_frozen BK174.out 1; have hfz26_2 := blk_frozen BK174.out 2; obtain ⟨Ao27, co27, eo27⟩ := Kd.V_slice HO_6.out; subst eo27) | ((with_reducible refine gate_callee (f := 28) rfl ?_); refine goesL_ (some 24) rfl rfl Try.func28 (by kernel_rfl) rfl #[.slice Ao27 x6_1.length co27, .int .i64 ((rd_T61 l0_1 x16_1).f0)] rfl mp_ ?_; (with_reducible refine (heap_Get.calls _ _ x6_1 ((rd_T61 l0_1 x16_1).f0) t175 t176 _ ?side1 ?side2 A8.out).mono ?_); (case side1 => refine (Kd.V_reads' (e := 66) (base := w.heap.size) (ok := fun k_ => ((((P1_ k_ ∨ w.heap.size ≤ k_)) ∧ k_ ≠ gb172) ∧ k_ ≠ gb174)) (n := x6_1.length) (c := co27) ?_).2.2; exact (by (with_reducible repeat (first | apply Kd.V_alloc | apply Kd.V_drewN | apply Kd.V_drew)); exact (Kd.V_mono (Kd.V_far (p := ⟨gb174, 2, none⟩) (Kd.V_far (p := ⟨gb174, 1, none⟩) (Kd.V_far (p := ⟨gb174, 0, none⟩) (Kd.V_mono HO_6.out (fun k_ hk => (⟨hk, hk.2⟩ : _ ∧ k_ ≠ gb174))) (fun _ hk => hk.2) (.int .i64 ((rd_T61 l0_1 x16_1).f0))) (fun _ hk => hk.2) (.int .i64 ((rd_T61 l0_1 x16_1).f1))) (fun _ hk => hk.2) (.int .i64 ((rd_T61 l0_1 x16_1).f2))) (fun _ h_ => h_.1)))); (case side2 => exact (Kd.V_reads' HO_6.out).2.1); rintro e w28 ⟨rfl, hb⟩; refine ⟨_, rfl, ?_⟩; replace HO_1 := Aside0.mk (Kd.V_below (by (with_reducible repeat (first | apply Kd.V_alloc | apply Kd.V_drewN | apply Kd.V_drew)); exact (Kd.V_mono (Kd.V_far (p := ⟨gb174, 2, none⟩) (Kd.V_far (p := ⟨gb174, 1, none⟩) (Kd.V_far (p := ⟨gb174, 0, none⟩) (Kd.V_mono HO_1.out (fun k_ hk => (⟨hk, hk.2⟩ : _ ∧ k_ ≠ gb174))) (fun _ hk => hk.2) (.int .i64 ((rd_T61 l0_1 x16_1).f0))) (fun _ hk => hk.2) (.int .i64 ((rd_T61 l0_1 x16_1).f1))) (fun _ hk => hk.2) (.int .i64 ((rd_T61 l0_1 x16_1).f2))) (fun _ h_ => h_.1))) hb); replace HO_6 := Aside0.mk (Kd.V_below (by (with_reducible repeat (first | apply Kd.V_alloc | apply Kd.V_drewN | apply Kd.V_drew)); exact (Kd.V_mono (Kd.V_far (p := ⟨gb174, 2, none⟩) (Kd.V_far (p := ⟨gb174, 1, none⟩) (Kd.V_far (p := ⟨gb174, 0, none⟩) (Kd.V_mono HO_6.out (fun k_ hk => (⟨hk, hk.2⟩ : _ ∧ k_ ≠ gb174))) (fun _ hk => hk.2) (.int .i64 ((rd_T61 l0_1 x16_1).f0))) (fun _ hk => hk.2) (.int .i64 ((rd_T61 l0_1 x16_1).f1))) (fun _ hk => hk.2) (.int .i64 ((rd_T61 l0_1 x16_1).f2))) (fun _ h_ => h_.1))) hb); replace BK172 := Aside0.mk (blk_below (g := gb172) (o := .cells #[.int .i64 a0_0, .slice (some ad173) l0_1.length c0_1] 25 (0, 0)) (by (with_reducible repeat (first | refine blk_drewN ?_ _ | refine blk_drew ?_ | refine blk_alloc ?_ _)); refine blk_far ?_ NB172_174.out _; (with_reducible repeat (first | refine blk_drewN ?_ _ | refine blk_drew ?_ | refine blk_alloc ?_ _)); refine blk_far ?_ NB172_174.out _; (with_reducible repeat (first | refine blk_drewN ?_ _ | refine blk_drew ?_ | refine blk_alloc ?_ _)); refine blk_far ?_ NB172_174.out _; (with_reducible repeat (first | refine blk_drewN ?_ _ | refine blk_drew ?_ | refine blk_alloc ?_ _)); exact BK172.out) hb); replace BK174 := Aside0.mk (blk_below (g := gb174) (o := .cells #[.int .i64 ((rd_T61 l0_1 x16_1).f0), .int .i64 ((rd_T61 l0_1 x16_1).f1), .int .i64 ((rd_T61 l0_1 x16_1).f2)] 61 (0, 0)) (by (with_reducible repeat (first | refine blk_drewN ?_ _ | refine blk_drew ?_ | refine blk_alloc ?_ _)); refine blk_put (cs := #[.int .i64 ((rd_T61 l0_1 x16_1).f0), .int .i64 ((rd_T61 l0_1 x16_1).f1), .int .i64 0]) ?_ 2 _ rfl; (with_reducible repeat (first | refine blk_drewN ?_ _ | refine blk_drew ?_ | refine blk_alloc ?_ _)); refine blk_put (cs := #[.int .i64 ((rd_T61 l0_1 x16_1).f0), .int .i64 0, .int .i64 0]) ?_ 1 _ rfl; (with_reducible repeat (first | refine blk_drewN ?_ _ | refine blk_drew ?_ | refine blk_alloc ?_ _)); refine blk_put (cs := #[.int .i64 0, .int .i64 0, .int .i64 0]) ?_ 0 _ rfl; (with_reducible repeat (first | refine blk_drewN ?_ _ | refine blk_drew ?_ | refine blk_alloc ?_ _)); exact BK174.out) hb); replace HB := Aside0.mk (below_step (by repeat (first | (with_reducible first | exact HB.out | apply below_alloc | apply pw_below_drewN | apply below_drew1 | refine below_set ?_ GE172.out | refine below_set ?_ GE174.out) | exact HB.out)) hb); (try clear hb); (try clear hb2); (try clear hk); (try clear hi); have hcz29_0 : w28.cell? ⟨gb174, 0, none⟩ = some (.int .i64 ((rd_T61 l0_1 x16_1).f0)) := (blk_cell BK174.out 0).trans rfl; have hcz29_1 : w28.cell? ⟨gb174, 1, none⟩ = some (.int .i64 ((rd_T61 l0_1 x16_1).f1)) := (blk_cell BK174.out 1).trans rfl; have hcz29_2 : w28.cell? ⟨gb174, 2, none⟩ = some (.int .i64 ((rd_T61 l0_1 x16_1).f2)) := (blk_cell BK174.out 2).trans rfl; have hfz29_0 := blk_frozen BK174.out 0; have hfz29_1 := blk_frozen BK174.out 1; have hfz29_2 := blk_frozen BK174.out 2) | ((with_reducible refine gate_dst (N := 45) rfl ?_); refine Kd.R_lit k77 _ 77 ?hg (N := 45) ?hd (xs := ([(⟨(rd_T61 l0_1 x16_1).f0, (rd_T61 l0_1 x16_1).f2⟩ : S77)] : List (S77))) (inner := [.int .i64 ((rd_T61 l0_1 x16_1).f0), .int .i64 ((rd_T61 l0_1 x16_1).f2)]) (ok := fun _ => True) (okp := fun _ => True) ?hr ?hp (fun _ hk => hk) trivial (Below.refl _ _) (Nat.le_refl _) (by simp) ?_; (case hd => rfl); (case hg => rfl); (case hr => first | (go_simp; done) | (go_simp; rfl)); (case hp => exact (Reps.c2 (show Kd.M k77 _ _ _ (⟨(rd_T61 l0_1 x16_1).f0, (rd_T61 l0_1 x16_1).f2⟩ : S77) [.int .i64 ((rd_T61 l0_1 x16_1).f0), .int .i64 ((rd_T61 l0_1 x16_1).f2)] from (k77_mkM _ _ _ (⟨(rd_T61 l0_1 x16_1).f0, (rd_T61 l0_1 x16_1).f2⟩ : S77) )) (Reps.none _ _))); intro v186 w30 ho31 hb hg_ hnew_; clear hg_ hnew_; (first | rw [← Ny185.out] at ho31 | (simp only [Int.reduceToNat] at ho31; rw [← Ny185.out] at ho31)); replace HO_1 := Aside0.mk (Kd.V_elder' (vq_ HO_1) (Kd.R_base ho31) hb); replace HO_6 := Aside0.mk (Kd.V_elder' (vq_ HO_6) (Kd.R_base ho31) hb); replace HO187 := Aside0.mk (Kd.R_lower (Kd.R_newM (M := fun k_ => (w.heap.size ≤ k_)) ho31 (below_size (by repeat (first | (with_reducible first | exact HB.out | apply below_alloc | apply pw_below_drewN | apply below_drew1 | refine below_set ?_ GE172.out | refine below_set ?_ GE174.out) | exact HB.out))) (fun k_ h_ => h_)) (below_size (by repeat (first | (with_reducible first | exact HB.out | apply below_alloc | apply pw_below_drewN | apply below_drew1 | refine below_set ?_ GE172.out | refine below_set ?_ GE174.out) | exact HB.out)))); replace BK172 := bb_ BK172 hb; replace BK174 := bb_ BK174 hb; replace HB := Aside0.mk (below_step (by repeat (first | (with_reducible first | exact HB.out | apply below_alloc | apply pw_below_drewN | apply below_drew1 | refine below_set ?_ GE172.out | refine below_set ?_ GE174.out) | exact HB.out)) hb); clear hb ho31; obtain ⟨Ao32, co32, eo32⟩ := Kd.R_slice HO187.out; subst eo32) | ((with_reducible refine gate_callee (f := 61) rfl ?_); refine goesL_ (some 46) rfl rfl Try.func61 (by kernel_rfl) rfl #[.slice Ao27 x6_1.length co27, .slice Ao32 y185.length co32] rfl mp_ ?_; (with_reducible refine (heap_Put.calls k1 (fun k_ => ((((P1_ k_ ∨ w.heap.size ≤ k_) ∧ k_ ≠ gb172) ∧ k_ ≠ gb174) ∧ some k_ ≠ (.slice Ao32 y185.length co32 : Value).ownBlock)) _ _ x6_1 _ _ y185 t188 t191 _ ?side1 ?side2 ?side3 A23.out).mono ?_); (case side1 => exact HO_6.out); (case side2 => repeat (first | exact (Kd.R_reads' HO187.out).2.2 | with_reducible first | refine Kd.C_alloc ?_ _ | refine Kd.C_drewN ?_ _ | refine Kd.C_drew ?_)); (case side3 => exact (Kd.R_reads' HO187.out).2.1); rintro e w33 ⟨v189, rfl, ho0, hb⟩; refine ⟨_, rfl, ?_⟩; replace HO_1 := vb_ HO_1 hb; replace HO_6 := vb_ HO_6 hb; replace HO190 := Aside0.mk (Kd.V_lower (Kd.V_mono (ok' := fun k_ => (P1_ k_ ∨ w.heap.size ≤ k_) ∧ some k_ ≠ (.slice Ao32 y185.length co32 : Value).ownBlock ∧ k_ ≠ gb172 ∧ k_ ≠ gb174) ho0 (fun k_ hk_ => ⟨Or.elim hk_ (fun hs_ => hs_.1.1.1) (fun hn_ => (.inr (Nat.le_trans (below_size (by repeat (first | (with_reducible first | exact HB.out | apply below_alloc | apply pw_below_drewN | apply below_drew1 | refine below_set ?_ GE172.out | refine below_set ?_ GE174.out) | exact HB.out))) hn_))), Or.elim hk_ (fun hs_ => hs_.2) (fun hn_ => (Kd.fresh' (Kd.R_lt (rq_ HO187)) k_ hn_)), Or.elim hk_ (fun hs_ => hs_.1.1.2) (fun hn_ => (Kd.freshB (g := gb172) (o := .cells #[.int .i64 a0_0, .slice (some ad173) l0_1.length c0_1] 25 (0, 0)) (bq_ BK172) k_ hn_)), Or.elim hk_ (fun hs_ => hs_.1.2) (fun hn_ => (Kd.freshB (g := gb174) (o := .cells #[.int .i64 ((rd_T61 l0_1 x16_1).f0), .int .i64 ((rd_T61 l0_1 x16_1).f1), .int .i64 ((rd_T61 l0_1 x16_1).f2)] 61 (0, 0)) (bq_ BK174) k_ hn_))⟩)) (below_size (by repeat (first | (with_reducible first | exact HB.out | apply below_alloc | apply pw_below_drewN | apply below_drew1 | refine below_set ?_ GE172.out | refine below_set ?_ GE174.out) | exact HB.out)))); replace HO187 := rb_ HO187 hb; replace BK172 := bb_ BK172 hb; replace BK174 := bb_ BK174 hb; replace HB := Aside0.mk (below_step (by repeat (first | (with_reducible first | exact HB.out | apply below_alloc | apply pw_below_drewN | apply below_drew1 | refine below_set ?_ GE172.out | refine below_set ?_ GE174.out) | exact HB.out)) hb); (try clear hb); (try clear hb2); (try clear hk); (try clear hi); (try clear ho0)))
             go_roundg k1
             case measure => have := HK1.out; omega
             case rel => exact ⟨(t188), (wrap64 (x16_1 + 1)), (by first | rfl | (simp; done) | (simp [*]; done)), H', ⟨by have := HK1.out; omega⟩, ⟨Kd.V_mono (vq_ HO_1) (fun _ hk => ⟨hk.1.1.1, hk.1.1.2⟩)⟩, ⟨Kd.V_mono (vq_ HO190) (fun _ hk => ⟨hk.1, hk.2.2.1⟩)⟩, ⟨bq_ BK172⟩, ⟨by repeat (first | (with_reducible first | exact HB.out | apply below_alloc | apply pw_below_drewN | apply below_drew1 | refine below_set ?_ GE172.out | refine below_set ?_ GE174.out) | exact HB.out)⟩⟩
         · rw [if_neg c9] at H
           have c9b0 : (t176 == 0) = false := beq_eq_false_iff_ne.mpr c9
           have c9b1 : (t176 != 0) = true := bne_iff_ne.mpr c9
           simp only [Option.some.injEq, Prod.mk.injEq] at H
           obtain ⟨rfl, rfl⟩ := H
           have p173 : 0 ≤ (x16_1 : Int) := oda_
           have q173 : x16_1 < (l0_1.length : Int) := oda_
           obtain ⟨ad173, e173, hx173_0, hx173_1, hx173_2⟩ := at_T61 HR0_1.out x16_1 p173 q173
           cases e173
           replace hx173_0 := (HB.out.cell (World.block_lt_of_cell? w _ hx173_0)).trans hx173_0
           replace hx173_1 := (HB.out.cell (World.block_lt_of_cell? w _ hx173_1)).trans hx173_1
           replace hx173_2 := (HB.out.cell (World.block_lt_of_cell? w _ hx173_2)).trans hx173_2
           replace p173 := eq_true p173
           replace q173 := eq_true q173
           go_wp2_with (first | ((with_reducible refine gate_dst (N := 8) rfl ?_); refine box_event ?hg (N := 8) ?hd (cs := #[.int .i64 0, .int .i64 0, .int .i64 0]) (t := 61) ?hr ?_; (case hd => rfl); (case hg => rfl); (case hr => first | (go_simp; done) | (go_simp; rfl)); intro gb174 hg w34 hbox hb; replace HO_1 := Aside0.mk (Kd.V_below (Kd.V_elderB (vq_ HO_1) gb174 (Nat.le_of_eq hg.symm)) hb); replace HO_6 := Aside0.mk (Kd.V_below (Kd.V_elderB (vq_ HO_6) gb174 (Nat.le_of_eq hg.symm)) hb); replace BK174 := Aside0.mk (hbox); replace GW174 := Aside0.mk ((by rw [hg]; exact (below_size bsw_) : w.heap.size ≤ gb174)); replace HB := Aside0.mk (below_step bsw_ hb); replace GE174 := GW174; replace NB172_174 := Aside0.mk ((by rw [hg]; exact Nat.ne_of_lt (blk_lt (g := gb172) (o := .cells #[.int .i64 a0_0, .slice (some ad173) l0_1.length c0_1] 25 (0, 0)) (bq_ BK172)) : gb172 ≠ gb174)); replace NB174_172 := Aside0.mk ((by rw [hg]; exact Nat.ne_of_gt (blk_lt (g := gb172) (o := .cells #[.int .i64 a0_0, .slice (some ad173) l0_1.length c0_1] 25 (0, 0)) (bq_ BK172)) : gb174 ≠ gb172)); replace BK172 := bb_ BK172 hb; clear hb hbox hg; have hnb35 := NB174_172.out; have hnc35 := NB172_174.out; have hcz36_0 : w34.cell? ⟨gb174, 0, none⟩ = some (.int .i64 0) := (blk_cell BK174.out 0).trans rfl; have hcz36_1 : w34.cell? ⟨gb174, 1, none⟩ = some (.int .i64 0) := (blk_cell BK174.out 1).trans rfl; have hcz36_2 : w34.cell? ⟨gb174, 2, none⟩ = some (.int .i64 0) := (blk_cell BK174.out 2).trans rfl; have hfz36_0 := blk_frozen BK174.out 0; have hfz36_1 := blk_frozen BK174.out 1; have hfz36_2 := blk_frozen BK174.out 2; obtain ⟨Ao37, co37, eo37⟩ := Kd.V_slice HO_6.out; subst eo37) | ((with_reducible refine gate_callee (f := 28) rfl ?_); refine goesL_ (some 24) rfl rfl Try.func28 (by kernel_rfl) rfl #[.slice Ao37 x6_1.length co37, .int .i64 ((rd_T61 l0_1 x16_1).f0)] rfl mp_ ?_; (with_reducible refine (heap_Get.calls _ _ x6_1 ((rd_T61 l0_1 x16_1).f0) t175 t176 _ ?side1 ?side2 A8.out).mono ?_); (case side1 => refine (Kd.V_reads' (e := 66) (base := w.heap.size) (ok := fun k_ => ((((P1_ k_ ∨ w.heap.size ≤ k_)) ∧ k_ ≠ gb172) ∧ k_ ≠ gb174)) (n := x6_1.length) (c := co37) ?_).2.2; exact (by (with_reducible repeat (first | apply Kd.V_alloc | apply Kd.V_drewN | apply Kd.V_drew)); exact (Kd.V_mono (Kd.V_far (p := ⟨gb174, 2, none⟩) (Kd.V_far (p := ⟨gb174, 1, none⟩) (Kd.V_far (p := ⟨gb174, 0, none⟩) (Kd.V_mono HO_6.out (fun k_ hk => (⟨hk, hk.2⟩ : _ ∧ k_ ≠ gb174))) (fun _ hk => hk.2) (.int .i64 ((rd_T61 l0_1 x16_1).f0))) (fun _ hk => hk.2) (.int .i64 ((rd_T61 l0_1 x16_1).f1))) (fun _ hk => hk.2) (.int .i64 ((rd_T61 l0_1 x16_1).f2))) (fun _ h_ => h_.1)))); (case side2 => exact (Kd.V_reads' HO_6.out).2.1); rintro e w38 ⟨rfl, hb⟩; refine ⟨_, rfl, ?_⟩; replace HO_1 := Aside0.mk (Kd.V_below (by (with_reducible repeat (first | apply Kd.V_alloc | apply Kd.V_drewN | apply Kd.V_drew)); exact (Kd.V_mono (Kd.V_far (p := ⟨gb174, 2, none⟩) (Kd.V_far (p := ⟨gb174, 1, none⟩) (Kd.V_far (p := ⟨gb174, 0, none⟩) (Kd.V_mono HO_1.out (fun k_ hk => (⟨hk, hk.2⟩ : _ ∧ k_ ≠ gb174))) (fun _ hk => hk.2) (.int .i64 ((rd_T61 l0_1 x16_1).f0))) (fun _ hk => hk.2) (.int .i64 ((rd_T61 l0_1 x16_1).f1))) (fun _ hk => hk.2) (.int .i64 ((rd_T61 l0_1 x16_1).f2))) (fun _ h_ => h_.1))) hb); replace HO_6 := Aside0.mk (Kd.V_below (by (with_reducible repeat (first | apply Kd.V_alloc | apply Kd.V_drewN | apply Kd.V_drew)); exact (Kd.V_mono (Kd.V_far (p := ⟨gb174, 2, none⟩) (Kd.V_far (p := ⟨gb174, 1, none⟩) (Kd.V_far (p := ⟨gb174, 0, none⟩) (Kd.V_mono HO_6.out (fun k_ hk => (⟨hk, hk.2⟩ : _ ∧ k_ ≠ gb174))) (fun _ hk => hk.2) (.int .i64 ((rd_T61 l0_1 x16_1).f0))) (fun _ hk => hk.2) (.int .i64 ((rd_T61 l0_1 x16_1).f1))) (fun _ hk => hk.2) (.int .i64 ((rd_T61 l0_1 x16_1).f2))) (fun _ h_ => h_.1))) hb); replace BK172 := Aside0.mk (blk_below (g := gb172) (o := .cells #[.int .i64 a0_0, .slice (some ad173) l0_1.length c0_1] 25 (0, 0)) (by (with_reducible repeat (first | refine blk_drewN ?_ _ | refine blk_drew ?_ | refine blk_alloc ?_ _)); refine blk_far ?_ NB172_174.out _; (with_reducible repeat (first | refine blk_drewN ?_ _ | refine blk_drew ?_ | refine blk_alloc ?_ _)); refine blk_far ?_ NB172_174.out _; (with_reducible repeat (first | refine blk_drewN ?_ _ | refine blk_drew ?_ | refine blk_alloc ?_ _)); refine blk_far ?_ NB172_174.out _; (with_reducible repeat (first | refine blk_drewN ?_ _ | refine blk_drew ?_ | refine blk_alloc ?_ _)); exact BK172.out) hb); replace BK174 := Aside0.mk (blk_below (g := gb174) (o := .cells #[.int .i64 ((rd_T61 l0_1 x16_1).f0), .int .i64 ((rd_T61 l0_1 x16_1).f1), .int .i64 ((rd_T61 l0_1 x16_1).f2)] 61 (0, 0)) (by (with_reducible repeat (first | refine blk_drewN ?_ _ | refine blk_drew ?_ | refine blk_alloc ?_ _)); refine blk_put (cs := #[.int .i64 ((rd_T61 l0_1 x16_1).f0), .int .i64 ((rd_T61 l0_1 x16_1).f1), .int .i64 0]) ?_ 2 _ rfl; (with_reducible repeat (first | refine blk_drewN ?_ _ | refine blk_drew ?_ | refine blk_alloc ?_ _)); refine blk_put (cs := #[.int .i64 ((rd_T61 l0_1 x16_1).f0), .int .i64 0, .int .i64 0]) ?_ 1 _ rfl; (with_reducible repeat (first | refine blk_drewN ?_ _ | refine blk_drew ?_ | refine blk_alloc ?_ _)); refine blk_put (cs := #[.int .i64 0, .int .i64 0, .int .i64 0]) ?_ 0 _ rfl; (with_reducible repeat (first | refine blk_drewN ?_ _ | refine blk_drew ?_ | refine blk_alloc ?_ _)); exact BK174.out) hb); replace HB := Aside0.mk (below_step (by repeat (first | (with_reducible first | exact HB.out | apply below_alloc | apply pw_below_drewN | apply below_drew1 | refine below_set ?_ GE172.out | refine below_set ?_ GE174.out) | exact HB.out)) hb); (try clear hb); (try clear hb2); (try clear hk); (try clear hi)))
           go_ret2
           exact ⟨_, by first | rfl | (simp [errW_none, errW_some] <;> rfl) | (simp [*, errW_none, errW_some] <;> rfl), Kd.V_mono (vq_ HO_1) (fun _ hk => hk.1.1), by repeat (first | (with_reducible first | exact HB.out | apply below_alloc | apply pw_below_drewN | apply below_drew1 | refine below_set ?_ GE172.out | refine below_set ?_ GE174.out) | exact HB.out)⟩
       · rw [if_neg c7] at H
         exact absurd H (by simp)
     · rw [if_neg c6] at H
       exact absurd H (by simp)
   · rw [if_neg c5] at H
     have c5b0 : decide (x16_1 < (l0_1.length : Int)) = false := decide_eq_false c5
     clear c5
     simp only [Option.some.injEq, Prod.mk.injEq] at H
     obtain ⟨rfl, rfl⟩ := H
     go_wp2
     go_ret2
     exact ⟨_, by first | rfl | (simp [errW_none, errW_some] <;> rfl) | (simp [*, errW_none, errW_some] <;> rfl), Kd.V_mono (vq_ HO_6) (fun _ hk => hk.1), bsw_⟩

/-! ### slices_Delete: function 47: the library's -/
set_option maxHeartbeats 4000000 in
set_option maxRecDepth 100000 in
theorem slices_Delete.calls (base : Nat) (ok : Nat → Prop) (g n cap : Nat) (l0 : List (S25)) (i j : Int) (w0 w : World) (HB : Below base w0 w) (hbase : base ≤ w.heap.size) (ho0 : Kd.N k25 25 w base ok (.slice (some ⟨g, 0, none⟩) n cap) l0) (h0 : 0 ≤ i) (h1 : i < (n : Int)) (hj : j = i + 1) :
 Calls Try.prog 47 #[.slice (some ⟨g, 0, none⟩) n cap, .int .i64 i, .int .i64 j] w fun e w' => e = .returned (.slice (some ⟨g, 0, none⟩) (n - 1) cap) ∧ Kd.N k25 25 w' base ok (.slice (some ⟨g, 0, none⟩) (n - 1) cap) (l0.eraseIdx i.toNat) ∧ Below base w0 w' ∧ w.grownBy w' (some g) := by
 obtain ⟨hn, hnc, hC0⟩ := Kd.N_reads' ho0
 obtain ⟨k, rfl⟩ := Int.eq_ofNat_of_zero_le h0
 subst hj
 have hcm : cap ≤ 9223372036854775807 := Dl.N_cap ho0
 have hkn : k < n := by omega
 have H0 := Aside0.mk (Kd.N_drew ho0)
 have HB0 := Aside0.mk (below_drew HB)
 have hic : decide ((k : Int) = (k : Int) + 1) = false := decide_eq_false (by omega)
 have hle : n ≤ cap := hnc
 have hbg : base ≤ g := Dl.N_base ho0
 clear hn hnc ho0 h0 h1 hC0
 have hkc : k ≤ cap := by omega
 have hk1 : k + 1 ≤ cap := by omega
 have hz1 : 0 ≤ (k : Int) + 1 := by omega
 have hz2 : (k : Int) + 1 ≤ (n : Int) := by omega
 have mixed : Try.prog.follows .mixedOrders = true := by kernel_rfl
 go_enter Try.func47, Try.ntmps47
 go_wp2_with fail
 go_region_law_o (refine Kd.N_delete_step k25 base (by rfl) (.tmp 22) (.tmp 25) 22 25 rfl Try.underlying22 (by kernel_rfl) (g := g) (n := n) (c := cap) (k := k) rfl rfl ?hA ?hm H0.out hkn HB0.out (by exact hbase) ?_; (case hA => simp only [Option.map_some, Addr.add]; first | done | rfl | (split <;> simp <;> rfl)); (case hm => rfl); intro w1 hr1 hb1 hg1)
 have hn1 : 0 < n := by omega
 have hk2 : (n - 1) * 2 + 2 ≤ cap * 2 := by omega
 have hcl : ∀ ty c, (Builtin.clear_ #[22] ty #[.slice (some ⟨g, (n - 1) * 2, none⟩) 1 c]).run Try.prog w1 = .ok (.tuple #[]) (w1.setCells g ((n - 1) * 2) [(.int .i64 0), (.slice none 0 0)]) := fun ty c =>
  Dl.clear_one w1 22 25 ty _ Try.underlying22 Try.zeroValue25 (by decide) g ((n - 1) * 2) c (fun j hj => (Dl.N_cells hr1 _ (by show (n - 1) * 2 + j < cap * 2; have : j < 2 := hj; omega)).1) (fun j hj => (Dl.N_cells hr1 _ (by show (n - 1) * 2 + j < cap * 2; have : j < 2 := hj; omega)).2)
 have hr2 := Aside0.mk (Dl.N_tail hr1 [(.int .i64 0), (.slice none 0 0)] ((n - 1) * 2) (by show (n - 1) * 2 ≤ _; omega) (by show (n - 1) * 2 + 2 ≤ cap * 2; omega))
 have hz3 : ((n - 1 : Nat) : Int) ≤ n := by omega
 have hz4 : n - 1 ≤ n := by omega
 have hz5 : ¬ cap = n - 1 := by omega
 have hz6 : n - (n - 1) = 1 := by omega
 have hb2 := Aside0.mk (hb1.grown (Dl.set_grown w1 g ((n - 1) * 2) [(.int .i64 0), (.slice none 0 0)]) (Nat.le_trans hbase (Dl.grown_trans (Dl.drew_grown w _) hg1).size) (fun q hq => by injection hq with hq; subst hq; exact hbg))
 have hg2 := Aside0.mk (Dl.grown_trans (Dl.grown_trans (Dl.drew_grown w _) hg1) (Dl.set_grown w1 g ((n - 1) * 2) [(.int .i64 0), (.slice none 0 0)]))
 clear hr1 H0 HB0 HB hbase hb1 hg1
 go_wp2
 all_goals (go_ret; first | exact ⟨rfl, hr2.out, hb2.out, hg2.out⟩ | (have hq_ : cap = k + 1 := (by assumption); have hr3 := hr2.out; rw [hq_] at hr3; exact ⟨rfl, hr3, hb2.out, hg2.out⟩))

/-! ### idx_at_after_Do_1: function 43 at the function value 44 -/
def idx_at_after_Do_1.f (l0 : List (S25)) (a1 : Int) : Option (Int) := idxF (fun x => after_Do_1.f  x.f0 x.f1 a1) l0 0
theorem idx_at_after_Do_1.calls (A0 : Option Addr) (c0 : Nat) (l0 : List (S25)) (g1 : Nat) (a1 : Int) (r : Int) (w : World) (hr0 : Kd.C k25 w A0 l0.length l0) (hc0 : l0.length ≤ c0) (hb1 : w.heap[g1]? = some (.cells #[.int .i64 a1] 3 (0, 0))) (h : idx_at_after_Do_1.f l0 a1 = some r) :
 Calls Try.prog 43 #[.slice A0 l0.length c0, .func (.func 44) #[] #[.pointer (some ⟨g1, 0, none⟩)]] w fun e w' => e = .returned (.int .i64 r) ∧ Below w.heap.size w w' :=
 ho43 (fun x => after_Do_1.f  x.f0 x.f1 a1) 44 #[] #[.pointer (some ⟨g1, 0, none⟩)] (enters_of Try.func44 (by kernel_rfl) rfl) A0 c0 l0 r w hr0 (fun W x A1 e1 b hW_ hl1 hs1 hx => by
  show Calls Try.prog 44 #[.agg #[.int .i64 x.f0, .slice A1 x.f1.length e1], .pointer (some ⟨g1, 0, none⟩)] W _
  exact (after_Do_1.calls  x.f0 A1 e1 x.f1 g1 a1 b W hs1 hl1 (hW_.block g1 (by have := (Array.getElem?_eq_some_iff.1 hb1).1; exact this) ▸ hb1) hx).mono (fun e W' ⟨he, hd⟩ => ⟨he, hd⟩)) h

/-! ### after_Do: function 16 -/
def after_Do.j0 : Nat → List (S25) → List (S66) → Int → Bool → Option ((List (S25)) × (List (S66)) × Int)
 | 0, _, _, _, _ => none
 | k + 1, x0, x2, x9, x15 => if x15 = true then (some (x0, x2, 1)) else (if x9 < 0 then (some (x0, x2, 3)) else (if 0 ≤ x9 then (if x9 < (x0.length : Int) then ((after_done.f k ((rd_T25 x0 x9).f0) ((rd_T25 x0 x9).f1) x2).bind fun bt197 => (if bt197.2 = 0 then ((slices_Clone_40.f x0).bind fun t201 => (if x9 < (t201.length : Int) then (some ((t201.eraseIdx (x9 : Int).toNat), bt197.1, 0)) else (none))) else (some (x0, x2, bt197.2)))) else (none)) else (none)))
def after_Do.f (k : Nat) (l0 : List (S25)) (a1 : Int) (l2 : List (S66)) : Option ((List (S25)) × (List (S66)) × Int) := (idx_at_after_Do_1.f l0 a1).bind fun t193 => ((after_Right.f k l0).bind fun t194 => (if t194 = true then ((heap_Right.f l2).bind fun t195 => (after_Do.j0 k l0 l2 t193 (!t195))) else (after_Do.j0 k l0 l2 t193 true)))
theorem after_Do.mono_l : ∀ k, (∀ y0 y1 y2 y3, LeO (after_Do.j0 k y0 y1 y2 y3) (after_Do.j0 (k + 1) y0 y1 y2 y3))
 | 0 => fun _ _ _ _ r h => by simp [after_Do.j0] at h
 | k + 1 => by
  have ih0 := after_Do.mono_l k
  · intro y0 y1 y2 y3
    unfold after_Do.j0
    repeat' first
    | (with_reducible exact ih0 _ _ _ _)
    | (with_reducible exact after_Right.mono _ _)
    | (with_reducible exact after_done.mono _ _ _ _)
    | (with_reducible exact LeO.refl _)
    | (with_reducible exact LeO.none _)
    | (with_reducible refine LeO.ite ?_ ?_)
    | (with_reducible refine LeO.bind ?_ (fun _ => ?_))
    | exact ih0 _ _ _ _
    | exact after_Right.mono _ _
    | exact after_done.mono _ _ _ _
    | exact LeO.none _
    | refine LeO.ite ?_ ?_
    | refine LeO.bind ?_ (fun _ => ?_)
theorem after_Do.mono : ∀ a0 a1 a2 k, LeO (after_Do.f k a0 a1 a2) (after_Do.f (k + 1) a0 a1 a2) := by
 intro a0 a1 a2 k
 have ih0 := after_Do.mono_l k
 unfold after_Do.f
 repeat' first
  | (with_reducible exact ih0 _ _ _ _)
  | (with_reducible exact after_Right.mono _ _)
  | (with_reducible exact after_done.mono _ _ _ _)
  | (with_reducible exact LeO.refl _)
  | (with_reducible exact LeO.none _)
  | (with_reducible refine LeO.ite ?_ ?_)
  | (with_reducible refine LeO.bind ?_ (fun _ => ?_))
  | exact ih0 _ _ _ _
  | exact after_Right.mono _ _
  | exact after_done.mono _ _ _ _
  | exact LeO.none _
  | refine LeO.ite ?_ ?_
  | refine LeO.bind ?_ (fun _ => ?_)
set_option maxHeartbeats 8000000 in
set_option maxRecDepth 100000 in
theorem after_Do.calls (k : Nat) (P0_ : Nat → Prop) (A0 : Option Addr) (c0 : Nat) (l0 : List (S25)) (a1 : Int) (P2_ : Nat → Prop) (A2 : Option Addr) (c2 : Nat) (l2 : List (S66)) (r1 : List (S25)) (r2 : List (S66)) (r3 : Int) (w : World) (hs0 : Kd.V k25 25 w w.heap.size (fun k_ => P0_ k_) (.slice A0 l0.length c0) l0) (hs2 : Kd.V k66 66 w w.heap.size (fun k_ => P2_ k_) (.slice A2 l2.length c2) l2) (h : after_Do.f k l0 a1 l2 = some (r1, r2, r3)) :
 Calls Try.prog 16 #[.slice A0 l0.length c0, .int .i64 a1, .slice A2 l2.length c2] w fun e w' => ∃ v0_ v1_ : Value, e = .returned (.tuple #[v0_, v1_, .int .i64 r3]) ∧ Kd.V k25 25 w' w.heap.size (fun k_ => ((P0_ k_ ∨ P2_ k_) ∨ w.heap.size ≤ k_)) v0_ r1 ∧ Kd.V k66 66 w' w.heap.size (fun k_ => ((P0_ k_ ∨ P2_ k_) ∨ w.heap.size ≤ k_)) v1_ r2 ∧ Below w.heap.size w w' := by
 have hu25 := Try.underlying25
 have HO0 := Aside0.mk (show Kd.V k25 25 w w.heap.size (fun k_ => ((P0_ k_ ∨ P2_ k_) ∨ w.heap.size ≤ k_)) (.slice A0 l0.length c0) l0 from Kd.V_mono hs0 (fun k_ hk => .inl (.inl hk)))
 have HO2 := Aside0.mk (show Kd.V k66 66 w w.heap.size (fun k_ => ((P0_ k_ ∨ P2_ k_) ∨ w.heap.size ≤ k_)) (.slice A2 l2.length c2) l2 from Kd.V_mono hs2 (fun k_ hk => .inl (.inr hk)))
 have HB := Aside0.mk (Below.refl w.heap.size w)
 have H : ((idx_at_after_Do_1.f l0 a1).bind fun t193 => ((after_Right.f k l0).bind fun t194 => (if t194 = true then ((heap_Right.f l2).bind fun t195 => (after_Do.j0 k l0 l2 t193 (!t195))) else (after_Do.j0 k l0 l2 t193 true)))) = some (r1, r2, r3) := h
 clear h
 replace H := Option.bind_eq_some_iff.mp H
 obtain ⟨t193, A40, H⟩ := H
 have A4 := Aside0.mk A40
 clear A40
 have HC5 := Aside0.mk H
 clear H
 go_enter Try.func16, Try.ntmps16
 go_upto_region 2 with (first | ((with_reducible refine gate_dst (N := 4) rfl ?_); refine box_event ?hg (N := 4) ?hd (cs := #[.int .i64 a1]) (t := 3) ?hr ?_; (case hd => rfl); (case hg => rfl); (case hr => first | (go_simp; done) | (go_simp; rfl)); intro gb192 hg w6 hbox hb; replace HO0 := Aside0.mk (Kd.V_below (Kd.V_elderB (vq_ HO0) gb192 (Nat.le_of_eq hg.symm)) hb); replace HO2 := Aside0.mk (Kd.V_below (Kd.V_elderB (vq_ HO2) gb192 (Nat.le_of_eq hg.symm)) hb); replace BK192 := Aside0.mk (hbox); replace GW192 := Aside0.mk ((by rw [hg]; exact bsz_ : w.heap.size ≤ gb192)); replace HB := Aside0.mk (bst_ hb); replace GE192 := GW192; clear hb hbox hg) | ((with_reducible refine gate_callee (f := 43) rfl ?_); refine goesL_ (some 14) rfl rfl Try.func43 (by kernel_rfl) rfl #[.slice A0 l0.length c0, .func (.func 44) #[] #[.pointer (some ⟨gb192, 0, none⟩)]] rfl mp_ ?_; (with_reducible refine (idx_at_after_Do_1.calls _ _ l0 gb192 a1 t193 _ ?side1 ?side2 ?side3 A4.out).mono ?_); (case side1 => repeat (first | exact (Kd.V_reads' HO0.out).2.2 | with_reducible first | refine Kd.C_alloc ?_ _ | refine Kd.C_drewN ?_ _ | refine Kd.C_drew ?_)); (case side2 => exact (Kd.V_reads' HO0.out).2.1); (case side3 => exact (bq_ BK192)); rintro e w7 ⟨rfl, hb⟩; refine ⟨_, rfl, ?_⟩; replace HO0 := vb_ HO0 hb; replace HO2 := vb_ HO2 hb; replace BK192 := bb_ BK192 hb; replace HB := Aside0.mk (below_step bsw_ hb); (try clear hb); (try clear hb2); (try clear hk); (try clear hi)))
 (try simp only [Act.put, List.setIfInBounds_toArray, List.set_cons_zero, List.set_cons_succ])
 go_cut [15] (fun v15 wc => ∃ (kq : Nat) (x15_4 : Bool), v15 = .bool x15_4 ∧ Aside0 (after_Do.j0 kq l0 l2 t193 x15_4 = some (r1, r2, r3)) ∧ Aside0 (kq ≤ k) ∧ Aside0 (Kd.V k25 25 wc w.heap.size (fun k_ => ((P0_ k_ ∨ P2_ k_) ∨ w.heap.size ≤ k_) ∧ k_ ≠ gb192) (.slice A0 l0.length c0) l0) ∧ Aside0 (Kd.V k66 66 wc w.heap.size (fun k_ => ((P0_ k_ ∨ P2_ k_) ∨ w.heap.size ≤ k_) ∧ k_ ≠ gb192) (.slice A2 l2.length c2) l2) ∧ Aside0 (wc.heap[gb192]? = some (.cells #[.int .i64 a1] 3 (0, 0))) ∧ Aside0 (Below w.heap.size w wc))
 case first =>
  have H := HC5.out
  clear HC5
  replace H := Option.bind_eq_some_iff.mp H
  obtain ⟨t194, A80, H⟩ := H
  have A8 := Aside0.mk A80
  clear A80
  by_cases c9 : t194 = true
  · subst c9
    rw [if_pos rfl] at H
    replace H := Option.bind_eq_some_iff.mp H
    obtain ⟨t195, A100, H⟩ := H
    have A10 := Aside0.mk A100
    clear A100
    have H' := Aside0.mk H
    clear H
    go_wp2_with (first | ((with_reducible refine gate_callee (f := 22) rfl ?_); refine goesL_ (some 17) rfl rfl Try.func22 (by kernel_rfl) rfl #[.slice A0 l0.length c0] rfl mp_ ?_; (with_reducible refine (after_Right.calls k _ _ l0 true _ ?side1 ?side2 A8.out).mono ?_); (case side1 => repeat (first | exact (Kd.V_reads' HO0.out).2.2 | with_reducible first | refine Kd.C_alloc ?_ _ | refine Kd.C_drewN ?_ _ | refine Kd.C_drew ?_)); (case side2 => exact (Kd.V_reads' HO0.out).2.1); rintro e w11 ⟨rfl, hb⟩; refine ⟨_, rfl, ?_⟩; replace HO0 := vb_ HO0 hb; replace HO2 := vb_ HO2 hb; replace BK192 := bb_ BK192 hb; replace HB := Aside0.mk (below_step bsw_ hb); (try clear hb); (try clear hb2); (try clear hk); (try clear hi)) | (go_at_call 45; (with_reducible refine (heap_Right.calls _ _ l2 t195 _ ?side1 ?side2 A10.out).mono ?_); (case side1 => repeat (first | exact (Kd.V_reads' HO2.out).2.2 | with_reducible first | refine Kd.C_alloc ?_ _ | refine Kd.C_drewN ?_ _ | refine Kd.C_drew ?_)); (case side2 => exact (Kd.V_reads' HO2.out).2.1); rintro e w12 ⟨rfl, hb⟩; replace HO0 := vb_ HO0 hb; replace HO2 := vb_ HO2 hb; replace BK192 := bb_ BK192 hb; replace HB := Aside0.mk (below_step bsw_ hb); (try clear hb); (try clear hb2); (try clear hk); (try clear hi)))
    go_meet
    case rel => exact ⟨_, (!t195), (by first | rfl | (simp; done) | (simp [*]; done)), H', ⟨by first | omega | exact Nat.le_refl _⟩, ⟨vq_ HO0⟩, ⟨vq_ HO2⟩, ⟨bq_ BK192⟩, ⟨bsw_⟩⟩
  · replace c9 := Bool.eq_false_iff.mpr c9
    subst c9
    rw [if_neg (show ¬ (false = true) by decide)] at H
    have H' := Aside0.mk H
    clear H
    go_wp2_with (first | ((with_reducible refine gate_callee (f := 22) rfl ?_); refine goesL_ (some 17) rfl rfl Try.func22 (by kernel_rfl) rfl #[.slice A0 l0.length c0] rfl mp_ ?_; (with_reducible refine (after_Right.calls k _ _ l0 false _ ?side1 ?side2 A8.out).mono ?_); (case side1 => repeat (first | exact (Kd.V_reads' HO0.out).2.2 | with_reducible first | refine Kd.C_alloc ?_ _ | refine Kd.C_drewN ?_ _ | refine Kd.C_drew ?_)); (case side2 => exact (Kd.V_reads' HO0.out).2.1); rintro e w13 ⟨rfl, hb⟩; refine ⟨_, rfl, ?_⟩; replace HO0 := vb_ HO0 hb; replace HO2 := vb_ HO2 hb; replace BK192 := bb_ BK192 hb; replace HB := Aside0.mk (below_step bsw_ hb); (try clear hb); (try clear hb2); (try clear hk); (try clear hi)))
    go_meet
    case rel => exact ⟨_, (true), (by first | rfl | (simp; done) | (simp [*]; done)), H', ⟨by first | omega | exact Nat.le_refl _⟩, ⟨vq_ HO0⟩, ⟨vq_ HO2⟩, ⟨bq_ BK192⟩, ⟨bsw_⟩⟩
 case rest =>
  clear HC5
  try clear c1
  try clear c2
  try clear p2
  try clear c4
  try clear c9
  obtain ⟨kq, x15_4, rfl, HA, HJ4, HO_0, HO_2, BK192, HB⟩ := hcut
  cases kq with
  | zero => exact absurd HA.out (by simp [after_Do.j0])
  | succ kj4 =>
   have H := HA.out
   clear HA
   simp only [after_Do.j0] at H
   by_cases c14 : x15_4 = true
   · subst c14
     rw [if_pos rfl] at H
     simp only [Option.some.injEq, Prod.mk.injEq] at H
     obtain ⟨rfl, rfl, rfl⟩ := H
     go_wp2
     go_ret3
     exact ⟨_, _, by first | rfl | (simp [errW_none, errW_some] <;> rfl) | (simp [*, errW_none, errW_some] <;> rfl), Kd.V_mono (vq_ HO_0) (fun _ hk => hk.1), Kd.V_mono (vq_ HO_2) (fun _ hk => hk.1), bsw_⟩
   · replace c14 := Bool.eq_false_iff.mpr c14
     subst c14
     rw [if_neg (show ¬ (false = true) by decide)] at H
     by_cases c15 : t193 < 0
     · rw [if_pos c15] at H
       have c15b0 : decide (t193 < 0) = true := decide_eq_true c15
       clear c15
       simp only [Option.some.injEq, Prod.mk.injEq] at H
       obtain ⟨rfl, rfl, rfl⟩ := H
       go_wp2
       go_ret3
       exact ⟨_, _, by first | rfl | (simp [errW_none, errW_some] <;> rfl) | (simp [*, errW_none, errW_some] <;> rfl), Kd.V_mono (vq_ HO_0) (fun _ hk => hk.1), Kd.V_mono (vq_ HO_2) (fun _ hk => hk.1), bsw_⟩
     · rw [if_neg c15] at H
       have c15b0 : decide (t193 < 0) = false := decide_eq_false c15
       clear c15
       by_cases c16 : 0 ≤ t193
       · rw [if_pos c16] at H
         have c16b0 : decide (0 ≤ t193) = true := decide_eq_true c16
         clear c16
         by_cases c17 : t193 < (l0.length : Int)
         · rw [if_pos c17] at H
           have c17b0 : decide (t193 < (l0.length : Int)) = true := decide_eq_true c17
           clear c17
           replace H := Option.bind_eq_some_iff.mp H
           obtain ⟨⟨t197, t200⟩, A180, H⟩ := H
           have A18 := Aside0.mk A180
           clear A180
           by_cases c19 : t200 = 0
           · rw [if_pos c19] at H
             have c19b0 : (t200 == 0) = true := beq_iff_eq.mpr c19
             have c19b1 : (t200 != 0) = false := bne_eq_false_iff_eq.mpr c19
             clear c19
             replace H := Option.bind_eq_some_iff.mp H
             obtain ⟨t201, A200, H⟩ := H
             have A20 := Aside0.mk A200
             clear A200
             by_cases c21 : t193 < (t201.length : Int)
             · rw [if_pos c21] at H
               have c21b0 : decide (t193 < (t201.length : Int)) = true := decide_eq_true c21
               clear c21
               obtain ⟨y204, hy204⟩ : ∃ y_ : List (S25), y_ = (t201.eraseIdx (t193 : Int).toNat) := ⟨_, rfl⟩
               replace H : (some (y204, t197, 0)) = some (r1, r2, r3) := by first | (rw [hy204]; with_reducible exact H) | (have H2_ := (Option.bind_some _ _).symm.trans H; rw [hy204]; with_reducible exact H2_) | (have H2_ := (Option.bind_some _ _).symm.trans H; with_reducible exact H2_) | with_reducible exact H | (rw [hy204]; exact H) | exact H
               have Ny204 := Aside0.mk hy204
               clear hy204
               simp only [Option.some.injEq, Prod.mk.injEq] at H
               obtain ⟨rfl, rfl, rfl⟩ := H
               have p196 : 0 ≤ (t193 : Int) := oda_
               have q196 : t193 < (l0.length : Int) := oda_
               obtain ⟨ad196, A196_1, c196_1, e196, hx196_0, hx196_1, hl196_1, hi196_1⟩ := at_T25 (Kd.V_reads' HO_0.out).2.2 t193 p196 q196
               cases e196
               obtain ⟨ce196, hce196, hMe196, hcc196⟩ := Kd.V_get HO_0.out z25 t193 p196 (by first | exact q196 | exact oda_ | (have e_ := (Kd.V_reads' HO_0.out).1; omega))
               obtain ⟨ua196_1, uc196_1, rfl, ul196_1, ge196_1⟩ := k25_openF hMe196
               have hv196_1 := hcc196 1 _ rfl
               rw [add_field _ _ 1 (by omega)] at hv196_1
               replace hv196_1 := Option.some.inj (hv196_1.symm.trans hx196_1)
               injection hv196_1 with hva_ hvn_ hvc_
               rw [hva_] at ge196_1
               rw [hvc_] at ul196_1
               have HL196_1 := Aside0.mk (show Kd.V k61 61 _ w.heap.size _ _ ((rd_T25 l0 t193).f1) from Kd.V_mk ul196_1 ge196_1)
               clear hva_ hvn_ hvc_ ge196_1 ul196_1
               clear hcc196 hce196
               have HR196_1 := Aside0.mk hi196_1
               have HC196_1 := Aside0.mk hl196_1
               clear hi196_1 hl196_1
               replace p196 := eq_true p196
               replace q196 := eq_true q196
               go_wp2_with (first | ((with_reducible refine gate_callee (f := 46) rfl ?_); refine goesL_ (some 37) rfl rfl Try.func46 (by kernel_rfl) rfl #[.agg #[.int .i64 ((rd_T25 l0 t193).f0), .slice A196_1 ((rd_T25 l0 t193).f1).length c196_1], .slice A2 l2.length c2] rfl mp_ ?_; (with_reducible refine (after_done.calls kj4 ((rd_T25 l0 t193).f0) _ _ ((rd_T25 l0 t193).f1) (fun k_ => (((P0_ k_ ∨ P2_ k_) ∨ w.heap.size ≤ k_) ∧ k_ ≠ gb192)) _ _ l2 t197 t200 _ ?side1 ?side2 ?side3 A18.out).mono ?_); (case side1 => repeat (first | exact (Kd.V_reads' HL196_1.out).2.2 | exact cp_ HR196_1 | with_reducible first | refine Kd.C_alloc ?_ _ | refine Kd.C_drewN ?_ _ | refine Kd.C_drew ?_)); (case side2 => exact HC196_1.out); (case side3 => exact HO_2.out); rintro e w22 ⟨v198, rfl, ho0, hb⟩; refine ⟨_, rfl, ?_⟩; replace HO_0 := vb_ HO_0 hb; replace HO_2 := vb_ HO_2 hb; replace HL196_1 := vb_ HL196_1 hb; replace HO199 := Aside0.mk (Kd.V_lower (Kd.V_mono (ok' := fun k_ => ((P0_ k_ ∨ P2_ k_) ∨ w.heap.size ≤ k_) ∧ k_ ≠ gb192) ho0 (fun k_ hk_ => ⟨Or.elim hk_ (fun hs_ => hs_.1) (fun hn_ => (.inr (Nat.le_trans (below_size bsw_) hn_))), Or.elim hk_ (fun hs_ => hs_.2) (fun hn_ => (Kd.freshB (g := gb192) (o := .cells #[.int .i64 a1] 3 (0, 0)) (bq_ BK192) k_ hn_))⟩)) (below_size bsw_)); replace BK192 := bb_ BK192 hb; replace HR196_1 := Aside0.mk (Kd.V_reads' HL196_1.out).2.2; replace HB := Aside0.mk (below_step bsw_ hb); (try clear hb); (try clear hb2); (try clear hk); (try clear hi); (try clear ho0)) | ((with_reducible refine gate_callee (f := 40) rfl ?_); refine goesL_ (some 46) rfl rfl Try.func40 (by kernel_rfl) rfl #[.slice (some ad196) l0.length c0] rfl mp_ ?_; (with_reducible refine (slices_Clone_40.calls (fun k_ => (((P0_ k_ ∨ P2_ k_) ∨ w.heap.size ≤ k_) ∧ k_ ≠ gb192)) _ _ l0 t201 _ ?side1 A20.out).mono ?_); (case side1 => exact HO_0.out); rintro e w23 ⟨v202, rfl, ho0, hb⟩; refine ⟨_, rfl, ?_⟩; replace HO_0 := Aside0.mk (Kd.V_elder' (vq_ HO_0) (Kd.N_base ho0) hb); replace HO_2 := Aside0.mk (Kd.V_elder' (vq_ HO_2) (Kd.N_base ho0) hb); replace HL196_1 := Aside0.mk (Kd.V_elder' (vq_ HL196_1) (Kd.N_base ho0) hb); replace HO199 := Aside0.mk (Kd.V_elder' (vq_ HO199) (Kd.N_base ho0) hb); replace HO203 := Aside0.mk (Kd.N_lower (Kd.N_mono (ok' := fun k_ => ((P0_ k_ ∨ P2_ k_) ∨ w.heap.size ≤ k_) ∧ k_ ≠ gb192) ho0 (fun k_ hk_ => ⟨Or.elim hk_ (fun hs_ => hs_.1) (fun hn_ => (.inr (Nat.le_trans (below_size bsw_) hn_))), Or.elim hk_ (fun hs_ => hs_.2) (fun hn_ => (Kd.freshB (g := gb192) (o := .cells #[.int .i64 a1] 3 (0, 0)) (bq_ BK192) k_ hn_))⟩)) (below_size bsw_)); replace BK192 := bb_ BK192 hb; replace HR196_1 := Aside0.mk (Kd.V_reads' HL196_1.out).2.2; replace HB := Aside0.mk (below_step bsw_ hb); (try clear hb); (try clear hb2); (try clear hk); (try clear hi); (try clear ho0); obtain ⟨Ao26, co26, eo26⟩ := Kd.N_slice HO203.out; subst eo26) | ((with_reducible refine gate_callee (f := 47) rfl ?_); have hj_ : 0 ≤ (t193 : Int) := oda_; have hl_ : (t193 : Int) < (t201.length : Int) := oda_; have hh_ := (Kd.N_reads' HO203.out).2.1; have hb_ := (Kd.N_reads' HO203.out).2.2.2.1; have hy1_ := hb_; have hk_ := hb_; have h0_ := hb_; obtain ⟨gd25, cap_, ev_, _⟩ := Kd.N_form HO203.out (by omega); injection ev_ with ea_ eb_ ec_; subst ea_; clear eb_ ec_; refine goesL_ (some 50) rfl rfl Try.func47 (by kernel_rfl) rfl #[.slice (some ⟨gd25, 0, none⟩) t201.length co26, .int .i64 (t193), .int .i64 (wrap64 (t193 + 1))] rfl mp_ ?_; refine (slices_Delete.calls w.heap.size _ gd25 t201.length co26 t201 (t193) _ w _ bsw_ (below_size bsw_) (nq_ HO203) hj_ hl_ ?hjj).mono ?_; (case hjj => unfold wrap64; omega); rintro e w24 ⟨rfl, ho, hb, hg⟩; refine ⟨_, rfl, ?_⟩; clear hj_ hl_ hh_ hb_ hk_ h0_; rw [← Ny204.out] at ho; clear hy1_; have hn_ : t201.length - 1 = y204.length := (by have := (Kd.N_reads' ho).1; omega); rw [hn_] at ho ⊢; clear hn_; replace HO_0 := Aside0.mk (Kd.V_afterv (v := (.slice (some ⟨gd25, 0, none⟩) t201.length co26)) (v1 := .slice (some ⟨gd25, 0, none⟩) y204.length co26) (ok := (fun k_ => ((P0_ k_ ∨ P2_ k_) ∨ w.heap.size ≤ k_) ∧ k_ ≠ gb192)) (vq_ HO_0) hg (.inl rfl)); replace HO_2 := Aside0.mk (Kd.V_afterv (v := (.slice (some ⟨gd25, 0, none⟩) t201.length co26)) (v1 := .slice (some ⟨gd25, 0, none⟩) y204.length co26) (ok := (fun k_ => ((P0_ k_ ∨ P2_ k_) ∨ w.heap.size ≤ k_) ∧ k_ ≠ gb192)) (vq_ HO_2) hg (.inl rfl)); replace BK192 := Aside0.mk (blk_grown (g := gb192) (o := .cells #[.int .i64 a1] 3 (0, 0)) (bq_ BK192) hg (Kd.N_ne HO203.out BK192.out (by decide))); replace HL196_1 := Aside0.mk (Kd.V_afterv (v := (.slice (some ⟨gd25, 0, none⟩) t201.length co26)) (v1 := .slice (some ⟨gd25, 0, none⟩) y204.length co26) (ok := (fun k_ => ((P0_ k_ ∨ P2_ k_) ∨ w.heap.size ≤ k_) ∧ k_ ≠ gb192)) (vq_ HL196_1) hg (.inl rfl)); replace HO199 := Aside0.mk (Kd.V_afterv (v := (.slice (some ⟨gd25, 0, none⟩) t201.length co26)) (v1 := .slice (some ⟨gd25, 0, none⟩) y204.length co26) (ok := (fun k_ => ((P0_ k_ ∨ P2_ k_) ∨ w.heap.size ≤ k_) ∧ k_ ≠ gb192)) (vq_ HO199) hg (.inl rfl)); replace HO203 := Aside0.mk (ho); replace HB := Aside0.mk (hb); clear ho hb hg))
               go_ret3
               exact ⟨_, _, by first | rfl | (simp [errW_none, errW_some] <;> rfl) | (simp [*, errW_none, errW_some] <;> rfl), Kd.N_V (Kd.N_mono (nq_ HO203) (fun _ hk => hk.1)), Kd.V_mono (vq_ HO199) (fun _ hk => hk.1.1), bsw_⟩
             · rw [if_neg c21] at H
               exact absurd H (by simp)
           · rw [if_neg c19] at H
             have c19b0 : (t200 == 0) = false := beq_eq_false_iff_ne.mpr c19
             have c19b1 : (t200 != 0) = true := bne_iff_ne.mpr c19
             simp only [Option.some.injEq, Prod.mk.injEq] at H
             obtain ⟨rfl, rfl, rfl⟩ := H
             have p196 : 0 ≤ (t193 : Int) := oda_
             have q196 : t193 < (l0.length : Int) := oda_
             obtain ⟨ad196, A196_1, c196_1, e196, hx196_0, hx196_1, hl196_1, hi196_1⟩ := at_T25 (Kd.V_reads' HO_0.out).2.2 t193 p196 q196
             cases e196
             obtain ⟨ce196, hce196, hMe196, hcc196⟩ := Kd.V_get HO_0.out z25 t193 p196 (by first | exact q196 | exact oda_ | (have e_ := (Kd.V_reads' HO_0.out).1; omega))
             obtain ⟨ua196_1, uc196_1, rfl, ul196_1, ge196_1⟩ := k25_openF hMe196
             have hv196_1 := hcc196 1 _ rfl
             rw [add_field _ _ 1 (by omega)] at hv196_1
             replace hv196_1 := Option.some.inj (hv196_1.symm.trans hx196_1)
             injection hv196_1 with hva_ hvn_ hvc_
             rw [hva_] at ge196_1
             rw [hvc_] at ul196_1
             have HL196_1 := Aside0.mk (show Kd.V k61 61 _ w.heap.size _ _ ((rd_T25 l0 t193).f1) from Kd.V_mk ul196_1 ge196_1)
             clear hva_ hvn_ hvc_ ge196_1 ul196_1
             clear hcc196 hce196
             have HR196_1 := Aside0.mk hi196_1
             have HC196_1 := Aside0.mk hl196_1
             clear hi196_1 hl196_1
             replace p196 := eq_true p196
             replace q196 := eq_true q196
             go_wp2_with (first | ((with_reducible refine gate_callee (f := 46) rfl ?_); refine goesL_ (some 37) rfl rfl Try.func46 (by kernel_rfl) rfl #[.agg #[.int .i64 ((rd_T25 l0 t193).f0), .slice A196_1 ((rd_T25 l0 t193).f1).length c196_1], .slice A2 l2.length c2] rfl mp_ ?_; (with_reducible refine (after_done.calls kj4 ((rd_T25 l0 t193).f0) _ _ ((rd_T25 l0 t193).f1) (fun k_ => (((P0_ k_ ∨ P2_ k_) ∨ w.heap.size ≤ k_) ∧ k_ ≠ gb192)) _ _ l2 t197 t200 _ ?side1 ?side2 ?side3 A18.out).mono ?_); (case side1 => repeat (first | exact (Kd.V_reads' HL196_1.out).2.2 | exact cp_ HR196_1 | with_reducible first | refine Kd.C_alloc ?_ _ | refine Kd.C_drewN ?_ _ | refine Kd.C_drew ?_)); (case side2 => exact HC196_1.out); (case side3 => exact HO_2.out); rintro e w27 ⟨v198, rfl, ho0, hb⟩; refine ⟨_, rfl, ?_⟩; replace HO_0 := vb_ HO_0 hb; replace HO_2 := vb_ HO_2 hb; replace HL196_1 := vb_ HL196_1 hb; replace HO199 := Aside0.mk (Kd.V_lower (Kd.V_mono (ok' := fun k_ => ((P0_ k_ ∨ P2_ k_) ∨ w.heap.size ≤ k_) ∧ k_ ≠ gb192) ho0 (fun k_ hk_ => ⟨Or.elim hk_ (fun hs_ => hs_.1) (fun hn_ => (.inr (Nat.le_trans (below_size bsw_) hn_))), Or.elim hk_ (fun hs_ => hs_.2) (fun hn_ => (Kd.freshB (g := gb192) (o := .cells #[.int .i64 a1] 3 (0, 0)) (bq_ BK192) k_ hn_))⟩)) (below_size bsw_)); replace BK192 := bb_ BK192 hb; replace HR196_1 := Aside0.mk (Kd.V_reads' HL196_1.out).2.2; replace HB := Aside0.mk (below_step bsw_ hb); (try clear hb); (try clear hb2); (try clear hk); (try clear hi); (try clear ho0)))
             go_ret3
             exact ⟨_, _, by first | rfl | (simp [errW_none, errW_some] <;> rfl) | (simp [*, errW_none, errW_some] <;> rfl), Kd.V_mono (vq_ HO_0) (fun _ hk => hk.1), Kd.V_mono (vq_ HO_2) (fun _ hk => hk.1), bsw_⟩
         · rw [if_neg c17] at H
           exact absurd H (by simp)
       · rw [if_neg c16] at H
         exact absurd H (by simp)

end Go.Proofs.Ytihcnbhcemkncaa.B
