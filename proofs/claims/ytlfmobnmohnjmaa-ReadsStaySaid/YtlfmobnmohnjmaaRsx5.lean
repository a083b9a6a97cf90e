-- PRINTED by print.py (a twelfth state) out of the translation. Not trusted: Lean checks it.
import Derived.Test.YtlfmobnmohnjmaaRsx0
import Derived.Test.YtlfmobnmohnjmaaRsx2
import Derived.Test.YtlfmobnmohnjmaaRsx3
import Derived.Test.YtlfmobnmohnjmaaRsx4
namespace Go.Proofs.Ytlfmobnmohnjmaa.Rs
open Go.Proofs.Ytlfmobnmohnjmaa.Ho
open Go.RowKit Go.Proofs.YtlfmobnmohnjmaaW.PrintWords Go.Proofs.YtlfmobnmohnjmaaW.PrintLast Go.Proofs.YtlfmobnmohnjmaaW.PrintMore
attribute [local go_sem] max2_int min2_int max_two min_two max_three min_three max_four min_four   -- for this text's walks alone
set_option linter.unusedVariables false
set_option linter.unusedSimpArgs false

/-! ### heap_wrong: function 75 -/
def heap_wrong.f (a0_0 : Bool) (a0_1 : Int) : Option (Bool) := (span_Right.f a0_1).bind fun t155 => (if t155 = true then (if a0_0 = true then (some false) else (some (a0_1 != 0))) else (some true))
set_option maxHeartbeats 8000000 in
set_option maxRecDepth 100000 in
theorem heap_wrong.calls (a0_0 : Bool) (a0_1 : Int) (r : Bool) (w : World) (h : heap_wrong.f a0_0 a0_1 = some r) :
 Calls Try.prog 75 #[.agg #[.bool a0_0, .int .i64 a0_1]] w fun e w' => e = .returned (.bool r) ∧ Below w.heap.size w w' := by
 have hu73 := Try.underlying73
 have HB := Aside0.mk (Below.refl w.heap.size w)
 have H : ((span_Right.f a0_1).bind fun t155 => (if t155 = true then (if a0_0 = true then (some false) else (some (a0_1 != 0))) else (some true))) = some r := h
 clear h
 replace H := Option.bind_eq_some_iff.mp H
 obtain ⟨t155, A20, H⟩ := H
 replace H : (if t155 = true then (if a0_0 = true then (some false) else (some (a0_1 != 0))) else (some true)) = some r := H
 have A2 := Aside0.mk A20
 clear A20
 by_cases c3 : t155 = true
 · subst c3
   have H1 : (if a0_0 = true then (some false) else (some (a0_1 != 0))) = some r := by rw [if_pos rfl] at H; exact H
   clear H
   have H := H1
   clear H1
   by_cases c4 : a0_0 = true
   · subst c4
     have H1 : (some false) = some r := by rw [if_pos rfl] at H; exact H
     clear H
     have H := H1
     clear H1
     obtain rfl := Option.some.inj H
     go_enter Try.func75, Try.ntmps75
     go_wp2_with (first | ((with_reducible refine gate_dst (N := 1) rfl ?_); refine box_event ?hg (N := 1) ?hd (cs := #[.bool true, .int .i64 a0_1]) (t := 73) ?hr ?_; (case hd => rfl); (case hg => rfl); (case hr => first | (go_simp; done) | (go_simp; rfl)); intro gb154 hg w5 hbox hb; have n0_ := Aside0.mk (bst_ hb); have n1_ := Aside0.mk (hbox); have n2_ := Aside0.mk ((by rw [hg]; exact bsz_ : w.heap.size ≤ gb154)); have n3_ := n2_; clear HB; have HB := n0_; have BK154 := n1_; have GW154 := n2_; have GE154 := n3_; clear n0_ n1_ n2_ n3_; clear hb hbox hg; have hcz6_0 : w5.cell? ⟨gb154, 0, none⟩ = some (.bool true) := (blk_cell BK154.out 0).trans rfl; have hcz6_1 : w5.cell? ⟨gb154, 1, none⟩ = some (.int .i64 a0_1) := (blk_cell BK154.out 1).trans rfl; have hfz6_0 := blk_frozen BK154.out 0; have hfz6_1 := blk_frozen BK154.out 1) | ((with_reducible refine gate_callee (f := 49) rfl ?_); refine goesL_ (some 5) rfl rfl Try.func49 (by kernel_rfl) rfl #[.int .i64 a0_1] rfl (by (try simp only [List.map_toArray, List.map_cons, List.map_nil]); first | done | rfl) ?_; (with_reducible refine (span_Right.calls a0_1 true _ A2.out).mono ?_); rintro e w' ⟨rfl, ⟨nd, rfl⟩⟩; refine ⟨_, rfl, ?_⟩))
     go_ret
     exact ⟨by first | rfl | (simp [errW_none, errW_some] <;> rfl) | (simp [*, errW_none, errW_some] <;> rfl), by repeat (with_reducible first | exact HB.out | apply below_alloc | apply pw_below_drewN | apply below_drew1 | refine below_set ?_ GE154.out)⟩
   · replace c4 := Bool.eq_false_iff.mpr c4
     subst c4
     have H1 : (some (a0_1 != 0)) = some r := by rw [if_neg (show ¬ (false = true) by decide)] at H; exact H
     clear H
     have H := H1
     clear H1
     obtain rfl := Option.some.inj H
     go_enter Try.func75, Try.ntmps75
     go_wp2_with (first | ((with_reducible refine gate_dst (N := 1) rfl ?_); refine box_event ?hg (N := 1) ?hd (cs := #[.bool false, .int .i64 a0_1]) (t := 73) ?hr ?_; (case hd => rfl); (case hg => rfl); (case hr => first | (go_simp; done) | (go_simp; rfl)); intro gb154 hg w7 hbox hb; have n0_ := Aside0.mk (bst_ hb); have n1_ := Aside0.mk (hbox); have n2_ := Aside0.mk ((by rw [hg]; exact bsz_ : w.heap.size ≤ gb154)); have n3_ := n2_; clear HB; have HB := n0_; have BK154 := n1_; have GW154 := n2_; have GE154 := n3_; clear n0_ n1_ n2_ n3_; clear hb hbox hg; have hcz8_0 : w7.cell? ⟨gb154, 0, none⟩ = some (.bool false) := (blk_cell BK154.out 0).trans rfl; have hcz8_1 : w7.cell? ⟨gb154, 1, none⟩ = some (.int .i64 a0_1) := (blk_cell BK154.out 1).trans rfl; have hfz8_0 := blk_frozen BK154.out 0; have hfz8_1 := blk_frozen BK154.out 1) | ((with_reducible refine gate_callee (f := 49) rfl ?_); refine goesL_ (some 5) rfl rfl Try.func49 (by kernel_rfl) rfl #[.int .i64 a0_1] rfl (by (try simp only [List.map_toArray, List.map_cons, List.map_nil]); first | done | rfl) ?_; (with_reducible refine (span_Right.calls a0_1 true _ A2.out).mono ?_); rintro e w' ⟨rfl, ⟨nd, rfl⟩⟩; refine ⟨_, rfl, ?_⟩))
     go_ret
     exact ⟨by first | rfl | (simp [errW_none, errW_some] <;> rfl) | (simp [*, errW_none, errW_some] <;> rfl), by repeat (with_reducible first | exact HB.out | apply below_alloc | apply pw_below_drewN | apply below_drew1 | refine below_set ?_ GE154.out)⟩
 · replace c3 := Bool.eq_false_iff.mpr c3
   subst c3
   have H1 : (some true) = some r := by rw [if_neg (show ¬ (false = true) by decide)] at H; exact H
   clear H
   have H := H1
   clear H1
   obtain rfl := Option.some.inj H
   go_enter Try.func75, Try.ntmps75
   go_wp2_with (first | ((with_reducible refine gate_dst (N := 1) rfl ?_); refine box_event ?hg (N := 1) ?hd (cs := #[.bool a0_0, .int .i64 a0_1]) (t := 73) ?hr ?_; (case hd => rfl); (case hg => rfl); (case hr => first | (go_simp; done) | (go_simp; rfl)); intro gb154 hg w9 hbox hb; have n0_ := Aside0.mk (bst_ hb); have n1_ := Aside0.mk (hbox); have n2_ := Aside0.mk ((by rw [hg]; exact bsz_ : w.heap.size ≤ gb154)); have n3_ := n2_; clear HB; have HB := n0_; have BK154 := n1_; have GW154 := n2_; have GE154 := n3_; clear n0_ n1_ n2_ n3_; clear hb hbox hg; have hcz10_0 : w9.cell? ⟨gb154, 0, none⟩ = some (.bool a0_0) := (blk_cell BK154.out 0).trans rfl; have hcz10_1 : w9.cell? ⟨gb154, 1, none⟩ = some (.int .i64 a0_1) := (blk_cell BK154.out 1).trans rfl; have hfz10_0 := blk_frozen BK154.out 0; have hfz10_1 := blk_frozen BK154.out 1) | ((with_reducible refine gate_callee (f := 49) rfl ?_); refine goesL_ (some 5) rfl rfl Try.func49 (by kernel_rfl) rfl #[.int .i64 a0_1] rfl (by (try simp only [List.map_toArray, List.map_cons, List.map_nil]); first | done | rfl) ?_; (with_reducible refine (span_Right.calls a0_1 false _ A2.out).mono ?_); rintro e w' ⟨rfl, ⟨nd, rfl⟩⟩; refine ⟨_, rfl, ?_⟩))
   go_ret
   exact ⟨by first | rfl | (simp [errW_none, errW_some] <;> rfl) | (simp [*, errW_none, errW_some] <;> rfl), by repeat (with_reducible first | exact HB.out | apply below_alloc | apply pw_below_drewN | apply below_drew1 | refine below_set ?_ GE154.out)⟩

/-! ### ho90: slices.IndexFunc, function 90, at whatever function value that reads -/
set_option maxHeartbeats 2000000 in
theorem ho90 (p : S73 → Option Bool) (g : Nat) (lb : Array Value) (eg : ∀ args w, (callFunc g args).run Try.prog w = .ok (.enter g args) w) (A0 : Option Addr) (c0 : Nat) (l0 : List S73) (r : Int) (w : World)
 (hr0 : Kd.C k73 w A0 l0.length l0)
 (hp : ∀ (W : World) (x : S73) (b : Bool), Below w.heap.size w W → p x = some b → Calls Try.prog g (#[.agg #[.bool x.f0, .int .i64 x.f1]] ++ lb) W fun e W' => e = .returned (.bool b) ∧ Below W.heap.size W W')
 (h : idxF p l0 0 = some r) :
 Calls Try.prog 90 #[.slice A0 l0.length c0, .func (.func g) #[] lb] w fun e w' => e = .returned (.int .i64 r) ∧ Below w.heap.size w w' := by
 have hmax : l0.length ≤ 9223372036854775807 := Kd.C_max hr0
 have hread : ∀ (W : World), Below w.heap.size w W → ∀ j : Nat, j < l0.length → ∃ ad, A0 = some ad ∧ W.cell? (ad.add (j * 2)) = some (.bool ((rd_T73 l0 j).f0)) ∧ W.cell? ⟨(ad.add (j * 2)).block, (ad.add (j * 2)).off + 1, none⟩ = some (.int .i64 ((rd_T73 l0 j).f1)) := by
  intro W hW j hj
  have := at_T73 (Kd.C_below hr0 hW) (j : Int) (by omega) (by omega)
  simpa only [Int.toNat_natCast] using this
 generalize hn : l0.length = n at *
 have HR := Aside0.mk hread
 have HP := Aside0.mk hp
 have HH := Aside0.mk h
 clear hread hp h hr0
 have HN := Aside0.mk hn
 clear hn
 go_enter Try.func90, Try.ntmps90
 go_wp2
 go_loopg [5, 8] n (fun gg _ s8 wr => ∃ kk : Nat, kk ≤ n ∧ n - kk ≤ gg ∧ s8 = .int .i64 kk ∧ Aside0 (Below w.heap.size w wr) ∧ Aside0 (idxF p (l0.drop kk) kk = some r))
 case atStart => exact ⟨0, Nat.zero_le _, by omega, rfl, ⟨Below.refl _ w⟩, ⟨HH.out⟩⟩
 case round =>
  obtain ⟨kk, hkk, hg, rfl, BW, HI⟩ := hrel
  by_cases hlt : kk < n
  · have hltz : (kk : Int) < (n : Int) := by omega
    obtain ⟨ad, e0, q0, q1⟩ := HR.out wr BW.out kk hlt
    have hi := HI.out
    rw [idxF_drop p l0 z73 kk (by rw [HN.out]; exact hlt)] at hi
    obtain ⟨b, hb, hi⟩ := Option.bind_eq_some_iff.mp hi
    have hcall := HP.out wr _ b BW.out hb
    (try rw [show l0.getD kk z73 = rd_T73 l0 kk from rfl] at hcall)
    generalize rd_T73 l0 kk = y at q0 q1 hcall
    subst e0
    clear hb HI
    cases b with
    | true =>
     have hi2 : (kk : Int) = r := by simpa using hi
     clear hi
     have HE := Aside0.mk hi2
     clear hi2
     go_wp2_with (go_at_fn g; refine hcall.mono ?_; rintro e w' ⟨rfl, hb'⟩)
     go_ret
     exact ⟨by first | rfl | (rw [← HE.out]; rfl) | simp [HE.out], BW.out.trans (hb'.mono BW.out.size)⟩
    | false =>
     have hi2 : idxF p (l0.drop (kk + 1)) (kk + 1) = some r := by simpa using hi
     clear hi
     have HE := Aside0.mk hi2
     clear hi2
     go_wp2_with (go_at_fn g; refine hcall.mono ?_; rintro e w' ⟨rfl, hb'⟩)
     go_roundg (n - (kk + 1))
     case measure => omega
     case rel =>
      exact ⟨kk + 1, by omega, by omega, by go_num, ⟨BW.out.trans (hb'.mono BW.out.size)⟩, ⟨HE.out⟩⟩
  · have hltz : ¬ (kk : Int) < (n : Int) := by omega
    have : kk = n := by omega
    subst this
    have hi := HI.out
    rw [List.drop_of_length_le (by rw [HN.out]; omega)] at hi
    have hi2 : -1 = r := by simpa [idxF] using hi
    clear hi HI
    have HE := Aside0.mk hi2
    clear hi2
    go_wp2
    go_ret
    exact ⟨by first | rfl | (rw [← HE.out]; rfl) | simp [HE.out], BW.out⟩

/-! ### ho74: slices.ContainsFunc, function 74 -/
set_option maxHeartbeats 2000000 in
theorem ho74 (p : S73 → Option Bool) (g : Nat) (lb : Array Value) (eg : ∀ args w, (callFunc g args).run Try.prog w = .ok (.enter g args) w) (A0 : Option Addr) (c0 : Nat) (l0 : List S73) (r : Bool) (w : World)
 (hr0 : Kd.C k73 w A0 l0.length l0)
 (hp : ∀ (W : World) (x : S73) (b : Bool), Below w.heap.size w W → p x = some b → Calls Try.prog g (#[.agg #[.bool x.f0, .int .i64 x.f1]] ++ lb) W fun e W' => e = .returned (.bool b) ∧ Below W.heap.size W W')
 (h : anyF p l0 = some r) :
 Calls Try.prog 74 #[.slice A0 l0.length c0, .func (.func g) #[] lb] w fun e w' => e = .returned (.bool r) ∧ Below w.heap.size w w' := by
 obtain ⟨i, hi, hd⟩ := any_idx l0 0 r (by decide) h
 have hc := Aside0.mk (ho90 p g lb eg A0 c0 l0 i w hr0 hp hi)
 have HD := Aside0.mk hd
 clear hd hi h hp hr0 eg
 go_enter Try.func74, Try.ntmps74
 go_wp2_with (go_at_call 90; refine hc.out.mono ?_; rintro e w' ⟨rfl, hb⟩)
 go_ret
 exact ⟨by first | rfl | (rw [← HD.out]; rfl) | simp [HD.out], hb⟩

/-! ### any_at_heap_wrong: function 74 at the function value 75 -/
def any_at_heap_wrong.f (l0 : List (S73)) : Option (Bool) := anyF (fun x => heap_wrong.f x.f0 x.f1) l0
theorem any_at_heap_wrong.calls (A0 : Option Addr) (c0 : Nat) (l0 : List (S73)) (r : Bool) (w : World) (hr0 : Kd.C k73 w A0 l0.length l0) (hc0 : l0.length ≤ c0) (h : any_at_heap_wrong.f l0 = some r) :
 Calls Try.prog 74 #[.slice A0 l0.length c0, .func (.func 75) #[] #[]] w fun e w' => e = .returned (.bool r) ∧ Below w.heap.size w w' :=
 ho74 (fun x => heap_wrong.f x.f0 x.f1) 75 #[] (enters_of Try.func75 (by kernel_rfl) rfl) A0 c0 l0 r w hr0 (fun W x b hW_ hx => by
  show Calls Try.prog 75 #[.agg #[.bool x.f0, .int .i64 x.f1]] W _
  exact (heap_wrong.calls x.f0 x.f1 b W hx).mono (fun e W' ⟨he, hd⟩ => ⟨he, hd⟩)) h

/-! ### heap_Right: function 52 -/
def heap_Right.f (l0 : List (S73)) : Option (Bool) := if (l0.length : Int) ≥ 1 then (if (l0.length : Int) ≤ 64 then ((any_at_heap_wrong.f l0).bind fun t156 => (some (!t156))) else (some false)) else (some false)
set_option maxHeartbeats 8000000 in
set_option maxRecDepth 100000 in
theorem heap_Right.calls (A0 : Option Addr) (c0 : Nat) (l0 : List (S73)) (r : Bool) (w : World) (hr0 : Kd.C k73 w A0 l0.length l0) (hc0 : l0.length ≤ c0) (h : heap_Right.f l0 = some r) :
 Calls Try.prog 52 #[.slice A0 l0.length c0] w fun e w' => e = .returned (.bool r) ∧ Below w.heap.size w w' := by
 have HR0 := Aside0.mk hr0
 have HC0 := Aside0.mk hc0
 clear hr0 hc0
 have HB := Aside0.mk (Below.refl w.heap.size w)
 have H : (if (l0.length : Int) ≥ 1 then (if (l0.length : Int) ≤ 64 then ((any_at_heap_wrong.f l0).bind fun t156 => (some (!t156))) else (some false)) else (some false)) = some r := h
 clear h
 by_cases c2 : (l0.length : Int) ≥ 1
 · rw [if_pos c2] at H
   have c2b0 : decide (1 ≤ (l0.length : Int)) = true := decide_eq_true c2
   have c2b1 : decide (1 ≤ l0.length) = true := decide_eq_true (by omega)
   clear c2
   by_cases c3 : (l0.length : Int) ≤ 64
   · rw [if_pos c3] at H
     have c3b0 : decide ((l0.length : Int) ≤ 64) = true := decide_eq_true c3
     have c3b1 : decide (l0.length ≤ 64) = true := decide_eq_true (by omega)
     clear c3
     replace H := Option.bind_eq_some_iff.mp H
     obtain ⟨t156, A40, H⟩ := H
     replace H : (some (!t156)) = some r := H
     have A4 := Aside0.mk A40
     clear A40
     obtain rfl := Option.some.inj H
     go_enter Try.func52, Try.ntmps52
     go_wp2_with (first | (go_at_call 74; (with_reducible refine (any_at_heap_wrong.calls _ _ l0 t156 _ ?side1 ?side2 A4.out).mono ?_); (case side1 => repeat (first | exact HR0.out | with_reducible first | refine Kd.C_alloc ?_ _ | refine Kd.C_drewN ?_ _ | refine Kd.C_drew ?_)); (case side2 => exact HC0.out); rintro e w5 ⟨rfl, hb⟩; have n0_ := Aside0.mk (bst_ hb); clear HB; have HB := n0_; clear n0_; (try clear hb); (try clear hb2); (try clear hk); (try clear hi)))
     go_ret
     exact ⟨by first | rfl | (simp [errW_none, errW_some] <;> rfl) | (simp [*, errW_none, errW_some] <;> rfl), by repeat (with_reducible first | exact HB.out | apply below_alloc | apply pw_below_drewN | apply below_drew1)⟩
   · rw [if_neg c3] at H
     have c3b0 : decide ((l0.length : Int) ≤ 64) = false := decide_eq_false c3
     have c3b1 : decide (l0.length ≤ 64) = false := decide_eq_false (by omega)
     clear c3
     obtain rfl := Option.some.inj H
     go_enter Try.func52, Try.ntmps52
     go_wp2
     go_ret
     exact ⟨by first | rfl | (simp [errW_none, errW_some] <;> rfl) | (simp [*, errW_none, errW_some] <;> rfl), by repeat (with_reducible first | exact HB.out | apply below_alloc | apply pw_below_drewN | apply below_drew1)⟩
 · rw [if_neg c2] at H
   have c2b0 : decide (1 ≤ (l0.length : Int)) = false := decide_eq_false c2
   have c2b1 : decide (1 ≤ l0.length) = false := decide_eq_false (by omega)
   clear c2
   obtain rfl := Option.some.inj H
   go_enter Try.func52, Try.ntmps52
   go_wp2
   go_ret
   exact ⟨by first | rfl | (simp [errW_none, errW_some] <;> rfl) | (simp [*, errW_none, errW_some] <;> rfl), by repeat (with_reducible first | exact HB.out | apply below_alloc | apply pw_below_drewN | apply below_drew1)⟩

-- NOT PRINTED: function 53 (slices_ContainsFunc_53)

/-! ### heap_there: function 76 -/
def heap_there.f (l0 : List (S73)) (a1 : Int) : Option (Bool) := if a1 ≥ 0 then (if a1 < (l0.length : Int) then (if 0 ≤ a1 then (some ((rd_T73 l0 a1).f0)) else (none)) else (some false)) else (some false)
set_option maxHeartbeats 8000000 in
set_option maxRecDepth 100000 in
theorem heap_there.calls (A0 : Option Addr) (c0 : Nat) (l0 : List (S73)) (a1 : Int) (r : Bool) (w : World) (hr0 : Kd.C k73 w A0 l0.length l0) (hc0 : l0.length ≤ c0) (h : heap_there.f l0 a1 = some r) :
 Calls Try.prog 76 #[.slice A0 l0.length c0, .int .i64 a1] w fun e w' => e = .returned (.bool r) ∧ Drawn0 w w' := by
 have HR0 := Aside0.mk hr0
 have HC0 := Aside0.mk hc0
 clear hr0 hc0
 have H : (if a1 ≥ 0 then (if a1 < (l0.length : Int) then (if 0 ≤ a1 then (some ((rd_T73 l0 a1).f0)) else (none)) else (some false)) else (some false)) = some r := h
 clear h
 by_cases c3 : a1 ≥ 0
 · rw [if_pos c3] at H
   have c3b0 : decide (0 ≤ a1) = true := decide_eq_true c3
   clear c3
   by_cases c4 : a1 < (l0.length : Int)
   · rw [if_pos c4] at H
     have c4b0 : decide (a1 < (l0.length : Int)) = true := decide_eq_true c4
     clear c4
     by_cases c5 : 0 ≤ a1
     · rw [if_pos c5] at H
       have c5b0 : decide (0 ≤ a1) = true := decide_eq_true c5
       clear c5
       obtain rfl := Option.some.inj H
       have p157 : 0 ≤ (a1 : Int) := of_decide_eq_true (by first | (with_reducible assumption) | assumption)
       have q157 : a1 < (l0.length : Int) := of_decide_eq_true (by first | (with_reducible assumption) | assumption)
       obtain ⟨ad157, e157, hx157_0, hx157_1⟩ := at_T73 HR0.out a1 p157 q157
       cases e157
       replace p157 := eq_true p157
       replace q157 := eq_true q157
       go_enter Try.func76, Try.ntmps76
       go_wp2
       go_ret
       exact ⟨by first | rfl | (simp; done) | (simp [*]; done), by repeat (first | exact Drawn0.refl _ | apply Drawn0.step)⟩
     · rw [if_neg c5] at H
       exact absurd H (by simp)
   · rw [if_neg c4] at H
     have c4b0 : decide (a1 < (l0.length : Int)) = false := decide_eq_false c4
     clear c4
     obtain rfl := Option.some.inj H
     go_enter Try.func76, Try.ntmps76
     go_wp2
     go_ret
     exact ⟨by first | rfl | (simp; done) | (simp [*]; done), by repeat (first | exact Drawn0.refl _ | apply Drawn0.step)⟩
 · rw [if_neg c3] at H
   have c3b0 : decide (0 ≤ a1) = false := decide_eq_false c3
   clear c3
   obtain rfl := Option.some.inj H
   go_enter Try.func76, Try.ntmps76
   go_wp2
   go_ret
   exact ⟨by first | rfl | (simp; done) | (simp [*]; done), by repeat (first | exact Drawn0.refl _ | apply Drawn0.step)⟩

/-! ### heap_Get: function 55 -/
def heap_Get.f (l0 : List (S73)) (a1 : Int) : Option (Int × Int) := (heap_Right.f l0).bind fun t158 => (if t158 = true then ((heap_there.f l0 a1).bind fun t159 => (if t159 = true then (if 0 ≤ a1 then (if a1 < (l0.length : Int) then (some ((rd_T73 l0 a1).f1, 0)) else (none)) else (none)) else (some (0, 3)))) else (some (0, 1)))
set_option maxHeartbeats 8000000 in
set_option maxRecDepth 100000 in
theorem heap_Get.calls (A0 : Option Addr) (c0 : Nat) (l0 : List (S73)) (a1 : Int) (r1 : Int) (r2 : Int) (w : World) (hr0 : Kd.C k73 w A0 l0.length l0) (hc0 : l0.length ≤ c0) (h : heap_Get.f l0 a1 = some (r1, r2)) :
 Calls Try.prog 55 #[.slice A0 l0.length c0, .int .i64 a1] w fun e w' => e = .returned (.tuple #[.int .i64 r1, .int .i64 r2]) ∧ Below w.heap.size w w' := by
 have HR0 := Aside0.mk hr0
 have HC0 := Aside0.mk hc0
 clear hr0 hc0
 have HB := Aside0.mk (Below.refl w.heap.size w)
 have H : ((heap_Right.f l0).bind fun t158 => (if t158 = true then ((heap_there.f l0 a1).bind fun t159 => (if t159 = true then (if 0 ≤ a1 then (if a1 < (l0.length : Int) then (some ((rd_T73 l0 a1).f1, 0)) else (none)) else (none)) else (some (0, 3)))) else (some (0, 1)))) = some (r1, r2) := h
 clear h
 replace H := Option.bind_eq_some_iff.mp H
 obtain ⟨t158, A30, H⟩ := H
 replace H : (if t158 = true then ((heap_there.f l0 a1).bind fun t159 => (if t159 = true then (if 0 ≤ a1 then (if a1 < (l0.length : Int) then (some ((rd_T73 l0 a1).f1, 0)) else (none)) else (none)) else (some (0, 3)))) else (some (0, 1))) = some (r1, r2) := H
 have A3 := Aside0.mk A30
 clear A30
 by_cases c4 : t158 = true
 · subst c4
   have H1 : ((heap_there.f l0 a1).bind fun t159 => (if t159 = true then (if 0 ≤ a1 then (if a1 < (l0.length : Int) then (some ((rd_T73 l0 a1).f1, 0)) else (none)) else (none)) else (some (0, 3)))) = some (r1, r2) := by rw [if_pos rfl] at H; exact H
   clear H
   have H := H1
   clear H1
   replace H := Option.bind_eq_some_iff.mp H
   obtain ⟨t159, A50, H⟩ := H
   replace H : (if t159 = true then (if 0 ≤ a1 then (if a1 < (l0.length : Int) then (some ((rd_T73 l0 a1).f1, 0)) else (none)) else (none)) else (some (0, 3))) = some (r1, r2) := H
   have A5 := Aside0.mk A50
   clear A50
   by_cases c6 : t159 = true
   · subst c6
     have H1 : (if 0 ≤ a1 then (if a1 < (l0.length : Int) then (some ((rd_T73 l0 a1).f1, 0)) else (none)) else (none)) = some (r1, r2) := by rw [if_pos rfl] at H; exact H
     clear H
     have H := H1
     clear H1
     by_cases c7 : 0 ≤ a1
     · rw [if_pos c7] at H
       have c7b0 : decide (0 ≤ a1) = true := decide_eq_true c7
       clear c7
       by_cases c8 : a1 < (l0.length : Int)
       · rw [if_pos c8] at H
         have c8b0 : decide (a1 < (l0.length : Int)) = true := decide_eq_true c8
         clear c8
         simp only [Option.some.injEq, Prod.mk.injEq] at H
         obtain ⟨rfl, rfl⟩ := H
         go_enter Try.func55, Try.ntmps55
         go_wp2_with (first | ((with_reducible refine gate_callee (f := 52) rfl ?_); refine goesL_ (some 8) rfl rfl Try.func52 (by kernel_rfl) rfl #[.slice A0 l0.length c0] rfl (by (try simp only [List.map_toArray, List.map_cons, List.map_nil]); first | done | rfl) ?_; (with_reducible refine (heap_Right.calls _ _ l0 true _ ?side1 ?side2 A3.out).mono ?_); (case side1 => repeat (first | exact HR0.out | with_reducible first | refine Kd.C_alloc ?_ _ | refine Kd.C_drewN ?_ _ | refine Kd.C_drew ?_)); (case side2 => exact HC0.out); rintro e w9 ⟨rfl, hb⟩; refine ⟨_, rfl, ?_⟩; have n0_ := Aside0.mk (bst_ hb); clear HB; have HB := n0_; clear n0_; (try clear hb); (try clear hb2); (try clear hk); (try clear hi)) | ((with_reducible refine gate_callee (f := 76) rfl ?_); refine goesL_ (some 13) rfl rfl Try.func76 (by kernel_rfl) rfl #[.slice A0 l0.length c0, .int .i64 a1] rfl (by (try simp only [List.map_toArray, List.map_cons, List.map_nil]); first | done | rfl) ?_; (with_reducible refine (heap_there.calls _ _ l0 a1 true _ ?side1 ?side2 A5.out).mono ?_); (case side1 => repeat (first | exact (Kd.C_below HR0.out HB.out) | with_reducible first | refine Kd.C_alloc ?_ _ | refine Kd.C_drewN ?_ _ | refine Kd.C_drew ?_)); (case side2 => exact HC0.out); rintro e w' ⟨rfl, ⟨nd, rfl⟩⟩; refine ⟨_, rfl, ?_⟩; have p160 : 0 ≤ (a1 : Int) := of_decide_eq_true (by first | (with_reducible assumption) | assumption); have q160 : a1 < (l0.length : Int) := of_decide_eq_true (by first | (with_reducible assumption) | assumption); obtain ⟨ad160, e160, hx160_0, hx160_1⟩ := at_T73 HR0.out a1 p160 q160; cases e160; replace hx160_0 := (HB.out.cell (World.block_lt_of_cell? w _ hx160_0)).trans hx160_0; replace hx160_1 := (HB.out.cell (World.block_lt_of_cell? w _ hx160_1)).trans hx160_1; replace p160 := eq_true p160; replace q160 := eq_true q160))
         go_ret2
         exact ⟨by first | rfl | (simp [errW_none, errW_some] <;> rfl) | (simp [*, errW_none, errW_some] <;> rfl), by repeat (with_reducible first | exact HB.out | apply below_alloc | apply pw_below_drewN | apply below_drew1)⟩
       · rw [if_neg c8] at H
         exact absurd H (by simp)
     · rw [if_neg c7] at H
       exact absurd H (by simp)
   · replace c6 := Bool.eq_false_iff.mpr c6
     subst c6
     have H1 : (some (0, 3)) = some (r1, r2) := by rw [if_neg (show ¬ (false = true) by decide)] at H; exact H
     clear H
     have H := H1
     clear H1
     simp only [Option.some.injEq, Prod.mk.injEq] at H
     obtain ⟨rfl, rfl⟩ := H
     go_enter Try.func55, Try.ntmps55
     go_wp2_with (first | ((with_reducible refine gate_callee (f := 52) rfl ?_); refine goesL_ (some 8) rfl rfl Try.func52 (by kernel_rfl) rfl #[.slice A0 l0.length c0] rfl (by (try simp only [List.map_toArray, List.map_cons, List.map_nil]); first | done | rfl) ?_; (with_reducible refine (heap_Right.calls _ _ l0 true _ ?side1 ?side2 A3.out).mono ?_); (case side1 => repeat (first | exact HR0.out | with_reducible first | refine Kd.C_alloc ?_ _ | refine Kd.C_drewN ?_ _ | refine Kd.C_drew ?_)); (case side2 => exact HC0.out); rintro e w10 ⟨rfl, hb⟩; refine ⟨_, rfl, ?_⟩; have n0_ := Aside0.mk (bst_ hb); clear HB; have HB := n0_; clear n0_; (try clear hb); (try clear hb2); (try clear hk); (try clear hi)) | ((with_reducible refine gate_callee (f := 76) rfl ?_); refine goesL_ (some 13) rfl rfl Try.func76 (by kernel_rfl) rfl #[.slice A0 l0.length c0, .int .i64 a1] rfl (by (try simp only [List.map_toArray, List.map_cons, List.map_nil]); first | done | rfl) ?_; (with_reducible refine (heap_there.calls _ _ l0 a1 false _ ?side1 ?side2 A5.out).mono ?_); (case side1 => repeat (first | exact (Kd.C_below HR0.out HB.out) | with_reducible first | refine Kd.C_alloc ?_ _ | refine Kd.C_drewN ?_ _ | refine Kd.C_drew ?_)); (case side2 => exact HC0.out); rintro e w' ⟨rfl, ⟨nd, rfl⟩⟩; refine ⟨_, rfl, ?_⟩))
     go_ret2
     exact ⟨by first | rfl | (simp [errW_none, errW_some] <;> rfl) | (simp [*, errW_none, errW_some] <;> rfl), by repeat (with_reducible first | exact HB.out | apply below_alloc | apply pw_below_drewN | apply below_drew1)⟩
 · replace c4 := Bool.eq_false_iff.mpr c4
   subst c4
   have H1 : (some (0, 1)) = some (r1, r2) := by rw [if_neg (show ¬ (false = true) by decide)] at H; exact H
   clear H
   have H := H1
   clear H1
   simp only [Option.some.injEq, Prod.mk.injEq] at H
   obtain ⟨rfl, rfl⟩ := H
   go_enter Try.func55, Try.ntmps55
   go_wp2_with (first | ((with_reducible refine gate_callee (f := 52) rfl ?_); refine goesL_ (some 8) rfl rfl Try.func52 (by kernel_rfl) rfl #[.slice A0 l0.length c0] rfl (by (try simp only [List.map_toArray, List.map_cons, List.map_nil]); first | done | rfl) ?_; (with_reducible refine (heap_Right.calls _ _ l0 false _ ?side1 ?side2 A3.out).mono ?_); (case side1 => repeat (first | exact HR0.out | with_reducible first | refine Kd.C_alloc ?_ _ | refine Kd.C_drewN ?_ _ | refine Kd.C_drew ?_)); (case side2 => exact HC0.out); rintro e w11 ⟨rfl, hb⟩; refine ⟨_, rfl, ?_⟩; have n0_ := Aside0.mk (bst_ hb); clear HB; have HB := n0_; clear n0_; (try clear hb); (try clear hb2); (try clear hk); (try clear hi)))
   go_ret2
   exact ⟨by first | rfl | (simp [errW_none, errW_some] <;> rfl) | (simp [*, errW_none, errW_some] <;> rfl), by repeat (with_reducible first | exact HB.out | apply below_alloc | apply pw_below_drewN | apply below_drew1)⟩

/-! ### reads_Same_1: function 54 -/
def reads_Same_1.f (a0_0 : Int) (a0_1 : Int) (a0_2 : Int) (l1 : List (S73)) : Option (Bool) := (heap_Get.f l1 a0_0).bind fun bt162 => (if bt162.2 = 0 then (some (bt162.1 != a0_2)) else (some true))
set_option maxHeartbeats 8000000 in
set_option maxRecDepth 100000 in
theorem reads_Same_1.calls (a0_0 : Int) (a0_1 : Int) (a0_2 : Int) (g1 : Nat) (A1 : Option Addr) (c1 : Nat) (l1 : List (S73)) (r : Bool) (w : World) (hr1 : Kd.C k73 w A1 l1.length l1) (hc1 : l1.length ≤ c1) (hb1 : w.heap[g1]? = some (.cells #[.slice A1 l1.length c1] 41 (0, 0))) (h : reads_Same_1.f a0_0 a0_1 a0_2 l1 = some r) :
 Calls Try.prog 54 #[.agg #[.int .i64 a0_0, .int .i64 a0_1, .int .i64 a0_2], .pointer (some ⟨g1, 0, none⟩)] w fun e w' => e = .returned (.bool r) ∧ Below w.heap.size w w' := by
 have hu24 := Try.underlying24
 have HR1 := Aside0.mk hr1
 have HC1 := Aside0.mk hc1
 clear hr1 hc1
 have BK1 := Aside0.mk hb1
 clear hb1
 have HB := Aside0.mk (Below.refl w.heap.size w)
 have H : ((heap_Get.f l1 a0_0).bind fun bt162 => (if bt162.2 = 0 then (some (bt162.1 != a0_2)) else (some true))) = some r := h
 clear h
 replace H := Option.bind_eq_some_iff.mp H
 obtain ⟨⟨t162, t163⟩, A30, H⟩ := H
 replace H : (if t163 = 0 then (some (t162 != a0_2)) else (some true)) = some r := H
 have A3 := Aside0.mk A30
 clear A30
 by_cases c4 : t163 = 0
 · rw [if_pos c4] at H
   have c4b0 : (t163 == 0) = true := beq_iff_eq.mpr c4
   have c4b1 : (t163 != 0) = false := bne_eq_false_iff_eq.mpr c4
   clear c4
   obtain rfl := Option.some.inj H
   go_enter Try.func54, Try.ntmps54
   go_wp2_with (first | ((with_reducible refine gate_dst (N := 2) rfl ?_); refine box_event ?hg (N := 2) ?hd (cs := #[.int .i64 a0_0, .int .i64 a0_1, .int .i64 a0_2]) (t := 24) ?hr ?_; (case hd => rfl); (case hg => rfl); (case hr => first | (go_simp; done) | (go_simp; rfl)); intro gb161 hg w5 hbox hb; have n0_ := Aside0.mk (blk_below (g := g1) (o := .cells #[.slice A1 l1.length c1] 41 (0, 0)) (by (with_reducible repeat (first | refine blk_drewN ?_ _ | refine blk_drew ?_ | refine blk_alloc ?_ _)); exact BK1.out) hb); have n1_ := Aside0.mk (below_step (by repeat (with_reducible first | exact HB.out | apply below_alloc | apply pw_below_drewN | apply below_drew1 | refine below_set ?_ GE1.out)) hb); have n2_ := Aside0.mk (hbox); have n3_ := Aside0.mk ((by rw [hg]; exact (below_size (by repeat (with_reducible first | exact HB.out | apply below_alloc | apply pw_below_drewN | apply below_drew1 | refine below_set ?_ GE1.out))) : w.heap.size ≤ gb161)); have n4_ := n3_; have n5_ := Aside0.mk ((by rw [hg]; exact Nat.ne_of_lt (blk_lt (g := g1) (o := .cells #[.slice A1 l1.length c1] 41 (0, 0)) (by (with_reducible repeat (first | refine blk_drewN ?_ _ | refine blk_drew ?_ | refine blk_alloc ?_ _)); exact BK1.out)) : g1 ≠ gb161)); have n6_ := Aside0.mk ((by rw [hg]; exact Nat.ne_of_gt (blk_lt (g := g1) (o := .cells #[.slice A1 l1.length c1] 41 (0, 0)) (by (with_reducible repeat (first | refine blk_drewN ?_ _ | refine blk_drew ?_ | refine blk_alloc ?_ _)); exact BK1.out)) : gb161 ≠ g1)); clear BK1; clear HB; have BK1 := n0_; have HB := n1_; have BK161 := n2_; have GW161 := n3_; have GE161 := n4_; have NB1_161 := n5_; have NB161_1 := n6_; clear n0_ n1_ n2_ n3_ n4_ n5_ n6_; clear hb hbox hg; have hnb6 := NB1_161.out; have hnc6 := NB161_1.out; have hcz7_0 : w5.cell? ⟨g1, 0, none⟩ = some (.slice A1 l1.length c1) := (blk_cell BK1.out 0).trans rfl; have hfz7_0 := blk_frozen BK1.out 0; have hcz8_0 : w5.cell? ⟨gb161, 0, none⟩ = some (.int .i64 a0_0) := (blk_cell BK161.out 0).trans rfl; have hcz8_1 : w5.cell? ⟨gb161, 1, none⟩ = some (.int .i64 a0_1) := (blk_cell BK161.out 1).trans rfl; have hcz8_2 : w5.cell? ⟨gb161, 2, none⟩ = some (.int .i64 a0_2) := (blk_cell BK161.out 2).trans rfl; have hfz8_0 := blk_frozen BK161.out 0; have hfz8_1 := blk_frozen BK161.out 1; have hfz8_2 := blk_frozen BK161.out 2) | ((with_reducible refine gate_callee (f := 55) rfl ?_); refine goesL_ (some 10) rfl rfl Try.func55 (by kernel_rfl) rfl #[.slice A1 l1.length c1, .int .i64 a0_0] rfl (by (try simp only [List.map_toArray, List.map_cons, List.map_nil]); first | done | rfl) ?_; (with_reducible refine (heap_Get.calls _ _ l1 a0_0 t162 t163 _ ?side1 ?side2 A3.out).mono ?_); (case side1 => repeat (first | exact (Kd.C_below HR1.out HB.out) | with_reducible first | refine Kd.C_alloc ?_ _ | refine Kd.C_drewN ?_ _ | refine Kd.C_drew ?_)); (case side2 => exact HC1.out); rintro e w9 ⟨rfl, hb⟩; refine ⟨_, rfl, ?_⟩; have n0_ := Aside0.mk (blk_below (g := g1) (o := .cells #[.slice A1 l1.length c1] 41 (0, 0)) (by (with_reducible repeat (first | refine blk_drewN ?_ _ | refine blk_drew ?_ | refine blk_alloc ?_ _)); exact BK1.out) hb); have n1_ := Aside0.mk (blk_below (g := gb161) (o := .cells #[.int .i64 a0_0, .int .i64 a0_1, .int .i64 a0_2] 24 (0, 0)) (by (with_reducible repeat (first | refine blk_drewN ?_ _ | refine blk_drew ?_ | refine blk_alloc ?_ _)); exact BK161.out) hb); have n2_ := Aside0.mk (below_step (by repeat (first | (with_reducible first | exact HB.out | apply below_alloc | apply pw_below_drewN | apply below_drew1 | refine below_set ?_ GE1.out | refine below_set ?_ GE161.out) | exact HB.out)) hb); clear BK1; clear BK161; clear HB; have BK1 := n0_; have BK161 := n1_; have HB := n2_; clear n0_ n1_ n2_; (try clear hb); (try clear hb2); (try clear hk); (try clear hi); have hcz10_0 : w9.cell? ⟨gb161, 0, none⟩ = some (.int .i64 a0_0) := (blk_cell BK161.out 0).trans rfl; have hcz10_1 : w9.cell? ⟨gb161, 1, none⟩ = some (.int .i64 a0_1) := (blk_cell BK161.out 1).trans rfl; have hcz10_2 : w9.cell? ⟨gb161, 2, none⟩ = some (.int .i64 a0_2) := (blk_cell BK161.out 2).trans rfl; have hfz10_0 := blk_frozen BK161.out 0; have hfz10_1 := blk_frozen BK161.out 1; have hfz10_2 := blk_frozen BK161.out 2))
   go_ret
   exact ⟨by first | rfl | (simp [errW_none, errW_some] <;> rfl) | (simp [*, errW_none, errW_some] <;> rfl), by repeat (first | (with_reducible first | exact HB.out | apply below_alloc | apply pw_below_drewN | apply below_drew1 | refine below_set ?_ GE1.out | refine below_set ?_ GE161.out) | exact HB.out)⟩
 · rw [if_neg c4] at H
   have c4b0 : (t163 == 0) = false := beq_eq_false_iff_ne.mpr c4
   have c4b1 : (t163 != 0) = true := bne_iff_ne.mpr c4
   obtain rfl := Option.some.inj H
   go_enter Try.func54, Try.ntmps54
   go_wp2_with (first | ((with_reducible refine gate_dst (N := 2) rfl ?_); refine box_event ?hg (N := 2) ?hd (cs := #[.int .i64 a0_0, .int .i64 a0_1, .int .i64 a0_2]) (t := 24) ?hr ?_; (case hd => rfl); (case hg => rfl); (case hr => first | (go_simp; done) | (go_simp; rfl)); intro gb161 hg w11 hbox hb; have n0_ := Aside0.mk (blk_below (g := g1) (o := .cells #[.slice A1 l1.length c1] 41 (0, 0)) (by (with_reducible repeat (first | refine blk_drewN ?_ _ | refine blk_drew ?_ | refine blk_alloc ?_ _)); exact BK1.out) hb); have n1_ := Aside0.mk (below_step (by repeat (with_reducible first | exact HB.out | apply below_alloc | apply pw_below_drewN | apply below_drew1 | refine below_set ?_ GE1.out)) hb); have n2_ := Aside0.mk (hbox); have n3_ := Aside0.mk ((by rw [hg]; exact (below_size (by repeat (with_reducible first | exact HB.out | apply below_alloc | apply pw_below_drewN | apply below_drew1 | refine below_set ?_ GE1.out))) : w.heap.size ≤ gb161)); have n4_ := n3_; have n5_ := Aside0.mk ((by rw [hg]; exact Nat.ne_of_lt (blk_lt (g := g1) (o := .cells #[.slice A1 l1.length c1] 41 (0, 0)) (by (with_reducible repeat (first | refine blk_drewN ?_ _ | refine blk_drew ?_ | refine blk_alloc ?_ _)); exact BK1.out)) : g1 ≠ gb161)); have n6_ := Aside0.mk ((by rw [hg]; exact Nat.ne_of_gt (blk_lt (g := g1) (o := .cells #[.slice A1 l1.length c1] 41 (0, 0)) (by (with_reducible repeat (first | refine blk_drewN ?_ _ | refine blk_drew ?_ | refine blk_alloc ?_ _)); exact BK1.out)) : gb161 ≠ g1)); clear BK1; clear HB; have BK1 := n0_; have HB := n1_; have BK161 := n2_; have GW161 := n3_; have GE161 := n4_; have NB1_161 := n5_; have NB161_1 := n6_; clear n0_ n1_ n2_ n3_ n4_ n5_ n6_; clear hb hbox hg; have hnb12 := NB1_161.out; have hnc12 := NB161_1.out; have hcz13_0 : w11.cell? ⟨g1, 0, none⟩ = some (.slice A1 l1.length c1) := (blk_cell BK1.out 0).trans rfl; have hfz13_0 := blk_frozen BK1.out 0; have hcz14_0 : w11.cell? ⟨gb161, 0, none⟩ = some (.int .i64 a0_0) := (blk_cell BK161.out 0).trans rfl; have hcz14_1 : w11.cell? ⟨gb161, 1, none⟩ = some (.int .i64 a0_1) := (blk_cell BK161.out 1).trans rfl; have hcz14_2 : w11.cell? ⟨gb161, 2, none⟩ = some (.int .i64 a0_2) := (blk_cell BK161.out 2).trans rfl; have hfz14_0 := blk_frozen BK161.out 0; have hfz14_1 := blk_frozen BK161.out 1; have hfz14_2 := blk_frozen BK161.out 2) | ((with_reducible refine gate_callee (f := 55) rfl ?_); refine goesL_ (some 10) rfl rfl Try.func55 (by kernel_rfl) rfl #[.slice A1 l1.length c1, .int .i64 a0_0] rfl (by (try simp only [List.map_toArray, List.map_cons, List.map_nil]); first | done | rfl) ?_; (with_reducible refine (heap_Get.calls _ _ l1 a0_0 t162 t163 _ ?side1 ?side2 A3.out).mono ?_); (case side1 => repeat (first | exact (Kd.C_below HR1.out HB.out) | with_reducible first | refine Kd.C_alloc ?_ _ | refine Kd.C_drewN ?_ _ | refine Kd.C_drew ?_)); (case side2 => exact HC1.out); rintro e w15 ⟨rfl, hb⟩; refine ⟨_, rfl, ?_⟩; have n0_ := Aside0.mk (blk_below (g := g1) (o := .cells #[.slice A1 l1.length c1] 41 (0, 0)) (by (with_reducible repeat (first | refine blk_drewN ?_ _ | refine blk_drew ?_ | refine blk_alloc ?_ _)); exact BK1.out) hb); have n1_ := Aside0.mk (blk_below (g := gb161) (o := .cells #[.int .i64 a0_0, .int .i64 a0_1, .int .i64 a0_2] 24 (0, 0)) (by (with_reducible repeat (first | refine blk_drewN ?_ _ | refine blk_drew ?_ | refine blk_alloc ?_ _)); exact BK161.out) hb); have n2_ := Aside0.mk (below_step (by repeat (first | (with_reducible first | exact HB.out | apply below_alloc | apply pw_below_drewN | apply below_drew1 | refine below_set ?_ GE1.out | refine below_set ?_ GE161.out) | exact HB.out)) hb); clear BK1; clear BK161; clear HB; have BK1 := n0_; have BK161 := n1_; have HB := n2_; clear n0_ n1_ n2_; (try clear hb); (try clear hb2); (try clear hk); (try clear hi)))
   go_ret
   exact ⟨by first | rfl | (simp [errW_none, errW_some] <;> rfl) | (simp [*, errW_none, errW_some] <;> rfl), by repeat (first | (with_reducible first | exact HB.out | apply below_alloc | apply pw_below_drewN | apply below_drew1 | refine below_set ?_ GE1.out | refine below_set ?_ GE161.out) | exact HB.out)⟩

/-! ### ho53: slices.ContainsFunc, function 53 -/
set_option maxHeartbeats 2000000 in
theorem ho53 (p : S24 → Option Bool) (g : Nat) (lb : Array Value) (eg : ∀ args w, (callFunc g args).run Try.prog w = .ok (.enter g args) w) (A0 : Option Addr) (c0 : Nat) (l0 : List S24) (r : Bool) (w : World)
 (hr0 : Kd.C k24 w A0 l0.length l0)
 (hp : ∀ (W : World) (x : S24) (b : Bool), Below w.heap.size w W → p x = some b → Calls Try.prog g (#[.agg #[.int .i64 x.f0, .int .i64 x.f1, .int .i64 x.f2]] ++ lb) W fun e W' => e = .returned (.bool b) ∧ Below W.heap.size W W')
 (h : anyF p l0 = some r) :
 Calls Try.prog 53 #[.slice A0 l0.length c0, .func (.func g) #[] lb] w fun e w' => e = .returned (.bool r) ∧ Below w.heap.size w w' := by
 obtain ⟨i, hi, hd⟩ := any_idx l0 0 r (by decide) h
 have hc := Aside0.mk (ho68 p g lb eg A0 c0 l0 i w hr0 hp hi)
 have HD := Aside0.mk hd
 clear hd hi h hp hr0 eg
 go_enter Try.func53, Try.ntmps53
 go_wp2_with (go_at_call 68; refine hc.out.mono ?_; rintro e w' ⟨rfl, hb⟩)
 go_ret
 exact ⟨by first | rfl | (rw [← HD.out]; rfl) | simp [HD.out], hb⟩

/-! ### any_at_reads_Same_1: function 53 at the function value 54 -/
def any_at_reads_Same_1.f (l0 : List (S24)) (l1 : List (S73)) : Option (Bool) := anyF (fun x => reads_Same_1.f x.f0 x.f1 x.f2 l1) l0
theorem any_at_reads_Same_1.calls (A0 : Option Addr) (c0 : Nat) (l0 : List (S24)) (g1 : Nat) (A1 : Option Addr) (c1 : Nat) (l1 : List (S73)) (r : Bool) (w : World) (hr0 : Kd.C k24 w A0 l0.length l0) (hc0 : l0.length ≤ c0) (hr1 : Kd.C k73 w A1 l1.length l1) (hc1 : l1.length ≤ c1) (hb1 : w.heap[g1]? = some (.cells #[.slice A1 l1.length c1] 41 (0, 0))) (h : any_at_reads_Same_1.f l0 l1 = some r) :
 Calls Try.prog 53 #[.slice A0 l0.length c0, .func (.func 54) #[] #[.pointer (some ⟨g1, 0, none⟩)]] w fun e w' => e = .returned (.bool r) ∧ Below w.heap.size w w' :=
 ho53 (fun x => reads_Same_1.f x.f0 x.f1 x.f2 l1) 54 #[.pointer (some ⟨g1, 0, none⟩)] (enters_of Try.func54 (by kernel_rfl) rfl) A0 c0 l0 r w hr0 (fun W x b hW_ hx => by
  show Calls Try.prog 54 #[.agg #[.int .i64 x.f0, .int .i64 x.f1, .int .i64 x.f2], .pointer (some ⟨g1, 0, none⟩)] W _
  exact (reads_Same_1.calls x.f0 x.f1 x.f2 g1 A1 c1 l1 b W (Kd.C_below hr1 hW_) hc1 (hW_.block g1 (by have := (Array.getElem?_eq_some_iff.1 hb1).1; exact this) ▸ hb1) hx).mono (fun e W' ⟨he, hd⟩ => ⟨he, hd⟩)) h

/-! ### reads_Same: function 28 -/
def reads_Same.f (k : Nat) (l0 : List (S24)) (l1 : List (S73)) : Option (Bool) := (reads_Right.f k l0).bind fun t165 => (if t165 = true then ((heap_Right.f l1).bind fun t166 => (if t166 = true then ((any_at_reads_Same_1.f l0 l1).bind fun t167 => (some (!t167))) else (some false))) else (some false))
theorem reads_Same.mono : ∀ a0 a1 k, LeO (reads_Same.f k a0 a1) (reads_Same.f (k + 1) a0 a1) := by
 intro a0 a1 k
 unfold reads_Same.f
 repeat' first
  | (with_reducible exact reads_Right.mono _ _)
  | (with_reducible exact LeO.refl _)
  | (with_reducible exact LeO.none _)
  | (with_reducible refine LeO.ite ?_ ?_)
  | (with_reducible refine LeO.bind ?_ (fun _ => ?_))
  | exact reads_Right.mono _ _
  | exact LeO.none _
  | refine LeO.ite ?_ ?_
  | refine LeO.bind ?_ (fun _ => ?_)
set_option maxHeartbeats 8000000 in
set_option maxRecDepth 100000 in
theorem reads_Same.calls (k : Nat) (A0 : Option Addr) (c0 : Nat) (l0 : List (S24)) (A1 : Option Addr) (c1 : Nat) (l1 : List (S73)) (r : Bool) (w : World) (hr0 : Kd.C k24 w A0 l0.length l0) (hc0 : l0.length ≤ c0) (hr1 : Kd.C k73 w A1 l1.length l1) (hc1 : l1.length ≤ c1) (h : reads_Same.f k l0 l1 = some r) :
 Calls Try.prog 28 #[.slice A0 l0.length c0, .slice A1 l1.length c1] w fun e w' => e = .returned (.bool r) ∧ Below w.heap.size w w' := by
 have HR0 := Aside0.mk hr0
 have HC0 := Aside0.mk hc0
 clear hr0 hc0
 have HR1 := Aside0.mk hr1
 have HC1 := Aside0.mk hc1
 clear hr1 hc1
 have HB := Aside0.mk (Below.refl w.heap.size w)
 have H : ((reads_Right.f k l0).bind fun t165 => (if t165 = true then ((heap_Right.f l1).bind fun t166 => (if t166 = true then ((any_at_reads_Same_1.f l0 l1).bind fun t167 => (some (!t167))) else (some false))) else (some false))) = some r := h
 clear h
 replace H := Option.bind_eq_some_iff.mp H
 obtain ⟨t165, A30, H⟩ := H
 replace H : (if t165 = true then ((heap_Right.f l1).bind fun t166 => (if t166 = true then ((any_at_reads_Same_1.f l0 l1).bind fun t167 => (some (!t167))) else (some false))) else (some false)) = some r := H
 have A3 := Aside0.mk A30
 clear A30
 by_cases c4 : t165 = true
 · subst c4
   have H1 : ((heap_Right.f l1).bind fun t166 => (if t166 = true then ((any_at_reads_Same_1.f l0 l1).bind fun t167 => (some (!t167))) else (some false))) = some r := by rw [if_pos rfl] at H; exact H
   clear H
   have H := H1
   clear H1
   replace H := Option.bind_eq_some_iff.mp H
   obtain ⟨t166, A50, H⟩ := H
   replace H : (if t166 = true then ((any_at_reads_Same_1.f l0 l1).bind fun t167 => (some (!t167))) else (some false)) = some r := H
   have A5 := Aside0.mk A50
   clear A50
   by_cases c6 : t166 = true
   · subst c6
     have H1 : ((any_at_reads_Same_1.f l0 l1).bind fun t167 => (some (!t167))) = some r := by rw [if_pos rfl] at H; exact H
     clear H
     have H := H1
     clear H1
     replace H := Option.bind_eq_some_iff.mp H
     obtain ⟨t167, A70, H⟩ := H
     replace H : (some (!t167)) = some r := H
     have A7 := Aside0.mk A70
     clear A70
     obtain rfl := Option.some.inj H
     go_enter Try.func28, Try.ntmps28
     go_wp2_with (first | ((with_reducible refine gate_dst (N := 3) rfl ?_); refine box_event ?hg (N := 3) ?hd (cs := #[.slice A1 l1.length c1]) (t := 41) ?hr ?_; (case hd => rfl); (case hg => rfl); (case hr => first | (go_simp; done) | (go_simp; rfl)); intro gb164 hg w8 hbox hb; have n0_ := Aside0.mk (bst_ hb); have n1_ := Aside0.mk (hbox); have n2_ := Aside0.mk ((by rw [hg]; exact bsz_ : w.heap.size ≤ gb164)); have n3_ := n2_; clear HB; have HB := n0_; have BK164 := n1_; have GW164 := n2_; have GE164 := n3_; clear n0_ n1_ n2_ n3_; clear hb hbox hg) | ((with_reducible refine gate_callee (f := 22) rfl ?_); refine goesL_ (some 6) rfl rfl Try.func22 (by kernel_rfl) rfl #[.slice A0 l0.length c0] rfl (by (try simp only [List.map_toArray, List.map_cons, List.map_nil]); first | done | rfl) ?_; (with_reducible refine (reads_Right.calls k _ _ l0 true _ ?side1 ?side2 A3.out).mono ?_); (case side1 => repeat (first | exact (Kd.C_below HR0.out HB.out) | with_reducible first | refine Kd.C_alloc ?_ _ | refine Kd.C_drewN ?_ _ | refine Kd.C_drew ?_)); (case side2 => exact HC0.out); rintro e w9 ⟨rfl, hb⟩; refine ⟨_, rfl, ?_⟩; have n0_ := Aside0.mk (blk_below (g := gb164) (o := .cells #[.slice A1 l1.length c1] 41 (0, 0)) (by (with_reducible repeat (first | refine blk_drewN ?_ _ | refine blk_drew ?_ | refine blk_alloc ?_ _)); exact BK164.out) hb); have n1_ := Aside0.mk (below_step (by repeat (with_reducible first | exact HB.out | apply below_alloc | apply pw_below_drewN | apply below_drew1 | refine below_set ?_ GE164.out)) hb); clear BK164; clear HB; have BK164 := n0_; have HB := n1_; clear n0_ n1_; (try clear hb); (try clear hb2); (try clear hk); (try clear hi); have hcz10_0 : w9.cell? ⟨gb164, 0, none⟩ = some (.slice A1 l1.length c1) := (blk_cell BK164.out 0).trans rfl; have hfz10_0 := blk_frozen BK164.out 0) | (go_at_call 52; (with_reducible refine (heap_Right.calls _ _ l1 true _ ?side1 ?side2 A5.out).mono ?_); (case side1 => repeat (first | exact (Kd.C_below HR1.out HB.out) | with_reducible first | refine Kd.C_alloc ?_ _ | refine Kd.C_drewN ?_ _ | refine Kd.C_drew ?_)); (case side2 => exact HC1.out); rintro e w11 ⟨rfl, hb⟩; have n0_ := Aside0.mk (blk_below (g := gb164) (o := .cells #[.slice A1 l1.length c1] 41 (0, 0)) (by (with_reducible repeat (first | refine blk_drewN ?_ _ | refine blk_drew ?_ | refine blk_alloc ?_ _)); exact BK164.out) hb); have n1_ := Aside0.mk (below_step (by repeat (with_reducible first | exact HB.out | apply below_alloc | apply pw_below_drewN | apply below_drew1 | refine below_set ?_ GE164.out)) hb); clear BK164; clear HB; have BK164 := n0_; have HB := n1_; clear n0_ n1_; (try clear hb); (try clear hb2); (try clear hk); (try clear hi)) | ((with_reducible refine gate_callee (f := 53) rfl ?_); refine goesL_ (some 15) rfl rfl Try.func53 (by kernel_rfl) rfl #[.slice A0 l0.length c0, .func (.func 54) #[] #[.pointer (some ⟨gb164, 0, none⟩)]] rfl (by (try simp only [List.map_toArray, List.map_cons, List.map_nil]); first | done | rfl) ?_; (with_reducible refine (any_at_reads_Same_1.calls _ _ l0 gb164 A1 c1 l1 t167 _ ?side1 ?side2 ?side3 ?side4 ?side5 A7.out).mono ?_); (case side1 => repeat (first | exact (Kd.C_below HR0.out HB.out) | with_reducible first | refine Kd.C_alloc ?_ _ | refine Kd.C_drewN ?_ _ | refine Kd.C_drew ?_)); (case side2 => exact HC0.out); (case side3 => repeat (first | exact (Kd.C_below HR1.out HB.out) | with_reducible first | refine Kd.C_alloc ?_ _ | refine Kd.C_drewN ?_ _ | refine Kd.C_drew ?_)); (case side4 => exact HC1.out); (case side5 => exact (by (with_reducible repeat (first | refine blk_drewN ?_ _ | refine blk_drew ?_ | refine blk_alloc ?_ _)); exact BK164.out)); rintro e w12 ⟨rfl, hb⟩; refine ⟨_, rfl, ?_⟩; have n0_ := Aside0.mk (blk_below (g := gb164) (o := .cells #[.slice A1 l1.length c1] 41 (0, 0)) (by (with_reducible repeat (first | refine blk_drewN ?_ _ | refine blk_drew ?_ | refine blk_alloc ?_ _)); exact BK164.out) hb); have n1_ := Aside0.mk (below_step (by repeat (with_reducible first | exact HB.out | apply below_alloc | apply pw_below_drewN | apply below_drew1 | refine below_set ?_ GE164.out)) hb); clear BK164; clear HB; have BK164 := n0_; have HB := n1_; clear n0_ n1_; (try clear hb); (try clear hb2); (try clear hk); (try clear hi)))
     go_ret
     exact ⟨by first | rfl | (simp [errW_none, errW_some] <;> rfl) | (simp [*, errW_none, errW_some] <;> rfl), by repeat (with_reducible first | exact HB.out | apply below_alloc | apply pw_below_drewN | apply below_drew1 | refine below_set ?_ GE164.out)⟩
   · replace c6 := Bool.eq_false_iff.mpr c6
     subst c6
     have H1 : (some false) = some r := by rw [if_neg (show ¬ (false = true) by decide)] at H; exact H
     clear H
     have H := H1
     clear H1
     obtain rfl := Option.some.inj H
     go_enter Try.func28, Try.ntmps28
     go_wp2_with (first | ((with_reducible refine gate_dst (N := 3) rfl ?_); refine box_event ?hg (N := 3) ?hd (cs := #[.slice A1 l1.length c1]) (t := 41) ?hr ?_; (case hd => rfl); (case hg => rfl); (case hr => first | (go_simp; done) | (go_simp; rfl)); intro gb164 hg w13 hbox hb; have n0_ := Aside0.mk (bst_ hb); have n1_ := Aside0.mk (hbox); have n2_ := Aside0.mk ((by rw [hg]; exact bsz_ : w.heap.size ≤ gb164)); have n3_ := n2_; clear HB; have HB := n0_; have BK164 := n1_; have GW164 := n2_; have GE164 := n3_; clear n0_ n1_ n2_ n3_; clear hb hbox hg) | ((with_reducible refine gate_callee (f := 22) rfl ?_); refine goesL_ (some 6) rfl rfl Try.func22 (by kernel_rfl) rfl #[.slice A0 l0.length c0] rfl (by (try simp only [List.map_toArray, List.map_cons, List.map_nil]); first | done | rfl) ?_; (with_reducible refine (reads_Right.calls k _ _ l0 true _ ?side1 ?side2 A3.out).mono ?_); (case side1 => repeat (first | exact (Kd.C_below HR0.out HB.out) | with_reducible first | refine Kd.C_alloc ?_ _ | refine Kd.C_drewN ?_ _ | refine Kd.C_drew ?_)); (case side2 => exact HC0.out); rintro e w14 ⟨rfl, hb⟩; refine ⟨_, rfl, ?_⟩; have n0_ := Aside0.mk (blk_below (g := gb164) (o := .cells #[.slice A1 l1.length c1] 41 (0, 0)) (by (with_reducible repeat (first | refine blk_drewN ?_ _ | refine blk_drew ?_ | refine blk_alloc ?_ _)); exact BK164.out) hb); have n1_ := Aside0.mk (below_step (by repeat (with_reducible first | exact HB.out | apply below_alloc | apply pw_below_drewN | apply below_drew1 | refine below_set ?_ GE164.out)) hb); clear BK164; clear HB; have BK164 := n0_; have HB := n1_; clear n0_ n1_; (try clear hb); (try clear hb2); (try clear hk); (try clear hi); have hcz15_0 : w14.cell? ⟨gb164, 0, none⟩ = some (.slice A1 l1.length c1) := (blk_cell BK164.out 0).trans rfl; have hfz15_0 := blk_frozen BK164.out 0) | (go_at_call 52; (with_reducible refine (heap_Right.calls _ _ l1 false _ ?side1 ?side2 A5.out).mono ?_); (case side1 => repeat (first | exact (Kd.C_below HR1.out HB.out) | with_reducible first | refine Kd.C_alloc ?_ _ | refine Kd.C_drewN ?_ _ | refine Kd.C_drew ?_)); (case side2 => exact HC1.out); rintro e w16 ⟨rfl, hb⟩; have n0_ := Aside0.mk (blk_below (g := gb164) (o := .cells #[.slice A1 l1.length c1] 41 (0, 0)) (by (with_reducible repeat (first | refine blk_drewN ?_ _ | refine blk_drew ?_ | refine blk_alloc ?_ _)); exact BK164.out) hb); have n1_ := Aside0.mk (below_step (by repeat (with_reducible first | exact HB.out | apply below_alloc | apply pw_below_drewN | apply below_drew1 | refine below_set ?_ GE164.out)) hb); clear BK164; clear HB; have BK164 := n0_; have HB := n1_; clear n0_ n1_; (try clear hb); (try clear hb2); (try clear hk); (try clear hi)))
     go_ret
     exact ⟨by first | rfl | (simp [errW_none, errW_some] <;> rfl) | (simp [*, errW_none, errW_some] <;> rfl), by repeat (with_reducible first | exact HB.out | apply below_alloc | apply pw_below_drewN | apply below_drew1 | refine below_set ?_ GE164.out)⟩
 · replace c4 := Bool.eq_false_iff.mpr c4
   subst c4
   have H1 : (some false) = some r := by rw [if_neg (show ¬ (false = true) by decide)] at H; exact H
   clear H
   have H := H1
   clear H1
   obtain rfl := Option.some.inj H
   go_enter Try.func28, Try.ntmps28
   go_wp2_with (first | ((with_reducible refine gate_dst (N := 3) rfl ?_); refine box_event ?hg (N := 3) ?hd (cs := #[.slice A1 l1.length c1]) (t := 41) ?hr ?_; (case hd => rfl); (case hg => rfl); (case hr => first | (go_simp; done) | (go_simp; rfl)); intro gb164 hg w17 hbox hb; have n0_ := Aside0.mk (bst_ hb); have n1_ := Aside0.mk (hbox); have n2_ := Aside0.mk ((by rw [hg]; exact bsz_ : w.heap.size ≤ gb164)); have n3_ := n2_; clear HB; have HB := n0_; have BK164 := n1_; have GW164 := n2_; have GE164 := n3_; clear n0_ n1_ n2_ n3_; clear hb hbox hg) | ((with_reducible refine gate_callee (f := 22) rfl ?_); refine goesL_ (some 6) rfl rfl Try.func22 (by kernel_rfl) rfl #[.slice A0 l0.length c0] rfl (by (try simp only [List.map_toArray, List.map_cons, List.map_nil]); first | done | rfl) ?_; (with_reducible refine (reads_Right.calls k _ _ l0 false _ ?side1 ?side2 A3.out).mono ?_); (case side1 => repeat (first | exact (Kd.C_below HR0.out HB.out) | with_reducible first | refine Kd.C_alloc ?_ _ | refine Kd.C_drewN ?_ _ | refine Kd.C_drew ?_)); (case side2 => exact HC0.out); rintro e w18 ⟨rfl, hb⟩; refine ⟨_, rfl, ?_⟩; have n0_ := Aside0.mk (blk_below (g := gb164) (o := .cells #[.slice A1 l1.length c1] 41 (0, 0)) (by (with_reducible repeat (first | refine blk_drewN ?_ _ | refine blk_drew ?_ | refine blk_alloc ?_ _)); exact BK164.out) hb); have n1_ := Aside0.mk (below_step (by repeat (with_reducible first | exact HB.out | apply below_alloc | apply pw_below_drewN | apply below_drew1 | refine below_set ?_ GE164.out)) hb); clear BK164; clear HB; have BK164 := n0_; have HB := n1_; clear n0_ n1_; (try clear hb); (try clear hb2); (try clear hk); (try clear hi)))
   go_ret
   exact ⟨by first | rfl | (simp [errW_none, errW_some] <;> rfl) | (simp [*, errW_none, errW_some] <;> rfl), by repeat (with_reducible first | exact HB.out | apply below_alloc | apply pw_below_drewN | apply below_drew1 | refine below_set ?_ GE164.out)⟩

/-! ### handshakerlaw05_awake: function 15 -/
def handshakerlaw05_awake.f (k : Nat)  : Option (Bool) := (reads_Add.f k ([] : List (S24)) 3 4 5).bind fun bt168 => ((reads_Add.f k bt168.1 3 4 5).bind fun bt172 => ((reads_Add.f k bt168.1 3 5 5).bind fun bt176 => ((reads_Find.f k bt168.1 3).bind fun bt180 => ((some (([(⟨0, 0⟩ : S67), (⟨4, 2⟩ : S67)] : List (S67)) : List (S67))).bind fun y188 => (if bt168.2 = 0 then (if (bt168.1.length : Int) = 1 then (if bt172.2 = 0 then (if (bt172.1.length : Int) = 1 then (if bt176.2 = 8 then (if bt180.2.2.1 = 5 then (if bt180.2.2.2 = true then ((reads_Valid.f k bt168.1 (([(⟨0, 0⟩ : S67), (⟨4, 0⟩ : S67)] : List (S67))) 1).bind fun t194 => (if t194 = 0 then ((reads_Valid.f k bt168.1 y188 1).bind fun t195 => (if t195 = 8 then ((reads_Valid.f k bt168.1 y188 2).bind fun t196 => (if t196 = 0 then ((reads_Same.f k bt168.1 (([(⟨false, 0⟩ : S73), (⟨false, 0⟩ : S73), (⟨false, 0⟩ : S73), (⟨true, 5⟩ : S73)] : List (S73)))).bind fun t197 => (if t197 = true then ((reads_Cells.f k bt168.1).bind fun t198 => ((handshakerref03_Numbers.f k t198 (([3] : List Int))).bind fun t204 => (if t204 = true then ((reads_Right.f k bt168.1).bind fun t205 => (if t205 = true then (some true) else (some false))) else (some false)))) else (some false))) else (some false))) else (some false))) else (some false))) else (some false)) else (some false)) else (some false)) else (some false)) else (some false)) else (some false)) else (some false))))))
theorem handshakerlaw05_awake.mono : ∀ k, LeO (handshakerlaw05_awake.f k ) (handshakerlaw05_awake.f (k + 1) ) := by
 intro  k
 unfold handshakerlaw05_awake.f
 repeat' first
  | (with_reducible exact handshakerref03_Numbers.mono _ _ _)
  | (with_reducible exact reads_Add.mono _ _ _ _ _)
  | (with_reducible exact reads_Cells.mono _ _)
  | (with_reducible exact reads_Find.mono _ _ _)
  | (with_reducible exact reads_Right.mono _ _)
  | (with_reducible exact reads_Same.mono _ _ _)
  | (with_reducible exact reads_Valid.mono _ _ _ _)
  | (with_reducible exact LeO.refl _)
  | (with_reducible exact LeO.none _)
  | (with_reducible refine LeO.ite ?_ ?_)
  | (with_reducible refine LeO.bind ?_ (fun _ => ?_))
  | exact handshakerref03_Numbers.mono _ _ _
  | exact reads_Add.mono _ _ _ _ _
  | exact reads_Cells.mono _ _
  | exact reads_Find.mono _ _ _
  | exact reads_Right.mono _ _
  | exact reads_Same.mono _ _ _
  | exact reads_Valid.mono _ _ _ _
  | exact LeO.none _
  | refine LeO.ite ?_ ?_
  | refine LeO.bind ?_ (fun _ => ?_)
set_option maxHeartbeats 8000000 in
set_option maxRecDepth 100000 in
theorem handshakerlaw05_awake.callsT (k : Nat)  (r : Bool) (w : World) (HT : Aside0 (r = true)) (h : handshakerlaw05_awake.f k  = some r) :
 Calls Try.prog 15 #[] w fun e w' => e = .returned (.bool r) ∧ Below w.heap.size w w' := by
 have hu24 := Try.underlying24
 have hu67 := Try.underlying67
 have hu73 := Try.underlying73
 have HB := Aside0.mk (Below.refl w.heap.size w)
 have H : ((reads_Add.f k ([] : List (S24)) 3 4 5).bind fun bt168 => ((reads_Add.f k bt168.1 3 4 5).bind fun bt172 => ((reads_Add.f k bt168.1 3 5 5).bind fun bt176 => ((reads_Find.f k bt168.1 3).bind fun bt180 => ((some (([(⟨0, 0⟩ : S67), (⟨4, 2⟩ : S67)] : List (S67)) : List (S67))).bind fun y188 => (if bt168.2 = 0 then (if (bt168.1.length : Int) = 1 then (if bt172.2 = 0 then (if (bt172.1.length : Int) = 1 then (if bt176.2 = 8 then (if bt180.2.2.1 = 5 then (if bt180.2.2.2 = true then ((reads_Valid.f k bt168.1 (([(⟨0, 0⟩ : S67), (⟨4, 0⟩ : S67)] : List (S67))) 1).bind fun t194 => (if t194 = 0 then ((reads_Valid.f k bt168.1 y188 1).bind fun t195 => (if t195 = 8 then ((reads_Valid.f k bt168.1 y188 2).bind fun t196 => (if t196 = 0 then ((reads_Same.f k bt168.1 (([(⟨false, 0⟩ : S73), (⟨false, 0⟩ : S73), (⟨false, 0⟩ : S73), (⟨true, 5⟩ : S73)] : List (S73)))).bind fun t197 => (if t197 = true then ((reads_Cells.f k bt168.1).bind fun t198 => ((handshakerref03_Numbers.f k t198 (([3] : List Int))).bind fun t204 => (if t204 = true then ((reads_Right.f k bt168.1).bind fun t205 => (if t205 = true then (some true) else (some false))) else (some false)))) else (some false))) else (some false))) else (some false))) else (some false))) else (some false)) else (some false)) else (some false)) else (some false)) else (some false)) else (some false)) else (some false))))))) = some r := h
 clear h
 replace H := Option.bind_eq_some_iff.mp H
 obtain ⟨⟨t168, t171⟩, A10, H⟩ := H
 replace H : ((reads_Add.f k t168 3 4 5).bind fun bt172 => ((reads_Add.f k t168 3 5 5).bind fun bt176 => ((reads_Find.f k t168 3).bind fun bt180 => ((some (([(⟨0, 0⟩ : S67), (⟨4, 2⟩ : S67)] : List (S67)) : List (S67))).bind fun y188 => (if t171 = 0 then (if (t168.length : Int) = 1 then (if bt172.2 = 0 then (if (bt172.1.length : Int) = 1 then (if bt176.2 = 8 then (if bt180.2.2.1 = 5 then (if bt180.2.2.2 = true then ((reads_Valid.f k t168 (([(⟨0, 0⟩ : S67), (⟨4, 0⟩ : S67)] : List (S67))) 1).bind fun t194 => (if t194 = 0 then ((reads_Valid.f k t168 y188 1).bind fun t195 => (if t195 = 8 then ((reads_Valid.f k t168 y188 2).bind fun t196 => (if t196 = 0 then ((reads_Same.f k t168 (([(⟨false, 0⟩ : S73), (⟨false, 0⟩ : S73), (⟨false, 0⟩ : S73), (⟨true, 5⟩ : S73)] : List (S73)))).bind fun t197 => (if t197 = true then ((reads_Cells.f k t168).bind fun t198 => ((handshakerref03_Numbers.f k t198 (([3] : List Int))).bind fun t204 => (if t204 = true then ((reads_Right.f k t168).bind fun t205 => (if t205 = true then (some true) else (some false))) else (some false)))) else (some false))) else (some false))) else (some false))) else (some false))) else (some false)) else (some false)) else (some false)) else (some false)) else (some false)) else (some false)) else (some false)))))) = some r := H
 have A1 := Aside0.mk A10
 clear A10
 replace H := Option.bind_eq_some_iff.mp H
 obtain ⟨⟨t172, t175⟩, A20, H⟩ := H
 replace H : ((reads_Add.f k t168 3 5 5).bind fun bt176 => ((reads_Find.f k t168 3).bind fun bt180 => ((some (([(⟨0, 0⟩ : S67), (⟨4, 2⟩ : S67)] : List (S67)) : List (S67))).bind fun y188 => (if t171 = 0 then (if (t168.length : Int) = 1 then (if t175 = 0 then (if (t172.length : Int) = 1 then (if bt176.2 = 8 then (if bt180.2.2.1 = 5 then (if bt180.2.2.2 = true then ((reads_Valid.f k t168 (([(⟨0, 0⟩ : S67), (⟨4, 0⟩ : S67)] : List (S67))) 1).bind fun t194 => (if t194 = 0 then ((reads_Valid.f k t168 y188 1).bind fun t195 => (if t195 = 8 then ((reads_Valid.f k t168 y188 2).bind fun t196 => (if t196 = 0 then ((reads_Same.f k t168 (([(⟨false, 0⟩ : S73), (⟨false, 0⟩ : S73), (⟨false, 0⟩ : S73), (⟨true, 5⟩ : S73)] : List (S73)))).bind fun t197 => (if t197 = true then ((reads_Cells.f k t168).bind fun t198 => ((handshakerref03_Numbers.f k t198 (([3] : List Int))).bind fun t204 => (if t204 = true then ((reads_Right.f k t168).bind fun t205 => (if t205 = true then (some true) else (some false))) else (some false)))) else (some false))) else (some false))) else (some false))) else (some false))) else (some false)) else (some false)) else (some false)) else (some false)) else (some false)) else (some false)) else (some false))))) = some r := H
 have A2 := Aside0.mk A20
 clear A20
 replace H := Option.bind_eq_some_iff.mp H
 obtain ⟨⟨t176, t179⟩, A30, H⟩ := H
 replace H : ((reads_Find.f k t168 3).bind fun bt180 => ((some (([(⟨0, 0⟩ : S67), (⟨4, 2⟩ : S67)] : List (S67)) : List (S67))).bind fun y188 => (if t171 = 0 then (if (t168.length : Int) = 1 then (if t175 = 0 then (if (t172.length : Int) = 1 then (if t179 = 8 then (if bt180.2.2.1 = 5 then (if bt180.2.2.2 = true then ((reads_Valid.f k t168 (([(⟨0, 0⟩ : S67), (⟨4, 0⟩ : S67)] : List (S67))) 1).bind fun t194 => (if t194 = 0 then ((reads_Valid.f k t168 y188 1).bind fun t195 => (if t195 = 8 then ((reads_Valid.f k t168 y188 2).bind fun t196 => (if t196 = 0 then ((reads_Same.f k t168 (([(⟨false, 0⟩ : S73), (⟨false, 0⟩ : S73), (⟨false, 0⟩ : S73), (⟨true, 5⟩ : S73)] : List (S73)))).bind fun t197 => (if t197 = true then ((reads_Cells.f k t168).bind fun t198 => ((handshakerref03_Numbers.f k t198 (([3] : List Int))).bind fun t204 => (if t204 = true then ((reads_Right.f k t168).bind fun t205 => (if t205 = true then (some true) else (some false))) else (some false)))) else (some false))) else (some false))) else (some false))) else (some false))) else (some false)) else (some false)) else (some false)) else (some false)) else (some false)) else (some false)) else (some false)))) = some r := H
 have A3 := Aside0.mk A30
 clear A30
 replace H := Option.bind_eq_some_iff.mp H
 obtain ⟨⟨t180, t181, t182, t183⟩, A40, H⟩ := H
 replace H : ((some (([(⟨0, 0⟩ : S67), (⟨4, 2⟩ : S67)] : List (S67)) : List (S67))).bind fun y188 => (if t171 = 0 then (if (t168.length : Int) = 1 then (if t175 = 0 then (if (t172.length : Int) = 1 then (if t179 = 8 then (if t182 = 5 then (if t183 = true then ((reads_Valid.f k t168 (([(⟨0, 0⟩ : S67), (⟨4, 0⟩ : S67)] : List (S67))) 1).bind fun t194 => (if t194 = 0 then ((reads_Valid.f k t168 y188 1).bind fun t195 => (if t195 = 8 then ((reads_Valid.f k t168 y188 2).bind fun t196 => (if t196 = 0 then ((reads_Same.f k t168 (([(⟨false, 0⟩ : S73), (⟨false, 0⟩ : S73), (⟨false, 0⟩ : S73), (⟨true, 5⟩ : S73)] : List (S73)))).bind fun t197 => (if t197 = true then ((reads_Cells.f k t168).bind fun t198 => ((handshakerref03_Numbers.f k t198 (([3] : List Int))).bind fun t204 => (if t204 = true then ((reads_Right.f k t168).bind fun t205 => (if t205 = true then (some true) else (some false))) else (some false)))) else (some false))) else (some false))) else (some false))) else (some false))) else (some false)) else (some false)) else (some false)) else (some false)) else (some false)) else (some false)) else (some false))) = some r := H
 have A4 := Aside0.mk A40
 clear A40
 obtain ⟨y185, hy185⟩ : ∃ y_ : List (S67), y_ = (([(⟨0, 0⟩ : S67), (⟨4, 0⟩ : S67)] : List (S67))) := ⟨_, rfl⟩
 replace H : ((some (([(⟨0, 0⟩ : S67), (⟨4, 2⟩ : S67)] : List (S67)) : List (S67))).bind fun y188 => (if t171 = 0 then (if (t168.length : Int) = 1 then (if t175 = 0 then (if (t172.length : Int) = 1 then (if t179 = 8 then (if t182 = 5 then (if t183 = true then ((reads_Valid.f k t168 y185 1).bind fun t194 => (if t194 = 0 then ((reads_Valid.f k t168 y188 1).bind fun t195 => (if t195 = 8 then ((reads_Valid.f k t168 y188 2).bind fun t196 => (if t196 = 0 then ((reads_Same.f k t168 (([(⟨false, 0⟩ : S73), (⟨false, 0⟩ : S73), (⟨false, 0⟩ : S73), (⟨true, 5⟩ : S73)] : List (S73)))).bind fun t197 => (if t197 = true then ((reads_Cells.f k t168).bind fun t198 => ((handshakerref03_Numbers.f k t198 (([3] : List Int))).bind fun t204 => (if t204 = true then ((reads_Right.f k t168).bind fun t205 => (if t205 = true then (some true) else (some false))) else (some false)))) else (some false))) else (some false))) else (some false))) else (some false))) else (some false)) else (some false)) else (some false)) else (some false)) else (some false)) else (some false)) else (some false))) = some r := by first | (rw [hy185]; with_reducible exact H) | (have H2_ := (Option.bind_some _ _).symm.trans H; rw [hy185]; with_reducible exact H2_) | (have H2_ := (Option.bind_some _ _).symm.trans H; with_reducible exact H2_) | with_reducible exact H | (rw [hy185]; exact H) | exact H
 have Ny185 := Aside0.mk hy185
 clear hy185
 obtain ⟨y188, hy188⟩ : ∃ y_ : List (S67), y_ = (([(⟨0, 0⟩ : S67), (⟨4, 2⟩ : S67)] : List (S67))) := ⟨_, rfl⟩
 replace H : (if t171 = 0 then (if (t168.length : Int) = 1 then (if t175 = 0 then (if (t172.length : Int) = 1 then (if t179 = 8 then (if t182 = 5 then (if t183 = true then ((reads_Valid.f k t168 y185 1).bind fun t194 => (if t194 = 0 then ((reads_Valid.f k t168 y188 1).bind fun t195 => (if t195 = 8 then ((reads_Valid.f k t168 y188 2).bind fun t196 => (if t196 = 0 then ((reads_Same.f k t168 (([(⟨false, 0⟩ : S73), (⟨false, 0⟩ : S73), (⟨false, 0⟩ : S73), (⟨true, 5⟩ : S73)] : List (S73)))).bind fun t197 => (if t197 = true then ((reads_Cells.f k t168).bind fun t198 => ((handshakerref03_Numbers.f k t198 (([3] : List Int))).bind fun t204 => (if t204 = true then ((reads_Right.f k t168).bind fun t205 => (if t205 = true then (some true) else (some false))) else (some false)))) else (some false))) else (some false))) else (some false))) else (some false))) else (some false)) else (some false)) else (some false)) else (some false)) else (some false)) else (some false)) else (some false)) = some r := by first | (rw [hy188]; with_reducible exact H) | (have H2_ := (Option.bind_some _ _).symm.trans H; rw [hy188]; with_reducible exact H2_) | (have H2_ := (Option.bind_some _ _).symm.trans H; with_reducible exact H2_) | with_reducible exact H | (rw [hy188]; exact H) | exact H
 have Ny188 := Aside0.mk hy188
 clear hy188
 obtain ⟨y191, hy191⟩ : ∃ y_ : List (S73), y_ = (([(⟨false, 0⟩ : S73), (⟨false, 0⟩ : S73), (⟨false, 0⟩ : S73), (⟨true, 5⟩ : S73)] : List (S73))) := ⟨_, rfl⟩
 replace H : (if t171 = 0 then (if (t168.length : Int) = 1 then (if t175 = 0 then (if (t172.length : Int) = 1 then (if t179 = 8 then (if t182 = 5 then (if t183 = true then ((reads_Valid.f k t168 y185 1).bind fun t194 => (if t194 = 0 then ((reads_Valid.f k t168 y188 1).bind fun t195 => (if t195 = 8 then ((reads_Valid.f k t168 y188 2).bind fun t196 => (if t196 = 0 then ((reads_Same.f k t168 y191).bind fun t197 => (if t197 = true then ((reads_Cells.f k t168).bind fun t198 => ((handshakerref03_Numbers.f k t198 (([3] : List Int))).bind fun t204 => (if t204 = true then ((reads_Right.f k t168).bind fun t205 => (if t205 = true then (some true) else (some false))) else (some false)))) else (some false))) else (some false))) else (some false))) else (some false))) else (some false)) else (some false)) else (some false)) else (some false)) else (some false)) else (some false)) else (some false)) = some r := by first | (rw [hy191]; with_reducible exact H) | (have H2_ := (Option.bind_some _ _).symm.trans H; rw [hy191]; with_reducible exact H2_) | (have H2_ := (Option.bind_some _ _).symm.trans H; with_reducible exact H2_) | with_reducible exact H | (rw [hy191]; exact H) | exact H
 have Ny191 := Aside0.mk hy191
 clear hy191
 by_cases c5 : t171 = 0
 · rw [if_pos c5] at H
   have c5b0 : (t171 == 0) = true := beq_iff_eq.mpr c5
   have c5b1 : (t171 != 0) = false := bne_eq_false_iff_eq.mpr c5
   clear c5
   by_cases c6 : (t168.length : Int) = 1
   · rw [if_pos c6] at H
     have c6b0 : ((t168.length : Int) == 1) = true := beq_iff_eq.mpr c6
     have c6b1 : ((t168.length : Int) != 1) = false := bne_eq_false_iff_eq.mpr c6
     clear c6
     by_cases c7 : t175 = 0
     · rw [if_pos c7] at H
       have c7b0 : (t175 == 0) = true := beq_iff_eq.mpr c7
       have c7b1 : (t175 != 0) = false := bne_eq_false_iff_eq.mpr c7
       clear c7
       by_cases c8 : (t172.length : Int) = 1
       · rw [if_pos c8] at H
         have c8b0 : ((t172.length : Int) == 1) = true := beq_iff_eq.mpr c8
         have c8b1 : ((t172.length : Int) != 1) = false := bne_eq_false_iff_eq.mpr c8
         clear c8
         by_cases c9 : t179 = 8
         · rw [if_pos c9] at H
           have c9b0 : (t179 == 8) = true := beq_iff_eq.mpr c9
           have c9b1 : (t179 != 8) = false := bne_eq_false_iff_eq.mpr c9
           clear c9
           by_cases c10 : t182 = 5
           · rw [if_pos c10] at H
             have c10b0 : (t182 == 5) = true := beq_iff_eq.mpr c10
             have c10b1 : (t182 != 5) = false := bne_eq_false_iff_eq.mpr c10
             clear c10
             by_cases c11 : t183 = true
             · subst c11
               have H1 : ((reads_Valid.f k t168 y185 1).bind fun t194 => (if t194 = 0 then ((reads_Valid.f k t168 y188 1).bind fun t195 => (if t195 = 8 then ((reads_Valid.f k t168 y188 2).bind fun t196 => (if t196 = 0 then ((reads_Same.f k t168 y191).bind fun t197 => (if t197 = true then ((reads_Cells.f k t168).bind fun t198 => ((handshakerref03_Numbers.f k t198 (([3] : List Int))).bind fun t204 => (if t204 = true then ((reads_Right.f k t168).bind fun t205 => (if t205 = true then (some true) else (some false))) else (some false)))) else (some false))) else (some false))) else (some false))) else (some false))) = some r := by rw [if_pos rfl] at H; exact H
               clear H
               have H := H1
               clear H1
               replace H := Option.bind_eq_some_iff.mp H
               obtain ⟨t194, A120, H⟩ := H
               replace H : (if t194 = 0 then ((reads_Valid.f k t168 y188 1).bind fun t195 => (if t195 = 8 then ((reads_Valid.f k t168 y188 2).bind fun t196 => (if t196 = 0 then ((reads_Same.f k t168 y191).bind fun t197 => (if t197 = true then ((reads_Cells.f k t168).bind fun t198 => ((handshakerref03_Numbers.f k t198 (([3] : List Int))).bind fun t204 => (if t204 = true then ((reads_Right.f k t168).bind fun t205 => (if t205 = true then (some true) else (some false))) else (some false)))) else (some false))) else (some false))) else (some false))) else (some false)) = some r := H
               have A12 := Aside0.mk A120
               clear A120
               by_cases c13 : t194 = 0
               · rw [if_pos c13] at H
                 have c13b0 : (t194 == 0) = true := beq_iff_eq.mpr c13
                 have c13b1 : (t194 != 0) = false := bne_eq_false_iff_eq.mpr c13
                 clear c13
                 replace H := Option.bind_eq_some_iff.mp H
                 obtain ⟨t195, A140, H⟩ := H
                 replace H : (if t195 = 8 then ((reads_Valid.f k t168 y188 2).bind fun t196 => (if t196 = 0 then ((reads_Same.f k t168 y191).bind fun t197 => (if t197 = true then ((reads_Cells.f k t168).bind fun t198 => ((handshakerref03_Numbers.f k t198 (([3] : List Int))).bind fun t204 => (if t204 = true then ((reads_Right.f k t168).bind fun t205 => (if t205 = true then (some true) else (some false))) else (some false)))) else (some false))) else (some false))) else (some false)) = some r := H
                 have A14 := Aside0.mk A140
                 clear A140
                 by_cases c15 : t195 = 8
                 · rw [if_pos c15] at H
                   have c15b0 : (t195 == 8) = true := beq_iff_eq.mpr c15
                   have c15b1 : (t195 != 8) = false := bne_eq_false_iff_eq.mpr c15
                   clear c15
                   replace H := Option.bind_eq_some_iff.mp H
                   obtain ⟨t196, A160, H⟩ := H
                   replace H : (if t196 = 0 then ((reads_Same.f k t168 y191).bind fun t197 => (if t197 = true then ((reads_Cells.f k t168).bind fun t198 => ((handshakerref03_Numbers.f k t198 (([3] : List Int))).bind fun t204 => (if t204 = true then ((reads_Right.f k t168).bind fun t205 => (if t205 = true then (some true) else (some false))) else (some false)))) else (some false))) else (some false)) = some r := H
                   have A16 := Aside0.mk A160
                   clear A160
                   by_cases c17 : t196 = 0
                   · rw [if_pos c17] at H
                     have c17b0 : (t196 == 0) = true := beq_iff_eq.mpr c17
                     have c17b1 : (t196 != 0) = false := bne_eq_false_iff_eq.mpr c17
                     clear c17
                     replace H := Option.bind_eq_some_iff.mp H
                     obtain ⟨t197, A180, H⟩ := H
                     replace H : (if t197 = true then ((reads_Cells.f k t168).bind fun t198 => ((handshakerref03_Numbers.f k t198 (([3] : List Int))).bind fun t204 => (if t204 = true then ((reads_Right.f k t168).bind fun t205 => (if t205 = true then (some true) else (some false))) else (some false)))) else (some false)) = some r := H
                     have A18 := Aside0.mk A180
                     clear A180
                     by_cases c19 : t197 = true
                     · subst c19
                       have H1 : ((reads_Cells.f k t168).bind fun t198 => ((handshakerref03_Numbers.f k t198 (([3] : List Int))).bind fun t204 => (if t204 = true then ((reads_Right.f k t168).bind fun t205 => (if t205 = true then (some true) else (some false))) else (some false)))) = some r := by rw [if_pos rfl] at H; exact H
                       clear H
                       have H := H1
                       clear H1
                       replace H := Option.bind_eq_some_iff.mp H
                       obtain ⟨t198, A200, H⟩ := H
                       replace H : ((handshakerref03_Numbers.f k t198 (([3] : List Int))).bind fun t204 => (if t204 = true then ((reads_Right.f k t168).bind fun t205 => (if t205 = true then (some true) else (some false))) else (some false))) = some r := H
                       have A20 := Aside0.mk A200
                       clear A200
                       obtain ⟨y201, hy201⟩ : ∃ y_ : List Int, y_ = (([3] : List Int)) := ⟨_, rfl⟩
                       replace H : ((handshakerref03_Numbers.f k t198 y201).bind fun t204 => (if t204 = true then ((reads_Right.f k t168).bind fun t205 => (if t205 = true then (some true) else (some false))) else (some false))) = some r := by first | (rw [hy201]; with_reducible exact H) | (have H2_ := (Option.bind_some _ _).symm.trans H; rw [hy201]; with_reducible exact H2_) | (have H2_ := (Option.bind_some _ _).symm.trans H; with_reducible exact H2_) | with_reducible exact H | (rw [hy201]; exact H) | exact H
                       have Ny201 := Aside0.mk hy201
                       clear hy201
                       replace H := Option.bind_eq_some_iff.mp H
                       obtain ⟨t204, A210, H⟩ := H
                       replace H : (if t204 = true then ((reads_Right.f k t168).bind fun t205 => (if t205 = true then (some true) else (some false))) else (some false)) = some r := H
                       have A21 := Aside0.mk A210
                       clear A210
                       by_cases c22 : t204 = true
                       · subst c22
                         have H1 : ((reads_Right.f k t168).bind fun t205 => (if t205 = true then (some true) else (some false))) = some r := by rw [if_pos rfl] at H; exact H
                         clear H
                         have H := H1
                         clear H1
                         replace H := Option.bind_eq_some_iff.mp H
                         obtain ⟨t205, A230, H⟩ := H
                         replace H : (if t205 = true then (some true) else (some false)) = some r := H
                         have A23 := Aside0.mk A230
                         clear A230
                         by_cases c24 : t205 = true
                         · subst c24
                           have H1 : (some true) = some r := by rw [if_pos rfl] at H; exact H
                           clear H
                           have H := H1
                           clear H1
                           obtain rfl := Option.some.inj H
                           go_enter Try.func15, Try.ntmps15
                           go_wp2_with (first | ((with_reducible refine gate_callee (f := 16) rfl ?_); refine goesL_ (some 14) rfl rfl Try.func16 (by kernel_rfl) rfl #[.slice none 0 0, .agg #[.int .i64 3, .int .i64 4, .int .i64 5]] rfl (by (try simp only [List.map_toArray, List.map_cons, List.map_nil]); first | done | rfl) ?_; (refine (reads_Add.calls k (fun k_ => False) _ _ ([] : List (S24)) 3 4 5 t168 t171 _ ?side1 A1.out).mono ?_); (case side1 => exact Kd.V_nil _ _ _ _ _); rintro e w25 ⟨v169, rfl, ho0, hb⟩; refine ⟨_, rfl, ?_⟩; have n0_ := Aside0.mk (Kd.V_lower (Kd.V_mono (ok' := fun k_ => True) ho0 (fun k_ hk_ => trivial)) bsz_); have n1_ := Aside0.mk (bst_ hb); clear HB; have HO170 := n0_; have HB := n1_; clear n0_ n1_; (try clear hb); (try clear hb2); (try clear hk); (try clear hi); (try clear ho0); obtain ⟨Ao26, co26, eo26⟩ := Kd.V_slice HO170.out; subst eo26) | ((with_reducible refine gate_callee (f := 16) rfl ?_); refine goesL_ (some 20) rfl rfl Try.func16 (by kernel_rfl) rfl #[.slice Ao26 t168.length co26, .agg #[.int .i64 3, .int .i64 4, .int .i64 5]] rfl (by (try simp only [List.map_toArray, List.map_cons, List.map_nil]); first | done | rfl) ?_; (with_reducible refine (reads_Add.calls k (fun k_ => True) _ _ t168 3 4 5 t172 t175 _ ?side1 A2.out).mono ?_); (case side1 => exact HO170.out); rintro e w27 ⟨v173, rfl, ho0, hb⟩; refine ⟨_, rfl, ?_⟩; have n0_ := Aside0.mk (Kd.V_below (by (with_reducible repeat (first | apply Kd.V_alloc | apply Kd.V_drewN | apply Kd.V_drew)); exact HO170.out) hb); have n1_ := Aside0.mk (Kd.V_lower (Kd.V_mono (ok' := fun k_ => True) ho0 (fun k_ hk_ => trivial)) bsz_); have n2_ := Aside0.mk (bst_ hb); clear HO170; clear HB; have HO170 := n0_; have HO174 := n1_; have HB := n2_; clear n0_ n1_ n2_; (try clear hb); (try clear hb2); (try clear hk); (try clear hi); (try clear ho0)) | ((with_reducible refine gate_callee (f := 16) rfl ?_); refine goesL_ (some 26) rfl rfl Try.func16 (by kernel_rfl) rfl #[.slice Ao26 t168.length co26, .agg #[.int .i64 3, .int .i64 5, .int .i64 5]] rfl (by (try simp only [List.map_toArray, List.map_cons, List.map_nil]); first | done | rfl) ?_; (with_reducible refine (reads_Add.calls k (fun k_ => True) _ _ t168 3 5 5 t176 t179 _ ?side1 A3.out).mono ?_); (case side1 => exact HO170.out); rintro e w28 ⟨v177, rfl, ho0, hb⟩; refine ⟨_, rfl, ?_⟩; have n0_ := Aside0.mk (Kd.V_below (by (with_reducible repeat (first | apply Kd.V_alloc | apply Kd.V_drewN | apply Kd.V_drew)); exact HO170.out) hb); have n1_ := Aside0.mk (Kd.V_below (by (with_reducible repeat (first | apply Kd.V_alloc | apply Kd.V_drewN | apply Kd.V_drew)); exact HO174.out) hb); have n2_ := Aside0.mk (Kd.V_lower (Kd.V_mono (ok' := fun k_ => True) ho0 (fun k_ hk_ => trivial)) bsz_); have n3_ := Aside0.mk (bst_ hb); clear HO170; clear HO174; clear HB; have HO170 := n0_; have HO174 := n1_; have HO178 := n2_; have HB := n3_; clear n0_ n1_ n2_ n3_; (try clear hb); (try clear hb2); (try clear hk); (try clear hi); (try clear ho0)) | ((with_reducible refine gate_callee (f := 18) rfl ?_); refine goesL_ (some 31) rfl rfl Try.func18 (by kernel_rfl) rfl #[.slice Ao26 t168.length co26, .int .i64 3] rfl (by (try simp only [List.map_toArray, List.map_cons, List.map_nil]); first | done | rfl) ?_; (with_reducible refine (reads_Find.calls k _ _ t168 3 t180 t181 t182 true _ ?side1 ?side2 A4.out).mono ?_); (case side1 => repeat (first | exact (Kd.V_reads' HO170.out).2.2 | with_reducible first | refine Kd.C_alloc ?_ _ | refine Kd.C_drewN ?_ _ | refine Kd.C_drew ?_)); (case side2 => exact (Kd.V_reads' HO170.out).2.1); rintro e w29 ⟨rfl, hb⟩; refine ⟨_, rfl, ?_⟩; have n0_ := Aside0.mk (Kd.V_below (by (with_reducible repeat (first | apply Kd.V_alloc | apply Kd.V_drewN | apply Kd.V_drew)); exact HO170.out) hb); have n1_ := Aside0.mk (Kd.V_below (by (with_reducible repeat (first | apply Kd.V_alloc | apply Kd.V_drewN | apply Kd.V_drew)); exact HO174.out) hb); have n2_ := Aside0.mk (Kd.V_below (by (with_reducible repeat (first | apply Kd.V_alloc | apply Kd.V_drewN | apply Kd.V_drew)); exact HO178.out) hb); have n3_ := Aside0.mk (bst_ hb); clear HO170; clear HO174; clear HO178; clear HB; have HO170 := n0_; have HO174 := n1_; have HO178 := n2_; have HB := n3_; clear n0_ n1_ n2_ n3_; (try clear hb); (try clear hb2); (try clear hk); (try clear hi)) | ((with_reducible refine gate_dst (N := 7) rfl ?_); (try (refine gate_guard (by rfl) ?_; dsimp only)); refine box_event ?hg (N := 7) ?hd (cs := #[.int .i64 0, .int .i64 0, .int .i64 0]) (t := 24) ?hr ?_; (case hd => rfl); (case hg => rfl); (case hr => first | (go_simp; done) | (go_simp; rfl)); intro gb184 hg w30 hbox hb; have n0_ := Aside0.mk (Kd.V_below (Kd.V_elderB (by (with_reducible repeat (first | apply Kd.V_alloc | apply Kd.V_drewN | apply Kd.V_drew)); exact HO170.out) gb184 (Nat.le_of_eq hg.symm)) hb); have n1_ := Aside0.mk (Kd.V_below (Kd.V_elderB (by (with_reducible repeat (first | apply Kd.V_alloc | apply Kd.V_drewN | apply Kd.V_drew)); exact HO174.out) gb184 (Nat.le_of_eq hg.symm)) hb); have n2_ := Aside0.mk (Kd.V_below (Kd.V_elderB (by (with_reducible repeat (first | apply Kd.V_alloc | apply Kd.V_drewN | apply Kd.V_drew)); exact HO178.out) gb184 (Nat.le_of_eq hg.symm)) hb); have n3_ := Aside0.mk (bst_ hb); have n4_ := Aside0.mk (hbox); have n5_ := Aside0.mk ((by rw [hg]; exact bsz_ : w.heap.size ≤ gb184)); have n6_ := n5_; clear HO170; clear HO174; clear HO178; clear HB; have HO170 := n0_; have HO174 := n1_; have HO178 := n2_; have HB := n3_; have BK184 := n4_; have GW184 := n5_; have GE184 := n6_; clear n0_ n1_ n2_ n3_ n4_ n5_ n6_; clear hb hbox hg; have hcz31_0 : w30.cell? ⟨gb184, 0, none⟩ = some (.int .i64 0) := (blk_cell BK184.out 0).trans rfl; have hcz31_1 : w30.cell? ⟨gb184, 1, none⟩ = some (.int .i64 0) := (blk_cell BK184.out 1).trans rfl; have hcz31_2 : w30.cell? ⟨gb184, 2, none⟩ = some (.int .i64 0) := (blk_cell BK184.out 2).trans rfl; have hfz31_0 := blk_frozen BK184.out 0; have hfz31_1 := blk_frozen BK184.out 1; have hfz31_2 := blk_frozen BK184.out 2) | ((with_reducible refine gate_dst (N := 36) rfl ?_); (try (refine gate_guard (by rfl) ?_; dsimp only)); refine Kd.R_lit k67 _ 67 ?hg (N := 36) ?hd (xs := ([(⟨0, 0⟩ : S67), (⟨4, 0⟩ : S67)] : List (S67))) (inner := [.int .i64 0, .int .i64 0, .int .i64 4, .int .i64 0]) (ok := fun _ => True) (okp := fun _ => True) ?hr ?hp (fun _ hk => hk) trivial (Below.refl _ _) (Nat.le_refl _) (by simp) ?_; (case hd => rfl); (case hg => rfl); (case hr => first | (go_simp; done) | (go_simp; rfl)); (case hp => exact (Reps.c2 (show Kd.M k67 _ _ _ (⟨0, 0⟩ : S67) [.int .i64 0, .int .i64 0] from (k67_mkM _ _ _ (⟨0, 0⟩ : S67) )) (Reps.c2 (show Kd.M k67 _ _ _ (⟨4, 0⟩ : S67) [.int .i64 4, .int .i64 0] from (k67_mkM _ _ _ (⟨4, 0⟩ : S67) )) (Reps.none _ _)))); intro v186 w32 ho33 hb hg_ hnew_; clear hg_ hnew_; (first | rw [← Ny185.out] at ho33 | (simp only [Int.reduceToNat] at ho33; rw [← Ny185.out] at ho33)); have n0_ := Aside0.mk (Kd.V_elder' (by (with_reducible repeat (first | apply Kd.V_alloc | apply Kd.V_drewN | apply Kd.V_drew)); exact (Kd.V_mono (Kd.V_far (p := ⟨gb184, 2, none⟩) (Kd.V_far (p := ⟨gb184, 1, none⟩) (Kd.V_far (p := ⟨gb184, 0, none⟩) (Kd.V_mono HO170.out (fun k_ hk => (⟨hk, hk.2⟩ : _ ∧ k_ ≠ gb184))) (fun _ hk => hk.2) (.int .i64 t180)) (fun _ hk => hk.2) (.int .i64 t181)) (fun _ hk => hk.2) (.int .i64 t182)) (fun _ h_ => h_.1))) (Kd.R_base ho33) hb); have n1_ := Aside0.mk (Kd.V_elder' (by (with_reducible repeat (first | apply Kd.V_alloc | apply Kd.V_drewN | apply Kd.V_drew)); exact (Kd.V_mono (Kd.V_far (p := ⟨gb184, 2, none⟩) (Kd.V_far (p := ⟨gb184, 1, none⟩) (Kd.V_far (p := ⟨gb184, 0, none⟩) (Kd.V_mono HO174.out (fun k_ hk => (⟨hk, hk.2⟩ : _ ∧ k_ ≠ gb184))) (fun _ hk => hk.2) (.int .i64 t180)) (fun _ hk => hk.2) (.int .i64 t181)) (fun _ hk => hk.2) (.int .i64 t182)) (fun _ h_ => h_.1))) (Kd.R_base ho33) hb); have n2_ := Aside0.mk (Kd.V_elder' (by (with_reducible repeat (first | apply Kd.V_alloc | apply Kd.V_drewN | apply Kd.V_drew)); exact (Kd.V_mono (Kd.V_far (p := ⟨gb184, 2, none⟩) (Kd.V_far (p := ⟨gb184, 1, none⟩) (Kd.V_far (p := ⟨gb184, 0, none⟩) (Kd.V_mono HO178.out (fun k_ hk => (⟨hk, hk.2⟩ : _ ∧ k_ ≠ gb184))) (fun _ hk => hk.2) (.int .i64 t180)) (fun _ hk => hk.2) (.int .i64 t181)) (fun _ hk => hk.2) (.int .i64 t182)) (fun _ h_ => h_.1))) (Kd.R_base ho33) hb); have n3_ := Aside0.mk (Kd.R_lower ho33 (below_size (by repeat (with_reducible first | exact HB.out | apply below_alloc | apply pw_below_drewN | apply below_drew1 | refine below_set ?_ GE184.out)))); have n4_ := Aside0.mk (blk_below (g := gb184) (o := .cells #[.int .i64 t180, .int .i64 t181, .int .i64 t182] 24 (0, 0)) (by (with_reducible repeat (first | refine blk_drewN ?_ _ | refine blk_drew ?_ | refine blk_alloc ?_ _)); refine blk_put (cs := #[.int .i64 t180, .int .i64 t181, .int .i64 0]) ?_ 2 _ rfl; (with_reducible repeat (first | refine blk_drewN ?_ _ | refine blk_drew ?_ | refine blk_alloc ?_ _)); refine blk_put (cs := #[.int .i64 t180, .int .i64 0, .int .i64 0]) ?_ 1 _ rfl; (with_reducible repeat (first | refine blk_drewN ?_ _ | refine blk_drew ?_ | refine blk_alloc ?_ _)); refine blk_put (cs := #[.int .i64 0, .int .i64 0, .int .i64 0]) ?_ 0 _ rfl; (with_reducible repeat (first | refine blk_drewN ?_ _ | refine blk_drew ?_ | refine blk_alloc ?_ _)); exact BK184.out) hb); have n5_ := Aside0.mk (below_step (by repeat (with_reducible first | exact HB.out | apply below_alloc | apply pw_below_drewN | apply below_drew1 | refine below_set ?_ GE184.out)) hb); clear HO170; clear HO174; clear HO178; clear BK184; clear HB; have HO170 := n0_; have HO174 := n1_; have HO178 := n2_; have HO187 := n3_; have BK184 := n4_; have HB := n5_; clear n0_ n1_ n2_ n3_ n4_ n5_; clear hb ho33) | ((with_reducible refine gate_dst (N := 39) rfl ?_); (try (refine gate_guard (by rfl) ?_; dsimp only)); refine Kd.R_lit k67 _ 67 ?hg (N := 39) ?hd (xs := ([(⟨0, 0⟩ : S67), (⟨4, 2⟩ : S67)] : List (S67))) (inner := [.int .i64 0, .int .i64 0, .int .i64 4, .int .i64 2]) (ok := fun _ => True) (okp := fun _ => True) ?hr ?hp (fun _ hk => hk) trivial (Below.refl _ _) (Nat.le_refl _) (by simp) ?_; (case hd => rfl); (case hg => rfl); (case hr => first | (go_simp; done) | (go_simp; rfl)); (case hp => exact (Reps.c2 (show Kd.M k67 _ _ _ (⟨0, 0⟩ : S67) [.int .i64 0, .int .i64 0] from (k67_mkM _ _ _ (⟨0, 0⟩ : S67) )) (Reps.c2 (show Kd.M k67 _ _ _ (⟨4, 2⟩ : S67) [.int .i64 4, .int .i64 2] from (k67_mkM _ _ _ (⟨4, 2⟩ : S67) )) (Reps.none _ _)))); intro v189 w34 ho35 hb hg_ hnew_; clear hg_ hnew_; (first | rw [← Ny188.out] at ho35 | (simp only [Int.reduceToNat] at ho35; rw [← Ny188.out] at ho35)); have n0_ := Aside0.mk (Kd.V_elder' (by (with_reducible repeat (first | apply Kd.V_alloc | apply Kd.V_drewN | apply Kd.V_drew)); exact HO170.out) (Kd.R_base ho35) hb); have n1_ := Aside0.mk (Kd.V_elder' (by (with_reducible repeat (first | apply Kd.V_alloc | apply Kd.V_drewN | apply Kd.V_drew)); exact HO174.out) (Kd.R_base ho35) hb); have n2_ := Aside0.mk (Kd.V_elder' (by (with_reducible repeat (first | apply Kd.V_alloc | apply Kd.V_drewN | apply Kd.V_drew)); exact HO178.out) (Kd.R_base ho35) hb); have n3_ := Aside0.mk (Kd.R_elder' (by (with_reducible repeat (first | apply Kd.R_alloc | apply Kd.R_drewN | apply Kd.R_drew)); exact HO187.out) (Kd.R_base ho35) hb); have n4_ := Aside0.mk (Kd.R_lower (Kd.R_new' ho35 (Kd.R_lt (by (with_reducible repeat (first | apply Kd.R_alloc | apply Kd.R_drewN | apply Kd.R_drew)); exact HO187.out))) (below_size (by repeat (with_reducible first | exact HB.out | apply below_alloc | apply pw_below_drewN | apply below_drew1 | refine below_set ?_ GE184.out)))); have n5_ := Aside0.mk (blk_below (g := gb184) (o := .cells #[.int .i64 t180, .int .i64 t181, .int .i64 t182] 24 (0, 0)) (by (with_reducible repeat (first | refine blk_drewN ?_ _ | refine blk_drew ?_ | refine blk_alloc ?_ _)); exact BK184.out) hb); have n6_ := Aside0.mk (below_step (by repeat (with_reducible first | exact HB.out | apply below_alloc | apply pw_below_drewN | apply below_drew1 | refine below_set ?_ GE184.out)) hb); clear HO170; clear HO174; clear HO178; clear HO187; clear BK184; clear HB; have HO170 := n0_; have HO174 := n1_; have HO178 := n2_; have HO187 := n3_; have HO190 := n4_; have BK184 := n5_; have HB := n6_; clear n0_ n1_ n2_ n3_ n4_ n5_ n6_; clear hb ho35) | ((with_reducible refine gate_dst (N := 44) rfl ?_); (try (refine gate_guard (by rfl) ?_; dsimp only)); refine Kd.R_lit k73 _ 73 ?hg (N := 44) ?hd (xs := ([(⟨false, 0⟩ : S73), (⟨false, 0⟩ : S73), (⟨false, 0⟩ : S73), (⟨true, 5⟩ : S73)] : List (S73))) (inner := [.bool false, .int .i64 0, .bool false, .int .i64 0, .bool false, .int .i64 0, .bool true, .int .i64 5]) (ok := fun _ => True) (okp := fun _ => True) ?hr ?hp (fun _ hk => hk) trivial (Below.refl _ _) (Nat.le_refl _) (by simp) ?_; (case hd => rfl); (case hg => rfl); (case hr => first | (go_simp; done) | (go_simp; rfl)); (case hp => exact (Reps.c2 (show Kd.M k73 _ _ _ (⟨false, 0⟩ : S73) [.bool false, .int .i64 0] from (k73_mkM _ _ _ (⟨false, 0⟩ : S73) )) (Reps.c2 (show Kd.M k73 _ _ _ (⟨false, 0⟩ : S73) [.bool false, .int .i64 0] from (k73_mkM _ _ _ (⟨false, 0⟩ : S73) )) (Reps.c2 (show Kd.M k73 _ _ _ (⟨false, 0⟩ : S73) [.bool false, .int .i64 0] from (k73_mkM _ _ _ (⟨false, 0⟩ : S73) )) (Reps.c2 (show Kd.M k73 _ _ _ (⟨true, 5⟩ : S73) [.bool true, .int .i64 5] from (k73_mkM _ _ _ (⟨true, 5⟩ : S73) )) (Reps.none _ _)))))); intro v192 w36 ho37 hb hg_ hnew_; clear hg_ hnew_; (first | rw [← Ny191.out] at ho37 | (simp only [Int.reduceToNat] at ho37; rw [← Ny191.out] at ho37)); have n0_ := Aside0.mk (Kd.V_elder' (by (with_reducible repeat (first | apply Kd.V_alloc | apply Kd.V_drewN | apply Kd.V_drew)); exact HO170.out) (Kd.R_base ho37) hb); have n1_ := Aside0.mk (Kd.V_elder' (by (with_reducible repeat (first | apply Kd.V_alloc | apply Kd.V_drewN | apply Kd.V_drew)); exact HO174.out) (Kd.R_base ho37) hb); have n2_ := Aside0.mk (Kd.V_elder' (by (with_reducible repeat (first | apply Kd.V_alloc | apply Kd.V_drewN | apply Kd.V_drew)); exact HO178.out) (Kd.R_base ho37) hb); have n3_ := Aside0.mk (Kd.R_below (by (with_reducible repeat (first | apply Kd.R_alloc | apply Kd.R_drewN | apply Kd.R_drew)); exact HO187.out) hb); have n4_ := Aside0.mk (Kd.R_below (by (with_reducible repeat (first | apply Kd.R_alloc | apply Kd.R_drewN | apply Kd.R_drew)); exact HO190.out) hb); have n5_ := Aside0.mk (Kd.R_lower ho37 (below_size (by repeat (with_reducible first | exact HB.out | apply below_alloc | apply pw_below_drewN | apply below_drew1 | refine below_set ?_ GE184.out)))); have n6_ := Aside0.mk (blk_below (g := gb184) (o := .cells #[.int .i64 t180, .int .i64 t181, .int .i64 t182] 24 (0, 0)) (by (with_reducible repeat (first | refine blk_drewN ?_ _ | refine blk_drew ?_ | refine blk_alloc ?_ _)); exact BK184.out) hb); have n7_ := Aside0.mk (below_step (by repeat (with_reducible first | exact HB.out | apply below_alloc | apply pw_below_drewN | apply below_drew1 | refine below_set ?_ GE184.out)) hb); clear HO170; clear HO174; clear HO178; clear HO187; clear HO190; clear BK184; clear HB; have HO170 := n0_; have HO174 := n1_; have HO178 := n2_; have HO187 := n3_; have HO190 := n4_; have HO193 := n5_; have BK184 := n6_; have HB := n7_; clear n0_ n1_ n2_ n3_ n4_ n5_ n6_ n7_; clear hb ho37; obtain ⟨Ao38, co38, eo38⟩ := Kd.V_slice HO174.out; subst eo38; have hcz39_0 : w36.cell? ⟨gb184, 0, none⟩ = some (.int .i64 t180) := (blk_cell BK184.out 0).trans rfl; have hcz39_1 : w36.cell? ⟨gb184, 1, none⟩ = some (.int .i64 t181) := (blk_cell BK184.out 1).trans rfl; have hcz39_2 : w36.cell? ⟨gb184, 2, none⟩ = some (.int .i64 t182) := (blk_cell BK184.out 2).trans rfl; have hfz39_0 := blk_frozen BK184.out 0; have hfz39_1 := blk_frozen BK184.out 1; have hfz39_2 := blk_frozen BK184.out 2; obtain ⟨Ao40, co40, eo40⟩ := Kd.R_slice HO187.out; subst eo40) | (go_at_call 26; (with_reducible refine (reads_Valid.calls k _ _ t168 _ _ y185 1 t194 _ ?side1 ?side2 ?side3 ?side4 A12.out).mono ?_); (case side1 => repeat (first | exact (Kd.V_reads' HO170.out).2.2 | with_reducible first | refine Kd.C_alloc ?_ _ | refine Kd.C_drewN ?_ _ | refine Kd.C_drew ?_)); (case side2 => exact (Kd.V_reads' HO170.out).2.1); (case side3 => repeat (first | exact (Kd.R_reads' HO187.out).2.2 | with_reducible first | refine Kd.C_alloc ?_ _ | refine Kd.C_drewN ?_ _ | refine Kd.C_drew ?_)); (case side4 => exact (Kd.R_reads' HO187.out).2.1); rintro e w41 ⟨rfl, hb⟩; have n0_ := Aside0.mk (Kd.V_below (by (with_reducible repeat (first | apply Kd.V_alloc | apply Kd.V_drewN | apply Kd.V_drew)); exact HO170.out) hb); have n1_ := Aside0.mk (Kd.V_below (by (with_reducible repeat (first | apply Kd.V_alloc | apply Kd.V_drewN | apply Kd.V_drew)); exact HO174.out) hb); have n2_ := Aside0.mk (Kd.V_below (by (with_reducible repeat (first | apply Kd.V_alloc | apply Kd.V_drewN | apply Kd.V_drew)); exact HO178.out) hb); have n3_ := Aside0.mk (Kd.R_below (by (with_reducible repeat (first | apply Kd.R_alloc | apply Kd.R_drewN | apply Kd.R_drew)); exact HO187.out) hb); have n4_ := Aside0.mk (Kd.R_below (by (with_reducible repeat (first | apply Kd.R_alloc | apply Kd.R_drewN | apply Kd.R_drew)); exact HO190.out) hb); have n5_ := Aside0.mk (Kd.R_below (by (with_reducible repeat (first | apply Kd.R_alloc | apply Kd.R_drewN | apply Kd.R_drew)); exact HO193.out) hb); have n6_ := Aside0.mk (blk_below (g := gb184) (o := .cells #[.int .i64 t180, .int .i64 t181, .int .i64 t182] 24 (0, 0)) (by (with_reducible repeat (first | refine blk_drewN ?_ _ | refine blk_drew ?_ | refine blk_alloc ?_ _)); exact BK184.out) hb); have n7_ := Aside0.mk (below_step (by repeat (with_reducible first | exact HB.out | apply below_alloc | apply pw_below_drewN | apply below_drew1 | refine below_set ?_ GE184.out)) hb); clear HO170; clear HO174; clear HO178; clear HO187; clear HO190; clear HO193; clear BK184; clear HB; have HO170 := n0_; have HO174 := n1_; have HO178 := n2_; have HO187 := n3_; have HO190 := n4_; have HO193 := n5_; have BK184 := n6_; have HB := n7_; clear n0_ n1_ n2_ n3_ n4_ n5_ n6_ n7_; (try clear hb); (try clear hb2); (try clear hk); (try clear hi); obtain ⟨Ao42, co42, eo42⟩ := Kd.R_slice HO190.out; subst eo42) | (go_at_call 26; (with_reducible refine (reads_Valid.calls k _ _ t168 _ _ y188 1 t195 _ ?side1 ?side2 ?side3 ?side4 A14.out).mono ?_); (case side1 => repeat (first | exact (Kd.V_reads' HO170.out).2.2 | with_reducible first | refine Kd.C_alloc ?_ _ | refine Kd.C_drewN ?_ _ | refine Kd.C_drew ?_)); (case side2 => exact (Kd.V_reads' HO170.out).2.1); (case side3 => repeat (first | exact (Kd.R_reads' HO190.out).2.2 | with_reducible first | refine Kd.C_alloc ?_ _ | refine Kd.C_drewN ?_ _ | refine Kd.C_drew ?_)); (case side4 => exact (Kd.R_reads' HO190.out).2.1); rintro e w43 ⟨rfl, hb⟩; have n0_ := Aside0.mk (Kd.V_below (by (with_reducible repeat (first | apply Kd.V_alloc | apply Kd.V_drewN | apply Kd.V_drew)); exact HO170.out) hb); have n1_ := Aside0.mk (Kd.V_below (by (with_reducible repeat (first | apply Kd.V_alloc | apply Kd.V_drewN | apply Kd.V_drew)); exact HO174.out) hb); have n2_ := Aside0.mk (Kd.V_below (by (with_reducible repeat (first | apply Kd.V_alloc | apply Kd.V_drewN | apply Kd.V_drew)); exact HO178.out) hb); have n3_ := Aside0.mk (Kd.R_below (by (with_reducible repeat (first | apply Kd.R_alloc | apply Kd.R_drewN | apply Kd.R_drew)); exact HO187.out) hb); have n4_ := Aside0.mk (Kd.R_below (by (with_reducible repeat (first | apply Kd.R_alloc | apply Kd.R_drewN | apply Kd.R_drew)); exact HO190.out) hb); have n5_ := Aside0.mk (Kd.R_below (by (with_reducible repeat (first | apply Kd.R_alloc | apply Kd.R_drewN | apply Kd.R_drew)); exact HO193.out) hb); have n6_ := Aside0.mk (blk_below (g := gb184) (o := .cells #[.int .i64 t180, .int .i64 t181, .int .i64 t182] 24 (0, 0)) (by (with_reducible repeat (first | refine blk_drewN ?_ _ | refine blk_drew ?_ | refine blk_alloc ?_ _)); exact BK184.out) hb); have n7_ := Aside0.mk (below_step (by repeat (with_reducible first | exact HB.out | apply below_alloc | apply pw_below_drewN | apply below_drew1 | refine below_set ?_ GE184.out)) hb); clear HO170; clear HO174; clear HO178; clear HO187; clear HO190; clear HO193; clear BK184; clear HB; have HO170 := n0_; have HO174 := n1_; have HO178 := n2_; have HO187 := n3_; have HO190 := n4_; have HO193 := n5_; have BK184 := n6_; have HB := n7_; clear n0_ n1_ n2_ n3_ n4_ n5_ n6_ n7_; (try clear hb); (try clear hb2); (try clear hk); (try clear hi)) | (go_at_call 26; (with_reducible refine (reads_Valid.calls k _ _ t168 _ _ y188 2 t196 _ ?side1 ?side2 ?side3 ?side4 A16.out).mono ?_); (case side1 => repeat (first | exact (Kd.V_reads' HO170.out).2.2 | with_reducible first | refine Kd.C_alloc ?_ _ | refine Kd.C_drewN ?_ _ | refine Kd.C_drew ?_)); (case side2 => exact (Kd.V_reads' HO170.out).2.1); (case side3 => repeat (first | exact (Kd.R_reads' HO190.out).2.2 | with_reducible first | refine Kd.C_alloc ?_ _ | refine Kd.C_drewN ?_ _ | refine Kd.C_drew ?_)); (case side4 => exact (Kd.R_reads' HO190.out).2.1); rintro e w44 ⟨rfl, hb⟩; have n0_ := Aside0.mk (Kd.V_below (by (with_reducible repeat (first | apply Kd.V_alloc | apply Kd.V_drewN | apply Kd.V_drew)); exact HO170.out) hb); have n1_ := Aside0.mk (Kd.V_below (by (with_reducible repeat (first | apply Kd.V_alloc | apply Kd.V_drewN | apply Kd.V_drew)); exact HO174.out) hb); have n2_ := Aside0.mk (Kd.V_below (by (with_reducible repeat (first | apply Kd.V_alloc | apply Kd.V_drewN | apply Kd.V_drew)); exact HO178.out) hb); have n3_ := Aside0.mk (Kd.R_below (by (with_reducible repeat (first | apply Kd.R_alloc | apply Kd.R_drewN | apply Kd.R_drew)); exact HO187.out) hb); have n4_ := Aside0.mk (Kd.R_below (by (with_reducible repeat (first | apply Kd.R_alloc | apply Kd.R_drewN | apply Kd.R_drew)); exact HO190.out) hb); have n5_ := Aside0.mk (Kd.R_below (by (with_reducible repeat (first | apply Kd.R_alloc | apply Kd.R_drewN | apply Kd.R_drew)); exact HO193.out) hb); have n6_ := Aside0.mk (blk_below (g := gb184) (o := .cells #[.int .i64 t180, .int .i64 t181, .int .i64 t182] 24 (0, 0)) (by (with_reducible repeat (first | refine blk_drewN ?_ _ | refine blk_drew ?_ | refine blk_alloc ?_ _)); exact BK184.out) hb); have n7_ := Aside0.mk (below_step (by repeat (with_reducible first | exact HB.out | apply below_alloc | apply pw_below_drewN | apply below_drew1 | refine below_set ?_ GE184.out)) hb); clear HO170; clear HO174; clear HO178; clear HO187; clear HO190; clear HO193; clear BK184; clear HB; have HO170 := n0_; have HO174 := n1_; have HO178 := n2_; have HO187 := n3_; have HO190 := n4_; have HO193 := n5_; have BK184 := n6_; have HB := n7_; clear n0_ n1_ n2_ n3_ n4_ n5_ n6_ n7_; (try clear hb); (try clear hb2); (try clear hk); (try clear hi); obtain ⟨Ao45, co45, eo45⟩ := Kd.R_slice HO193.out; subst eo45) | (go_at_call 28; (with_reducible refine (reads_Same.calls k _ _ t168 _ _ y191 true _ ?side1 ?side2 ?side3 ?side4 A18.out).mono ?_); (case side1 => repeat (first | exact (Kd.V_reads' HO170.out).2.2 | with_reducible first | refine Kd.C_alloc ?_ _ | refine Kd.C_drewN ?_ _ | refine Kd.C_drew ?_)); (case side2 => exact (Kd.V_reads' HO170.out).2.1); (case side3 => repeat (first | exact (Kd.R_reads' HO193.out).2.2 | with_reducible first | refine Kd.C_alloc ?_ _ | refine Kd.C_drewN ?_ _ | refine Kd.C_drew ?_)); (case side4 => exact (Kd.R_reads' HO193.out).2.1); rintro e w46 ⟨rfl, hb⟩; have n0_ := Aside0.mk (Kd.V_below (by (with_reducible repeat (first | apply Kd.V_alloc | apply Kd.V_drewN | apply Kd.V_drew)); exact HO170.out) hb); have n1_ := Aside0.mk (Kd.V_below (by (with_reducible repeat (first | apply Kd.V_alloc | apply Kd.V_drewN | apply Kd.V_drew)); exact HO174.out) hb); have n2_ := Aside0.mk (Kd.V_below (by (with_reducible repeat (first | apply Kd.V_alloc | apply Kd.V_drewN | apply Kd.V_drew)); exact HO178.out) hb); have n3_ := Aside0.mk (Kd.R_below (by (with_reducible repeat (first | apply Kd.R_alloc | apply Kd.R_drewN | apply Kd.R_drew)); exact HO187.out) hb); have n4_ := Aside0.mk (Kd.R_below (by (with_reducible repeat (first | apply Kd.R_alloc | apply Kd.R_drewN | apply Kd.R_drew)); exact HO190.out) hb); have n5_ := Aside0.mk (Kd.R_below (by (with_reducible repeat (first | apply Kd.R_alloc | apply Kd.R_drewN | apply Kd.R_drew)); exact HO193.out) hb); have n6_ := Aside0.mk (blk_below (g := gb184) (o := .cells #[.int .i64 t180, .int .i64 t181, .int .i64 t182] 24 (0, 0)) (by (with_reducible repeat (first | refine blk_drewN ?_ _ | refine blk_drew ?_ | refine blk_alloc ?_ _)); exact BK184.out) hb); have n7_ := Aside0.mk (below_step (by repeat (with_reducible first | exact HB.out | apply below_alloc | apply pw_below_drewN | apply below_drew1 | refine below_set ?_ GE184.out)) hb); clear HO170; clear HO174; clear HO178; clear HO187; clear HO190; clear HO193; clear BK184; clear HB; have HO170 := n0_; have HO174 := n1_; have HO178 := n2_; have HO187 := n3_; have HO190 := n4_; have HO193 := n5_; have BK184 := n6_; have HB := n7_; clear n0_ n1_ n2_ n3_ n4_ n5_ n6_ n7_; (try clear hb); (try clear hb2); (try clear hk); (try clear hi)) | (go_at_call 25; (with_reducible refine (reads_Cells.calls k _ _ t168 t198 _ ?side1 ?side2 A20.out).mono ?_); (case side1 => repeat (first | exact (Kd.V_reads' HO170.out).2.2 | with_reducible first | refine Kd.C_alloc ?_ _ | refine Kd.C_drewN ?_ _ | refine Kd.C_drew ?_)); (case side2 => exact (Kd.V_reads' HO170.out).2.1); rintro e w47 ⟨v199, rfl, ho0, hb⟩; have n0_ := Aside0.mk (Kd.V_elder' (by (with_reducible repeat (first | apply Kd.V_alloc | apply Kd.V_drewN | apply Kd.V_drew)); exact HO170.out) (Kd.R_base ho0) hb); have n1_ := Aside0.mk (Kd.V_elder' (by (with_reducible repeat (first | apply Kd.V_alloc | apply Kd.V_drewN | apply Kd.V_drew)); exact HO174.out) (Kd.R_base ho0) hb); have n2_ := Aside0.mk (Kd.V_elder' (by (with_reducible repeat (first | apply Kd.V_alloc | apply Kd.V_drewN | apply Kd.V_drew)); exact HO178.out) (Kd.R_base ho0) hb); have n3_ := Aside0.mk (Kd.R_below (by (with_reducible repeat (first | apply Kd.R_alloc | apply Kd.R_drewN | apply Kd.R_drew)); exact HO187.out) hb); have n4_ := Aside0.mk (Kd.R_below (by (with_reducible repeat (first | apply Kd.R_alloc | apply Kd.R_drewN | apply Kd.R_drew)); exact HO190.out) hb); have n5_ := Aside0.mk (Kd.R_below (by (with_reducible repeat (first | apply Kd.R_alloc | apply Kd.R_drewN | apply Kd.R_drew)); exact HO193.out) hb); have n6_ := Aside0.mk (Kd.R_lower ho0 (below_size (by repeat (with_reducible first | exact HB.out | apply below_alloc | apply pw_below_drewN | apply below_drew1 | refine below_set ?_ GE184.out)))); have n7_ := Aside0.mk (blk_below (g := gb184) (o := .cells #[.int .i64 t180, .int .i64 t181, .int .i64 t182] 24 (0, 0)) (by (with_reducible repeat (first | refine blk_drewN ?_ _ | refine blk_drew ?_ | refine blk_alloc ?_ _)); exact BK184.out) hb); have n8_ := Aside0.mk (below_step (by repeat (with_reducible first | exact HB.out | apply below_alloc | apply pw_below_drewN | apply below_drew1 | refine below_set ?_ GE184.out)) hb); clear HO170; clear HO174; clear HO178; clear HO187; clear HO190; clear HO193; clear BK184; clear HB; have HO170 := n0_; have HO174 := n1_; have HO178 := n2_; have HO187 := n3_; have HO190 := n4_; have HO193 := n5_; have HO200 := n6_; have BK184 := n7_; have HB := n8_; clear n0_ n1_ n2_ n3_ n4_ n5_ n6_ n7_ n8_; (try clear hb); (try clear hb2); (try clear hk); (try clear hi); (try clear ho0)) | ((with_reducible refine gate_dst (N := 99) rfl ?_); (try (refine gate_guard (by rfl) ?_; dsimp only)); refine Kd.R_lit (Kd.int .i64) _ 3 ?hg (N := 99) ?hd (xs := ([3] : List Int)) (inner := [.int .i64 3]) (ok := fun _ => True) (okp := fun _ => True) ?hr ?hp (fun _ hk => hk) trivial (Below.refl _ _) (Nat.le_refl _) (by simp) ?_; (case hd => rfl); (case hg => rfl); (case hr => first | (go_simp; done) | (go_simp; rfl)); (case hp => exact (Reps.one (show Kd.M (Kd.int .i64) _ _ _ 3 [.int .i64 3] from rfl) (Reps.none _ _))); intro v202 w48 ho49 hb hg_ hnew_; clear hg_ hnew_; (first | rw [← Ny201.out] at ho49 | (simp only [Int.reduceToNat] at ho49; rw [← Ny201.out] at ho49)); have n0_ := Aside0.mk (Kd.V_elder' (by (with_reducible repeat (first | apply Kd.V_alloc | apply Kd.V_drewN | apply Kd.V_drew)); exact HO170.out) (Kd.R_base ho49) hb); have n1_ := Aside0.mk (Kd.V_elder' (by (with_reducible repeat (first | apply Kd.V_alloc | apply Kd.V_drewN | apply Kd.V_drew)); exact HO174.out) (Kd.R_base ho49) hb); have n2_ := Aside0.mk (Kd.V_elder' (by (with_reducible repeat (first | apply Kd.V_alloc | apply Kd.V_drewN | apply Kd.V_drew)); exact HO178.out) (Kd.R_base ho49) hb); have n3_ := Aside0.mk (Kd.R_below (by (with_reducible repeat (first | apply Kd.R_alloc | apply Kd.R_drewN | apply Kd.R_drew)); exact HO187.out) hb); have n4_ := Aside0.mk (Kd.R_below (by (with_reducible repeat (first | apply Kd.R_alloc | apply Kd.R_drewN | apply Kd.R_drew)); exact HO190.out) hb); have n5_ := Aside0.mk (Kd.R_below (by (with_reducible repeat (first | apply Kd.R_alloc | apply Kd.R_drewN | apply Kd.R_drew)); exact HO193.out) hb); have n6_ := Aside0.mk (Kd.R_elder' (by (with_reducible repeat (first | apply Kd.R_alloc | apply Kd.R_drewN | apply Kd.R_drew)); exact HO200.out) (Kd.R_base ho49) hb); have n7_ := Aside0.mk (Kd.R_lower (Kd.R_new' ho49 (Kd.R_lt (by (with_reducible repeat (first | apply Kd.R_alloc | apply Kd.R_drewN | apply Kd.R_drew)); exact HO200.out))) (below_size (by repeat (with_reducible first | exact HB.out | apply below_alloc | apply pw_below_drewN | apply below_drew1 | refine below_set ?_ GE184.out)))); have n8_ := Aside0.mk (blk_below (g := gb184) (o := .cells #[.int .i64 t180, .int .i64 t181, .int .i64 t182] 24 (0, 0)) (by (with_reducible repeat (first | refine blk_drewN ?_ _ | refine blk_drew ?_ | refine blk_alloc ?_ _)); exact BK184.out) hb); have n9_ := Aside0.mk (below_step (by repeat (with_reducible first | exact HB.out | apply below_alloc | apply pw_below_drewN | apply below_drew1 | refine below_set ?_ GE184.out)) hb); clear HO170; clear HO174; clear HO178; clear HO187; clear HO190; clear HO193; clear HO200; clear BK184; clear HB; have HO170 := n0_; have HO174 := n1_; have HO178 := n2_; have HO187 := n3_; have HO190 := n4_; have HO193 := n5_; have HO200 := n6_; have HO203 := n7_; have BK184 := n8_; have HB := n9_; clear n0_ n1_ n2_ n3_ n4_ n5_ n6_ n7_ n8_ n9_; clear hb ho49; obtain ⟨Ao50, co50, eo50⟩ := Kd.R_slice HO200.out; subst eo50; obtain ⟨Ao51, co51, eo51⟩ := Kd.R_slice HO203.out; subst eo51) | (go_at_call 24; (with_reducible refine (handshakerref03_Numbers.calls k _ _ t198 _ _ y201 true _ ?side1 ?side2 ?side3 ?side4 A21.out).mono ?_); (case side1 => repeat (first | exact (Kd.R_reads' HO200.out).2.2 | with_reducible first | refine Kd.C_alloc ?_ _ | refine Kd.C_drewN ?_ _ | refine Kd.C_drew ?_)); (case side2 => exact (Kd.R_reads' HO200.out).2.1); (case side3 => repeat (first | exact (Kd.R_reads' HO203.out).2.2 | with_reducible first | refine Kd.C_alloc ?_ _ | refine Kd.C_drewN ?_ _ | refine Kd.C_drew ?_)); (case side4 => exact (Kd.R_reads' HO203.out).2.1); rintro e w' ⟨rfl, ⟨nd, rfl⟩⟩) | (go_at_call 22; (with_reducible refine (reads_Right.calls k _ _ t168 true _ ?side1 ?side2 A23.out).mono ?_); (case side1 => repeat (first | exact (Kd.V_reads' HO170.out).2.2 | with_reducible first | refine Kd.C_alloc ?_ _ | refine Kd.C_drewN ?_ _ | refine Kd.C_drew ?_)); (case side2 => exact (Kd.V_reads' HO170.out).2.1); rintro e w52 ⟨rfl, hb⟩; have n0_ := Aside0.mk (Kd.V_below (by (with_reducible repeat (first | apply Kd.V_alloc | apply Kd.V_drewN | apply Kd.V_drew)); exact HO170.out) hb); have n1_ := Aside0.mk (Kd.V_below (by (with_reducible repeat (first | apply Kd.V_alloc | apply Kd.V_drewN | apply Kd.V_drew)); exact HO174.out) hb); have n2_ := Aside0.mk (Kd.V_below (by (with_reducible repeat (first | apply Kd.V_alloc | apply Kd.V_drewN | apply Kd.V_drew)); exact HO178.out) hb); have n3_ := Aside0.mk (Kd.R_below (by (with_reducible repeat (first | apply Kd.R_alloc | apply Kd.R_drewN | apply Kd.R_drew)); exact HO187.out) hb); have n4_ := Aside0.mk (Kd.R_below (by (with_reducible repeat (first | apply Kd.R_alloc | apply Kd.R_drewN | apply Kd.R_drew)); exact HO190.out) hb); have n5_ := Aside0.mk (Kd.R_below (by (with_reducible repeat (first | apply Kd.R_alloc | apply Kd.R_drewN | apply Kd.R_drew)); exact HO193.out) hb); have n6_ := Aside0.mk (Kd.R_below (by (with_reducible repeat (first | apply Kd.R_alloc | apply Kd.R_drewN | apply Kd.R_drew)); exact HO200.out) hb); have n7_ := Aside0.mk (Kd.R_below (by (with_reducible repeat (first | apply Kd.R_alloc | apply Kd.R_drewN | apply Kd.R_drew)); exact HO203.out) hb); have n8_ := Aside0.mk (blk_below (g := gb184) (o := .cells #[.int .i64 t180, .int .i64 t181, .int .i64 t182] 24 (0, 0)) (by (with_reducible repeat (first | refine blk_drewN ?_ _ | refine blk_drew ?_ | refine blk_alloc ?_ _)); exact BK184.out) hb); have n9_ := Aside0.mk (below_step (by repeat (with_reducible first | exact HB.out | apply below_alloc | apply pw_below_drewN | apply below_drew1 | refine below_set ?_ GE184.out)) hb); clear HO170; clear HO174; clear HO178; clear HO187; clear HO190; clear HO193; clear HO200; clear HO203; clear BK184; clear HB; have HO170 := n0_; have HO174 := n1_; have HO178 := n2_; have HO187 := n3_; have HO190 := n4_; have HO193 := n5_; have HO200 := n6_; have HO203 := n7_; have BK184 := n8_; have HB := n9_; clear n0_ n1_ n2_ n3_ n4_ n5_ n6_ n7_ n8_ n9_; (try clear hb); (try clear hb2); (try clear hk); (try clear hi)))
                           go_ret
                           exact ⟨by first | rfl | (simp [errW_none, errW_some] <;> rfl) | (simp [*, errW_none, errW_some] <;> rfl), by repeat (with_reducible first | exact HB.out | apply below_alloc | apply pw_below_drewN | apply below_drew1 | refine below_set ?_ GE184.out)⟩
                         · replace c24 := Bool.eq_false_iff.mpr c24
                           subst c24
                           have H1 : (some false) = some r := by rw [if_neg (show ¬ (false = true) by decide)] at H; exact H
                           clear H
                           have H := H1
                           clear H1
                           exact absurd (Option.some.inj H) (by rw [HT.out]; decide)
                       · replace c22 := Bool.eq_false_iff.mpr c22
                         subst c22
                         have H1 : (some false) = some r := by rw [if_neg (show ¬ (false = true) by decide)] at H; exact H
                         clear H
                         have H := H1
                         clear H1
                         exact absurd (Option.some.inj H) (by rw [HT.out]; decide)
                     · replace c19 := Bool.eq_false_iff.mpr c19
                       subst c19
                       have H1 : (some false) = some r := by rw [if_neg (show ¬ (false = true) by decide)] at H; exact H
                       clear H
                       have H := H1
                       clear H1
                       exact absurd (Option.some.inj H) (by rw [HT.out]; decide)
                   · rw [if_neg c17] at H
                     have c17b0 : (t196 == 0) = false := beq_eq_false_iff_ne.mpr c17
                     have c17b1 : (t196 != 0) = true := bne_iff_ne.mpr c17
                     exact absurd (Option.some.inj H) (by rw [HT.out]; decide)
                 · rw [if_neg c15] at H
                   have c15b0 : (t195 == 8) = false := beq_eq_false_iff_ne.mpr c15
                   have c15b1 : (t195 != 8) = true := bne_iff_ne.mpr c15
                   exact absurd (Option.some.inj H) (by rw [HT.out]; decide)
               · rw [if_neg c13] at H
                 have c13b0 : (t194 == 0) = false := beq_eq_false_iff_ne.mpr c13
                 have c13b1 : (t194 != 0) = true := bne_iff_ne.mpr c13
                 exact absurd (Option.some.inj H) (by rw [HT.out]; decide)
             · replace c11 := Bool.eq_false_iff.mpr c11
               subst c11
               have H1 : (some false) = some r := by rw [if_neg (show ¬ (false = true) by decide)] at H; exact H
               clear H
               have H := H1
               clear H1
               exact absurd (Option.some.inj H) (by rw [HT.out]; decide)
           · rw [if_neg c10] at H
             have c10b0 : (t182 == 5) = false := beq_eq_false_iff_ne.mpr c10
             have c10b1 : (t182 != 5) = true := bne_iff_ne.mpr c10
             exact absurd (Option.some.inj H) (by rw [HT.out]; decide)
         · rw [if_neg c9] at H
           have c9b0 : (t179 == 8) = false := beq_eq_false_iff_ne.mpr c9
           have c9b1 : (t179 != 8) = true := bne_iff_ne.mpr c9
           exact absurd (Option.some.inj H) (by rw [HT.out]; decide)
       · rw [if_neg c8] at H
         have c8b0 : ((t172.length : Int) == 1) = false := beq_eq_false_iff_ne.mpr c8
         have c8b1 : ((t172.length : Int) != 1) = true := bne_iff_ne.mpr c8
         exact absurd (Option.some.inj H) (by rw [HT.out]; decide)
     · rw [if_neg c7] at H
       have c7b0 : (t175 == 0) = false := beq_eq_false_iff_ne.mpr c7
       have c7b1 : (t175 != 0) = true := bne_iff_ne.mpr c7
       exact absurd (Option.some.inj H) (by rw [HT.out]; decide)
   · rw [if_neg c6] at H
     have c6b0 : ((t168.length : Int) == 1) = false := beq_eq_false_iff_ne.mpr c6
     have c6b1 : ((t168.length : Int) != 1) = true := bne_iff_ne.mpr c6
     exact absurd (Option.some.inj H) (by rw [HT.out]; decide)
 · rw [if_neg c5] at H
   have c5b0 : (t171 == 0) = false := beq_eq_false_iff_ne.mpr c5
   have c5b1 : (t171 != 0) = true := bne_iff_ne.mpr c5
   exact absurd (Option.some.inj H) (by rw [HT.out]; decide)

theorem handshakerlaw05_awake.only (k : Nat) (r : Bool) (h : handshakerlaw05_awake.f k = some r) : r = true := by
 have h1 : handshakerlaw05_awake.f 60 = some true := by decide +kernel
 have h2 := at_rounds (g := handshakerlaw05_awake.f) handshakerlaw05_awake.mono (Nat.le_max_left k 60) h
 have h3 := at_rounds (g := handshakerlaw05_awake.f) handshakerlaw05_awake.mono (Nat.le_max_right k 60) h1
 rw [h2] at h3
 exact Option.some.inj h3
theorem handshakerlaw05_awake.calls (k : Nat) (r : Bool) (w : World) (h : handshakerlaw05_awake.f k = some r) :
 Calls Try.prog 15 #[] w fun e w' => e = .returned (.bool r) ∧ Below w.heap.size w w' :=
 handshakerlaw05_awake.callsT k r w ⟨handshakerlaw05_awake.only k r h⟩ h

-- NOT PRINTED: function 77 (slices_IndexFunc_77)

-- NOT PRINTED: function 59 (slices_ContainsFunc_59)

/-! ### stripe_below: function 60 -/
def stripe_below.f (a0 : Int) : Option (Bool) := some (decide (a0 < 0))
set_option maxHeartbeats 8000000 in
set_option maxRecDepth 100000 in
theorem stripe_below.calls (a0 : Int) (r : Bool) (w : World) (h : stripe_below.f a0 = some r) :
 Calls Try.prog 60 #[.int .i64 a0] w fun e w' => e = .returned (.bool r) ∧ Drawn0 w w' := by
 have H : (some (decide (a0 < 0))) = some r := h
 clear h
 obtain rfl := Option.some.inj H
 go_enter Try.func60, Try.ntmps60
 go_wp2
 go_ret
 exact ⟨by first | rfl | (simp; done) | (simp [*]; done), by repeat (first | exact Drawn0.refl _ | apply Drawn0.step)⟩

/-! ### slices_Compact: function 62: the library's, by its contract -/
def slices_Compact.f (l0 : List Int) : Option (List Int) := if l0.length ≤ 9223372036854775807 then some (Go.Lib.compact l0) else none
set_option maxHeartbeats 2000000 in
theorem slices_Compact.calls (P0_ : Nat → Prop) (u9000_ : Value) (l0 : List Int) (r : List Int) (w0 w : World) (hB : Below w0.heap.size w0 w) (ho0 : Kd.R (Kd.int .i64) 3 w w0.heap.size P0_ u9000_ l0) (h : slices_Compact.f l0 = some r) :
 Calls Try.prog 62 #[u9000_] w fun e w' => ∃ v0_ : Value, e = .returned (v0_) ∧ Kd.R (Kd.int .i64) 3 w' w0.heap.size (fun k_ => (P0_ k_ ∨ w.heap.size ≤ k_)) v0_ r ∧ Below w0.heap.size w0 w' ∧ Kept w w' (fun k_ => P0_ k_) := by
 unfold slices_Compact.f at h
 split at h
 case isFalse => exact absurd h (by simp)
 rename_i hlen
 obtain rfl := Option.some.inj h
 rcases Nat.eq_zero_or_pos l0.length with h0 | h0
 · obtain rfl : l0 = [] := List.length_eq_zero_iff.1 h0
   obtain ⟨_, ho⟩ := Kd.R_own ho0
   obtain ⟨A, c, rfl⟩ := own_slice ho
   refine (Try.slices_Compact_int_empty A c w).mono ?_
   rintro e w' ⟨rfl, rfl⟩
   exact ⟨_, rfl, Kd.R_mono (by simpa [Go.Lib.compact, Go.Lib.compactUpTo] using ho0) (fun k hk => .inl hk), hB, Kept.refl _ _⟩
 · obtain ⟨g, cap, rfl, hbg, hgl, _⟩ := Kd.R_form ho0 h0
   have hcap : l0.length ≤ cap := by
    rcases (Kd.own_of_R (enc := Value.int .i64) (h1 := fun _ => rfl) ho0).2 with ⟨e1, _⟩ | ⟨g', cap', cur, e1, _, _, hn, _⟩
    · cases e1
    · injection e1 with e1 e2 e3
      omega
   refine (Try.slices_Compact_int g 0 cap l0 w (So.holds_of ho0) hlen hcap).mono ?_
   rintro e w' ⟨rfl, q, rfl⟩
   have hcl : (Go.Lib.compact l0).length ≤ l0.length := So.compact_len l0
   rw [← Go.Sort.grow_empty (Go.Sort.putRow _ _ _ _ _)]
   have hr := So.put_row ho0 q (Go.Lib.compact l0 ++ List.replicate (l0.length - (Go.Lib.compact l0).length) 0) (Go.Lib.compact l0) #[] (by rw [List.length_append, List.length_replicate]; omega) (by rw [List.take_left']; rfl) h0
   exact ⟨_, rfl, Kd.R_mono hr (fun k hk => .inl hk), So.put_below hB q g _ #[] hgl hbg, So.put_kept q g _ #[] hgl (ho0.1 g rfl)⟩

/-! ### ho77: slices.IndexFunc, function 77, at whatever function value that reads -/
set_option maxHeartbeats 2000000 in
theorem ho77 (p : Int → Option Bool) (g : Nat) (lb : Array Value) (eg : ∀ args w, (callFunc g args).run Try.prog w = .ok (.enter g args) w) (A0 : Option Addr) (c0 : Nat) (l0 : List Int) (r : Int) (w : World)
 (hr0 : Kd.C (Kd.int .i64) w A0 l0.length l0)
 (hp : ∀ (W : World) (x : Int) (b : Bool), Below w.heap.size w W → p x = some b → Calls Try.prog g (#[.int .i64 x] ++ lb) W fun e W' => e = .returned (.bool b) ∧ Below W.heap.size W W')
 (h : idxF p l0 0 = some r) :
 Calls Try.prog 77 #[.slice A0 l0.length c0, .func (.func g) #[] lb] w fun e w' => e = .returned (.int .i64 r) ∧ Below w.heap.size w w' := by
 have hmax : l0.length ≤ 9223372036854775807 := Kd.C_max hr0
 have hread : ∀ (W : World), Below w.heap.size w W → ∀ j : Nat, j < l0.length → ∃ ad, A0 = some ad ∧ W.cell? (ad.add j) = some (.int .i64 (rd l0 j)) := by
  intro W hW j hj
  have := Kd.at_int (Kd.C_below hr0 hW) (j : Int) (by omega) (by omega)
  simpa only [Int.toNat_natCast] using this
 generalize hn : l0.length = n at *
 have HR := Aside0.mk hread
 have HP := Aside0.mk hp
 have HH := Aside0.mk h
 clear hread hp h hr0
 have HN := Aside0.mk hn
 clear hn
 go_enter Try.func77, Try.ntmps77
 go_wp2
 go_loopg [5, 8] n (fun gg _ s8 wr => ∃ kk : Nat, kk ≤ n ∧ n - kk ≤ gg ∧ s8 = .int .i64 kk ∧ Aside0 (Below w.heap.size w wr) ∧ Aside0 (idxF p (l0.drop kk) kk = some r))
 case atStart => exact ⟨0, Nat.zero_le _, by omega, rfl, ⟨Below.refl _ w⟩, ⟨HH.out⟩⟩
 case round =>
  obtain ⟨kk, hkk, hg, rfl, BW, HI⟩ := hrel
  by_cases hlt : kk < n
  · have hltz : (kk : Int) < (n : Int) := by omega
    obtain ⟨ad, e0, q0⟩ := HR.out wr BW.out kk hlt
    have hi := HI.out
    rw [idxF_drop p l0 0 kk (by rw [HN.out]; exact hlt)] at hi
    obtain ⟨b, hb, hi⟩ := Option.bind_eq_some_iff.mp hi
    have hcall := HP.out wr _ b BW.out hb
    (try rw [show l0.getD kk 0 = rd l0 kk from rfl] at hcall)
    generalize rd l0 kk = y at q0 hcall
    subst e0
    clear hb HI
    cases b with
    | true =>
     have hi2 : (kk : Int) = r := by simpa using hi
     clear hi
     have HE := Aside0.mk hi2
     clear hi2
     go_wp2_with (go_at_fn g; refine hcall.mono ?_; rintro e w' ⟨rfl, hb'⟩)
     go_ret
     exact ⟨by first | rfl | (rw [← HE.out]; rfl) | simp [HE.out], BW.out.trans (hb'.mono BW.out.size)⟩
    | false =>
     have hi2 : idxF p (l0.drop (kk + 1)) (kk + 1) = some r := by simpa using hi
     clear hi
     have HE := Aside0.mk hi2
     clear hi2
     go_wp2_with (go_at_fn g; refine hcall.mono ?_; rintro e w' ⟨rfl, hb'⟩)
     go_roundg (n - (kk + 1))
     case measure => omega
     case rel =>
      exact ⟨kk + 1, by omega, by omega, by go_num, ⟨BW.out.trans (hb'.mono BW.out.size)⟩, ⟨HE.out⟩⟩
  · have hltz : ¬ (kk : Int) < (n : Int) := by omega
    have : kk = n := by omega
    subst this
    have hi := HI.out
    rw [List.drop_of_length_le (by rw [HN.out]; omega)] at hi
    have hi2 : -1 = r := by simpa [idxF] using hi
    clear hi HI
    have HE := Aside0.mk hi2
    clear hi2
    go_wp2
    go_ret
    exact ⟨by first | rfl | (rw [← HE.out]; rfl) | simp [HE.out], BW.out⟩

/-! ### ho59: slices.ContainsFunc, function 59 -/
set_option maxHeartbeats 2000000 in
theorem ho59 (p : Int → Option Bool) (g : Nat) (lb : Array Value) (eg : ∀ args w, (callFunc g args).run Try.prog w = .ok (.enter g args) w) (A0 : Option Addr) (c0 : Nat) (l0 : List Int) (r : Bool) (w : World)
 (hr0 : Kd.C (Kd.int .i64) w A0 l0.length l0)
 (hp : ∀ (W : World) (x : Int) (b : Bool), Below w.heap.size w W → p x = some b → Calls Try.prog g (#[.int .i64 x] ++ lb) W fun e W' => e = .returned (.bool b) ∧ Below W.heap.size W W')
 (h : anyF p l0 = some r) :
 Calls Try.prog 59 #[.slice A0 l0.length c0, .func (.func g) #[] lb] w fun e w' => e = .returned (.bool r) ∧ Below w.heap.size w w' := by
 obtain ⟨i, hi, hd⟩ := any_idx l0 0 r (by decide) h
 have hc := Aside0.mk (ho77 p g lb eg A0 c0 l0 i w hr0 hp hi)
 have HD := Aside0.mk hd
 clear hd hi h hp hr0 eg
 go_enter Try.func59, Try.ntmps59
 go_wp2_with (go_at_call 77; refine hc.out.mono ?_; rintro e w' ⟨rfl, hb⟩)
 go_ret
 exact ⟨by first | rfl | (rw [← HD.out]; rfl) | simp [HD.out], hb⟩

/-! ### any_at_stripe_below: function 59 at the function value 60 -/
def any_at_stripe_below.f (l0 : List (Int)) : Option (Bool) := anyF (fun x => stripe_below.f x) l0
theorem any_at_stripe_below.calls (A0 : Option Addr) (c0 : Nat) (l0 : List (Int)) (r : Bool) (w : World) (hr0 : Kd.C (Kd.int .i64) w A0 l0.length l0) (hc0 : l0.length ≤ c0) (h : any_at_stripe_below.f l0 = some r) :
 Calls Try.prog 59 #[.slice A0 l0.length c0, .func (.func 60) #[] #[]] w fun e w' => e = .returned (.bool r) ∧ Below w.heap.size w w' :=
 ho59 (fun x => stripe_below.f x) 60 #[] (enters_of Try.func60 (by kernel_rfl) rfl) A0 c0 l0 r w hr0 (fun W x b hW_ hx => by
  show Calls Try.prog 60 #[.int .i64 x] W _
  exact (stripe_below.calls x b W hx).mono (fun e W' ⟨he, hd⟩ => ⟨he, hd.below⟩)) h

end Go.Proofs.Ytlfmobnmohnjmaa.Rs
